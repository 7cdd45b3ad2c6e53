
/- The first room of the halves. -/
import Derived.Test.YtjbcgjahfalkaaaScaleP
import Derived.Test.YtjbcgjahfalkaaaNumL
set_option linter.unusedVariables false
set_option linter.unusedSimpArgs false
namespace Go.Proofs.Ytjbcgjahfalkaaa
open Go.RowKit
theorem cap_le_sum : ∀ {l : List Arc}, (∀ a ∈ l, 0 ≤ a.cap) → ∀ {a : Arc}, a ∈ l → a.cap ≤ (l.map (·.cap)).sum
  | [], _, _, h => by simp at h
  | b :: l, hp, a, h => by
    have h0 := hp b (by simp)
    have hs : 0 ≤ (l.map (·.cap)).sum := sum_nonneg _ fun x hx => by
      obtain ⟨d, hd, rfl⟩ := List.mem_map.1 hx
      exact hp d (by simp [hd])
    simp only [List.map_cons, List.sum_cons]
    rcases List.mem_cons.1 h with rfl | h
    · omega
    · have := cap_le_sum (fun d hd => hp d (by simp [hd])) h
      omega
theorem mostC_in {N : Net} (hR : N.Right) (k : Nat) : 0 ≤ mostC (N.arcs.take k) ∧ mostC (N.arcs.take k) ≤ 4611686018427387903 := by
  obtain ⟨h1, h2, h3⟩ := mostC_spec (N.arcs.take k) 0 fun a ha => (hR.arc a (List.mem_of_mem_take ha)).2.2
  refine ⟨h1, ?_⟩
  unfold mostC
  rcases h3 with h | ⟨a, ha, h⟩
  · rw [h]; decide
  · rw [h]
    have hs := hR.sum
    have := cap_le_sum (fun d hd => (hR.arc d hd).2.2) (List.mem_of_mem_take ha)
    omega
theorem starts_fn (N : Net) (hR : N.Right) (A : Option Addr) (c b o : Nat) (hA : N.arcs ≠ [] → A = some ⟨b, o, none⟩) : Fn 37 [netV N A c] [] [.seg b o (arcs N.arcs)] fun v H' => v = .int .i64 (floorOf (mostC N.arcs)) ∧ H' = [] := by
  have hl2 := hR.len
  refine Fn_of Try.func37 rfl rfl fun w0 => ?_
  (repeat' (first | refine J_seq ?_ | refine J_skip ?_ | refine J_yes rfl ?_ | refine J_no rfl ?_))
  refine J_region ?_
  refine JL_box (cs := netC N A c) rfl rfl rfl (fun _ => rfl) fun p1 => ?_
  refine JL_all [] rfl ?_
  (repeat' (first | refine J_seq ?_ | refine J_skip ?_ | refine J_yes rfl ?_ | refine J_no rfl ?_))
  refine J_region ?_
  refine JL_all [] rfl ?_
  (repeat' (first | refine J_seq ?_ | refine J_skip ?_ | refine J_yes rfl ?_ | refine J_no rfl ?_))
  refine J_region ?_
  refine JL_run [] rfl ?_
  refine JL_val [] (v := .slice A N.arcs.length c) (OpV_blk 0 rfl rfl rfl rfl) rfl ?_
  refine JL_all [] rfl ?_
  (repeat' (first | refine J_seq ?_ | refine J_skip ?_ | refine J_yes rfl ?_ | refine J_no rfl ?_))
  refine J_block ?_
  refine J_loopF (σ := Nat) (fun t => [(9, .int .i64 (t : Int)), (3, .int .i64 (mostC (N.arcs.take t))), (8, .int .i64 (N.arcs.length : Int)), (7, .slice A N.arcs.length c)])
    (fun _ => [.seg b o (arcs N.arcs)]) (fun t => t ≤ N.arcs.length) (fun t => N.arcs.length - t) 0 ⟨rfl, rfl, rfl, rfl, trivial⟩ (Fit.picks [1] (by decide) rfl) (Nat.zero_le _) ?_
  intro k hk
  (repeat' (first | refine J_seq ?_ | refine J_skip ?_ | refine J_yes rfl ?_ | refine J_no rfl ?_))
  refine J_region ?_
  refine JL_all [] rfl ?_
  refine J_seq (J_dec rfl (fun hlt => J_skip ?_) (fun hge => J_exit ?_))
  · have hkl : k < N.arcs.length := by omega
    obtain ⟨a, ha⟩ : ∃ a, N.arcs[k]? = some a := ⟨N.arcs[k], List.getElem?_eq_getElem hkl⟩
    obtain rfl := hA (by intro h0; rw [h0] at hkl; simp at hkl)
    refine J_seq (J_block ?_)
    (repeat' (first | refine J_seq ?_ | refine J_skip ?_ | refine J_yes rfl ?_ | refine J_no rfl ?_))
    refine J_region ?_
    refine JL_run [] rfl ?_
    refine JL_val [] (idxN rfl rfl rfl rfl rfl hkl) rfl ?_
    refine JL_val [] (ldseg 0 rfl rfl rfl rfl (readT_arc ha)) rfl ?_
    refine JL_alloc rfl rfl rfl (fun _ => rfl) fun q => ?_
    refine JL_store 0 rfl rfl rfl rfl rfl [] rfl ?_
    refine JL_nil ?_
    (repeat' (first | refine J_seq ?_ | refine J_skip ?_ | refine J_yes rfl ?_ | refine J_no rfl ?_))
    refine J_region ?_
    refine JL_run [] rfl ?_
    refine JL_val [] (v := .int .i64 a.cap) (OpV_blk 0 rfl rfl rfl rfl) rfl ?_
    refine JL_evO (gs := []) rfl ?_
    refine JL_set 16 (v' := .int .i64 (mostC (N.arcs.take (k + 1)))) rfl (by rw [List.take_add_one, ha]; unfold mostC; rw [List.foldl_append]; rfl) ?_
    refine JL_all [] rfl ?_
    (repeat' (first | refine J_seq ?_ | refine J_skip ?_ | refine J_yes rfl ?_ | refine J_no rfl ?_))
    refine J_region ?_
    refine JL_all [] rfl ?_
    refine ⟨k + 1, ⟨?_, rfl, rfl, rfl, trivial⟩, Fit.picks [1] (by decide) rfl, hkl, by show N.arcs.length - (k + 1) < N.arcs.length - k; omega⟩
    exact congrArg some (congrArg (Value.int .i64) (w64 (n := (k : Int) + 1) (by omega)))
  · obtain rfl : k = N.arcs.length := by omega
    rw [List.take_of_length_le (Nat.le_refl _)]
    have hb := mostC_in hR N.arcs.length
    rw [List.take_of_length_le (Nat.le_refl _)] at hb
    (repeat' (first | refine J_seq ?_ | refine J_skip ?_ | refine J_yes rfl ?_ | refine J_no rfl ?_))
    refine J_region ?_
    refine JL_run [] rfl ?_
    refine JL_callR [] (floor_fn (mostC N.arcs) (by unfold inB; omega)) rfl rfl rfl rfl (by kernel_rfl) trivial (fun _ => rfl) ?_
    rintro v H' ⟨rfl, rfl⟩
    refine ⟨rfl, ?_⟩
    refine JL_all [] rfl ?_
    exact J_drop [] (by decide) rfl (J_ret ⟨_, rfl, rfl, rfl⟩)
end Go.Proofs.Ytjbcgjahfalkaaa
