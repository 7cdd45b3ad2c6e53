
/- BudgetGrows: one more arc makes the bound greater by just one part, and a share is a thousand of the bound itself: however a network is made, any steps, no condition. -/
import Derived.Test.YtopcgkbjijdabaaMade18
import Derived.Test.YtopcgkbjijdabaaLShares
namespace Go.Proofs.Ytopcgkbjijdabaa
open Go.RowKit
theorem Net.Right.fits {N : Net} (h : N.Right) (hc : ∀ a ∈ N.arcs, a.cap ≤ 4611686018427387903) : N.Fits := by
  have h1 := h.nodes
  have h2 := h.src
  have h3 := h.snk
  have h4 := h.len
  refine ⟨by unfold inB; omega, by unfold inB; omega, by unfold inB; omega, by omega, fun a ha => ?_⟩
  have := h.arc a ha
  have := hc a ha
  unfold inB
  omega
def oneMore (N : Net) : Net := ⟨N.nodes, N.src, N.snk, N.arcs ++ [⟨1, 1, 0⟩]⟩
theorem grows_fn (nodes : Int) (hn : inB nodes) (ends : Int) (he : inB ends) (A : Option Addr) (c b o : Nat) (l : List Arc) (hA : l ≠ [] → A = some ⟨b, o, none⟩) (hl : ∀ x ∈ l, inB x.fr ∧ inB x.to ∧ inB x.cap) (hs : l.length * 24 ≤ 140737488351232) (steps : Int) (_hst : inB steps) :
    Fn 11 [.int .i64 nodes, .int .i64 ends, .slice A l.length c, .int .i64 steps] [] [.seg b o (arcs l)] fun v _ => v = .bool true := by
  have ts := tmod_cases steps (m := 1000000) (by decide)
  obtain ⟨k, hk⟩ : ∃ d, d = steps.tmod 1000000 := ⟨_, rfl⟩
  refine Fn_of Try.func11 rfl rfl fun w0 => ?_
  (repeat' (first | refine J_seq ?_ | refine J_skip ?_ | refine J_yes rfl ?_ | refine J_no rfl ?_))
  refine J_region ?_
  refine JL_all [] rfl ?_
  (repeat' (first | refine J_seq ?_ | refine J_skip ?_ | refine J_yes rfl ?_ | refine J_no rfl ?_))
  refine J_region ?_
  refine JL_callR [] (shown18_fn) rfl rfl rfl rfl (by kernel_rfl) trivial (fun _ => rfl) ?_
  rintro v H' ⟨rfl, rfl⟩
  refine ⟨rfl, ?_⟩
  refine JL_all [] rfl ?_
  (repeat' (first | refine J_seq ?_ | refine J_skip ?_ | refine J_yes rfl ?_ | refine J_no rfl ?_))
  refine J_region ?_
  refine JL_all [] rfl ?_
  (repeat' (first | refine J_seq ?_ | refine J_skip ?_ | refine J_yes rfl ?_ | refine J_no rfl ?_))
  refine J_region ?_
  refine JL_run [] rfl ?_
  refine JL_callR [] (made18_fn nodes ends hn he A c b o l hA hl (by omega)) rfl rfl rfl rfl (by kernel_rfl) ⟨⟨0, _, by simp, rfl, shows_seg _ _ _, seen_seg⟩, trivial⟩ (fun _ => rfl) ?_
  rintro v H' ⟨N, A', c', hR, hn9, h24, hcap, rfl, rfl⟩
  refine ⟨rfl, ?_⟩
  refine JL_alloc rfl rfl rfl (fun _ => rfl) fun b10 => ?_
  refine JL_store 0 rfl rfl rfl rfl rfl [] rfl ?_
  refine JL_know (own_is 1 rfl) fun ⟨_, _, hA1, hl1⟩ => ?_
  obtain ⟨g1, hA1⟩ := own_at hA1 hl1
  have hA1' : N.arcs ≠ [] → A' = some ⟨g1, 0, none⟩ := fun h => hA1 (fun h0 => h (List.length_eq_zero_iff.1 (by have := arcs_length N.arcs; rw [h0] at this; simp at this; omega)))
  have hF := hR.fits fun a ha => by have := hcap a ha; omega
  have hnn := hR.nodes
  refine JL_nil ?_
  (repeat' (first | refine J_seq ?_ | refine J_skip ?_ | refine J_yes rfl ?_ | refine J_no rfl ?_))
  refine J_region ?_
  refine JL_val [] (v := netV N A' c') (OpV_blk 0 rfl rfl rfl rfl) rfl ?_
  refine JL_callR [] (bound_fn N hF A' c' g1 0 hA1') rfl rfl rfl rfl (by kernel_rfl) ⟨⟨1, _, by simp, rfl, shows_ownS hA1, seen_ownS hA1⟩, trivial⟩ (fun _ => rfl) ?_
  rintro v H' ⟨rfl, rfl⟩
  refine ⟨rfl, ?_⟩
  rw [if_pos hR.check]
  refine JL_all [] rfl ?_
  (repeat' (first | refine J_seq ?_ | refine J_skip ?_ | refine J_yes rfl ?_ | refine J_no rfl ?_))
  refine J_region ?_
  refine JL_val [] (v := netV N A' c') (OpV_blk 0 rfl rfl rfl rfl) rfl ?_
  refine JL_alloc rfl rfl rfl (fun _ => rfl) fun b13 => ?_
  refine JL_store 0 rfl rfl rfl rfl rfl [] rfl ?_
  refine JL_nil ?_
  (repeat' (first | refine J_seq ?_ | refine J_skip ?_ | refine J_yes rfl ?_ | refine J_no rfl ?_))
  refine J_region ?_
  refine JL_lit rfl rfl rfl rfl rfl rfl rfl (fun _ => rfl) fun g2 => ?_
  refine JL_own 3 0 rfl (by decide) ?_
  refine JL_run [] rfl ?_
  refine JL_val [] (OpV_blk 2 rfl rfl rfl rfl) rfl ?_
  refine JL_appendS (n := 0) 0 3 rfl rfl rfl rfl rfl rfl (by decide) rfl rfl (shows_ownS hA1) hA1 (arcs_length _) (arcs_one _) (by omega) (by omega) (fun _ _ => rfl) fun A3 c3 => ?_
  refine JL_val [] (OpV_build rfl rfl rfl rfl rfl rfl) rfl ?_
  refine JL_lit rfl rfl rfl rfl rfl rfl rfl (fun _ => rfl) fun g3 => ?_
  refine JL_appendS (off := 0) (m := 1) (news := arcs [⟨1, 1, 0⟩]) 1 0 rfl rfl rfl rfl rfl rfl (by decide) rfl rfl (shows_blk g3 _ _ (0, 0)) (fun _ => rfl) rfl rfl (by omega) (by omega) (fun _ _ => rfl) fun A4 c4 => ?_
  rw [show 0 + N.arcs.length + 1 = (oneMore N).arcs.length by simp [oneMore], show ([] : List Value) ++ arcs N.arcs ++ arcs [⟨1, 1, 0⟩] = arcs (oneMore N).arcs by simp [oneMore, arcs_app]]
  refine JL_run [] rfl ?_
  have hMR : (oneMore N).Right := by
    refine ⟨hR.nodes, hR.src, hR.snk, hR.diff, by simp [oneMore]; omega, fun a ha => ?_, ?_⟩
    · rcases List.mem_append.1 ha with ha | ha
      · exact hR.arc a ha
      · obtain rfl := List.mem_singleton.1 ha
        show (1 ≤ (1 : Int) ∧ 1 ≤ N.nodes) ∧ (1 ≤ (1 : Int) ∧ 1 ≤ N.nodes) ∧ 0 ≤ (0 : Int)
        omega
    · have := hR.sum
      simp only [oneMore, List.map_append, List.sum_append, List.map_cons, List.map_nil, List.sum_cons, List.sum_nil]
      omega
  have hMF := hMR.fits fun a ha => by
    rcases List.mem_append.1 ha with ha | ha
    · have := hcap a ha; omega
    · obtain rfl := List.mem_singleton.1 ha
      show (0 : Int) ≤ _; omega
  refine JL_know (own_is 1 rfl) fun ⟨_, _, hA4, hl4⟩ => ?_
  obtain ⟨g4, hA4⟩ := own_at hA4 hl4
  have hA4' : (oneMore N).arcs ≠ [] → A4 = some ⟨g4, 0, none⟩ := fun h => hA4 (fun h0 => h (List.length_eq_zero_iff.1 (by have := arcs_length (oneMore N).arcs; rw [h0] at this; simp at this; omega)))
  refine JL_store 2 rfl rfl rfl rfl rfl [] rfl ?_
  refine JL_nil ?_
  (repeat' (first | refine J_seq ?_ | refine J_skip ?_ | refine J_yes rfl ?_ | refine J_no rfl ?_))
  refine J_region ?_
  refine JL_val [] (v := netV (oneMore N) A4 c4) (OpV_blk 2 rfl rfl rfl rfl) rfl ?_
  refine JL_callR [] (bound_fn (oneMore N) hMF A4 c4 g4 0 hA4') rfl rfl rfl rfl (by kernel_rfl) ⟨⟨1, _, by simp, rfl, shows_ownS hA4, seen_ownS hA4⟩, trivial⟩ (fun _ => rfl) ?_
  rintro v H' ⟨rfl, rfl⟩
  refine ⟨rfl, ?_⟩
  rw [if_pos hMR.check]
  refine JL_all [] rfl ?_
  obtain ⟨a1, a2⟩ := boundZ_in hnn.1 hnn.2 (show N.arcs.length ≤ 2001 by omega)
  obtain ⟨b1, b2⟩ := boundZ_in (N := oneMore N) hnn.1 hnn.2 (by simp [oneMore]; omega)
  obtain ⟨u, hu⟩ : ∃ u, u = (N.nodes - 1) * (20000 * levelZ N * levelZ N) := ⟨_, rfl⟩
  have ea : boundZ N = (N.arcs.length + N.nodes) * u := by
    unfold boundZ mostZ; rw [hu]; grind
  have eb : boundZ (oneMore N) = (N.arcs.length + N.nodes + 1) * u := by
    unfold boundZ mostZ
    have e1 : levelZ (oneMore N) = levelZ N := rfl
    have e2 : (oneMore N).nodes = N.nodes := rfl
    have e3 : ((oneMore N).arcs.length : Int) = N.arcs.length + 1 := by simp [oneMore]
    rw [e1, e2, e3, hu]; grind
  have hu0 : 0 < u := by
    rcases Int.lt_or_le 0 u with h | h
    · exact h
    · have := Int.mul_nonpos_of_nonneg_of_nonpos (show (0 : Int) ≤ N.arcs.length + N.nodes by omega) h
      omega
  have ed : boundZ (oneMore N) - boundZ N = u := by rw [ea, eb, Int.add_mul _ 1, Int.one_mul]; omega
  have hS : (0 : Int) < N.arcs.length + N.nodes := by omega
  have hT : (boundZ N).tmod (N.arcs.length + N.nodes) = 0 := by rw [Int.tmod_eq_emod_of_nonneg (by omega), ea, Int.mul_emod_right]
  have hQ : (boundZ N).tdiv (N.arcs.length + N.nodes) = u := by rw [Int.tdiv_eq_ediv_of_nonneg (by omega), ea, Int.mul_ediv_cancel_left _ (by omega)]
  have S1 := share_fn 0 0 0 (boundZ N) (boundZ N) (by unfold inB; omega) (fun _ => by unfold inB; omega)
  have S2 := share_fn 0 0 0 0 (boundZ N) (by unfold inB; omega) (fun _ => by unfold inB; omega)
  have S3 := share_fn 0 0 0 k 1000 (by unfold inB; omega) (fun _ => by unfold inB; omega)
  have s1 : shareZ (boundZ N) (boundZ N) = (1000, 0) := by unfold shareZ; rw [if_neg (by omega), Int.mul_tdiv_cancel _ (by omega)]
  have s2 : shareZ 0 (boundZ N) = (0, 0) := by unfold shareZ; rw [if_neg (by omega)]; simp
  rw [s1] at S1
  rw [s2] at S2
  (repeat' (first | refine J_seq ?_ | refine J_skip ?_ | refine J_yes rfl ?_ | refine J_no rfl ?_))
  refine J_region ?_
  refine JL_run [] rfl ?_
  refine JL_val [] (OpV_build rfl rfl rfl rfl rfl rfl) rfl ?_
  refine JL_callR [] (S1) rfl rfl rfl rfl (by kernel_rfl) trivial (fun _ => rfl) ?_
  rintro v H' ⟨rfl, rfl⟩
  refine ⟨rfl, ?_⟩
  refine JL_all [] rfl ?_
  (repeat' (first | refine J_seq ?_ | refine J_skip ?_ | refine J_yes rfl ?_ | refine J_no rfl ?_))
  refine J_region ?_
  refine JL_run [] rfl ?_
  refine JL_val [] (OpV_build rfl rfl rfl rfl rfl rfl) rfl ?_
  refine JL_callR [] (S2) rfl rfl rfl rfl (by kernel_rfl) trivial (fun _ => rfl) ?_
  rintro v H' ⟨rfl, rfl⟩
  refine ⟨rfl, ?_⟩
  refine JL_all [] rfl ?_
  (repeat' (first | refine J_seq ?_ | refine J_skip ?_ | refine J_yes rfl ?_ | refine J_no rfl ?_))
  refine J_region ?_
  refine JL_run [] rfl ?_
  refine JL_all [] rfl ?_
  refine J_set 20 (v' := .int .i64 k) rfl (congrArg (Value.int .i64) hk.symm) ?_
  (repeat' (first | refine J_seq ?_ | refine J_skip ?_ | refine J_yes rfl ?_ | refine J_no rfl ?_))
  refine J_region ?_
  refine JL_run [] rfl ?_
  refine JL_val [] (OpV_build rfl rfl rfl rfl rfl rfl) rfl ?_
  refine JL_callR [] S3 rfl rfl rfl rfl (by kernel_rfl) trivial (fun _ => rfl) ?_
  rintro v H' ⟨rfl, rfl⟩
  refine ⟨rfl, ?_⟩
  refine JL_all [] rfl ?_
  (repeat' (first | refine J_seq ?_ | refine J_skip ?_ | refine J_yes rfl ?_ | refine J_no rfl ?_))
  refine J_region ?_
  refine JL_run [] rfl ?_
  refine JL_set 72 (v' := .bool false) rfl (congrArg Value.bool (cdec_no (by simp))) ?_
  refine JL_run [2] rfl ?_
  refine JL_set 76 (v' := .bool false) rfl (congrArg Value.bool (cdec_no (by simp))) ?_
  refine JL_run [2, 6] rfl ?_
  refine JL_set 81 (v' := .bool false) rfl (congrArg Value.bool (cdec_no (show ¬ boundZ (oneMore N) ≤ boundZ N by omega))) ?_
  refine JL_run [2, 6, 11] rfl ?_
  refine JL_val [2, 6, 11] (OpV_blk 3 rfl rfl rfl rfl) rfl ?_
  refine JL_run [2, 6, 11] rfl ?_
  refine JL_val [2, 6, 11] (OpV_blk 3 rfl rfl rfl rfl) rfl ?_
  refine JL_run [2, 6, 11] rfl ?_
  refine JL_set 88 (v' := .int .i64 (N.arcs.length + N.nodes)) rfl (congrArg (Value.int .i64) (w64 (by omega))) ?_
  refine JL_val [2, 6, 11] (OpV_rem rfl rfl rfl (by omega)) rfl ?_
  refine JL_run [2, 6, 11] rfl ?_
  refine JL_set 92 (v' := .bool false) rfl (congrArg Value.bool (cdec_no (fun h => h hT))) ?_
  refine JL_run [2, 6, 11, 22] rfl ?_
  refine JL_val [2, 6, 11, 22] (OpV_blk 3 rfl rfl rfl rfl) rfl ?_
  refine JL_run [2, 6, 11, 22] rfl ?_
  refine JL_val [2, 6, 11, 22] (OpV_blk 3 rfl rfl rfl rfl) rfl ?_
  refine JL_run [2, 6, 11, 22] rfl ?_
  refine JL_set 102 (v' := .int .i64 (N.arcs.length + N.nodes)) rfl (congrArg (Value.int .i64) (w64 (by omega))) ?_
  refine JL_val [2, 6, 11, 22] (OpV_quo rfl rfl rfl (by omega)) rfl ?_
  refine JL_run [2, 6, 11, 22] rfl ?_
  refine JL_set 105 (v' := .bool false) rfl (congrArg Value.bool (cdec_no (fun h => h ?_))) ?_
  · show IntKind.i64.wrap (boundZ (oneMore N) - boundZ N) = IntKind.i64.wrap (Int.tdiv (boundZ N) (N.arcs.length + N.nodes))
    rw [hQ, ed]
  refine JL_nil ?_
  refine J_no rfl (J_skip ?_)
  (repeat' (first | refine J_seq ?_ | refine J_skip ?_ | refine J_yes rfl ?_ | refine J_no rfl ?_))
  refine J_region ?_
  refine JL_run [] rfl ?_
  refine JL_set 108 (v' := .bool true) rfl (congrArg Value.bool (cdec_yes rfl)) ?_
  refine JL_run [2] rfl ?_
  refine JL_set 112 (v' := .bool true) rfl (congrArg Value.bool (cdec_yes rfl)) ?_
  refine JL_run [2, 6] rfl ?_
  refine JL_set 116 (v' := .bool true) rfl (congrArg Value.bool (cdec_yes rfl)) ?_
  refine JL_run [2, 6, 10] rfl ?_
  refine JL_set 120 (v' := .bool true) rfl (congrArg Value.bool (cdec_yes rfl)) ?_
  refine JL_run [2, 6, 10, 14] rfl ?_
  by_cases k0 : k < 0
  · have s3 : shareZ k 1000 = (0, 1) := by unfold shareZ; rw [if_pos (.inr k0)]
    rw [s3]
    refine JL_set 123 (v' := .bool true) rfl (congrArg Value.bool (cdec_yes k0)) ?_
    refine JL_run [2, 6, 10, 14, 17] rfl ?_
    refine JL_set 127 (v' := .bool true) rfl (congrArg Value.bool (cdec_yes rfl)) ?_
    refine JL_run [2, 6, 10, 14, 17, 21] rfl ?_
    refine JL_set 131 (v' := .bool true) rfl (congrArg Value.bool (cdec_yes rfl)) ?_
    refine JL_all [2, 6, 10, 14, 17, 21, 25, 28, 32] rfl ?_
    exact J_ret ⟨_, rfl, rfl⟩
  · have s3 : shareZ k 1000 = (k, 0) := by unfold shareZ; rw [if_neg (by omega), Int.mul_comm, Int.mul_tdiv_cancel _ (by omega)]
    rw [s3]
    refine JL_set 123 (v' := .bool false) rfl (congrArg Value.bool (cdec_no k0)) ?_
    refine JL_run [2, 6, 10, 14, 17, 21, 25] rfl ?_
    refine JL_set 134 (v' := .bool true) rfl (congrArg Value.bool (cdec_yes (by omega))) ?_
    refine JL_run [2, 6, 10, 14, 17, 21, 25, 28] rfl ?_
    refine JL_set 138 (v' := .bool true) rfl (congrArg Value.bool (cdec_yes rfl)) ?_
    refine JL_all [2, 6, 10, 14, 17, 21, 25, 28, 32] rfl ?_
    exact J_ret ⟨_, rfl, congrArg Value.bool (cdec_yes rfl)⟩
end Go.Proofs.Ytopcgkbjijdabaa
