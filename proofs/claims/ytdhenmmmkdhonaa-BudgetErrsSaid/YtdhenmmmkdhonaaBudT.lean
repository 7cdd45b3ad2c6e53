
/- What a run takes, and what was reckoned ahead. -/
import Derived.Test.YtdhenmmmkdhonaaBud
import Derived.Test.YtdhenmmmkdhonaaMaxG
import Derived.Test.YtdhenmmmkdhonaaSame5
set_option linter.unusedVariables false
set_option linter.unusedSimpArgs false
namespace Go.Proofs.Ytdhenmmmkdhonaa
open Go.RowKit
theorem shown18_fn : Fn 7 [] [] [] fun v H' => v = .bool true ∧ H' = [] := by
  have hR : (⟨2, 1, 2, [⟨1, 2, 5⟩]⟩ : Net).Right := ⟨by decide, by decide, by decide, by decide, by decide, fun a ha => (by obtain rfl := List.mem_singleton.1 ha; decide), by decide⟩
  have hF : (⟨2, 1, 2, [⟨1, 2, 5⟩]⟩ : Net).Fits := ⟨by decide, by decide, by decide, by decide, fun a ha => (by obtain rfl := List.mem_singleton.1 ha; decide)⟩
  refine Fn_of Try.func7 rfl rfl fun w0 => ?_
  (repeat' (first | refine J_seq ?_ | refine J_skip ?_ | refine J_yes rfl ?_ | refine J_no rfl ?_))
  refine J_region ?_
  refine JL_all [] rfl ?_
  (repeat' (first | refine J_seq ?_ | refine J_skip ?_ | refine J_yes rfl ?_ | refine J_no rfl ?_))
  refine J_region ?_
  refine JL_val [] (OpV_build rfl rfl rfl rfl rfl rfl) rfl ?_
  refine JL_lit rfl rfl rfl rfl rfl rfl rfl (fun _ => rfl) fun g => ?_
  refine JL_val [] (OpV_build rfl rfl rfl rfl rfl rfl) rfl ?_
  refine JL_callR [] (bound_fn ⟨2, 1, 2, [⟨1, 2, 5⟩]⟩ hF (some ⟨g, 0, none⟩) 1 g 0 (fun _ => rfl)) rfl rfl rfl rfl (by kernel_rfl) ⟨⟨0, _, by simp, rfl, shows_blk _ _ _ (0, 0), .inr rfl⟩, trivial⟩ (fun _ => rfl) ?_
  rintro v H' ⟨rfl, rfl⟩
  refine ⟨rfl, ?_⟩
  rw [if_pos hR.check]
  refine JL_all [] rfl ?_
  have e : boundZ ⟨2, 1, 2, [⟨1, 2, 5⟩]⟩ = 540000 := by decide
  rw [e]
  (repeat' (first | refine J_seq ?_ | refine J_skip ?_ | refine J_yes rfl ?_ | refine J_no rfl ?_))
  refine J_region ?_
  refine JL_run [] rfl ?_
  refine JL_set 12 (v' := .bool true) rfl (congrArg Value.bool (cdec_yes rfl)) ?_
  refine JL_all [2] rfl ?_
  refine J_drop [] (by decide) rfl ?_
  exact J_ret ⟨_, rfl, congrArg Value.bool (cdec_yes rfl), rfl⟩
def restB (n : Nat) : Nat := costL n * (n + 1) + (accN (n + 1) + 5 * (n + 1) + 1) + (2 * accN (n + 1) + 11 * (n + 1) + 1) * (n + 1) + (n + 1)
theorem most_all : ∀ n, n < 97 → 2 ≤ n → costU n + 3 ≤ 20000 * ((2 + logOf n) * (2 + logOf n)) ∧ restB n ≤ 20000 * n * ((2 + logOf n) * (2 + logOf n)) := by decide +kernel
theorem cost_most {N : Net} (hR : N.Right) (h : N.nodes ≤ 96) : (costB N.nodes.toNat N.arcs.length : Int) ≤ mostZ N := by
  have hnn := hR.nodes
  obtain ⟨n, hn⟩ : ∃ n : Nat, N.nodes = n := ⟨N.nodes.toNat, by omega⟩
  obtain ⟨h1, h2⟩ := most_all n (by omega) (by omega)
  have e : costB n N.arcs.length ≤ 20000 * (n + N.arcs.length) * (2 + logOf n) * (2 + logOf n) := by
    have h3 : (costU n + 3) * N.arcs.length ≤ 20000 * ((2 + logOf n) * (2 + logOf n)) * N.arcs.length := Nat.mul_le_mul_right _ h1
    have h4 : costB n N.arcs.length = (costU n + 3) * N.arcs.length + restB n := by unfold costB restB; omega
    rw [h4]
    refine Nat.le_trans (Nat.add_le_add h3 h2) (Nat.le_of_eq ?_)
    grind
  unfold mostZ levelZ
  rw [hn, Int.toNat_natCast]
  have e2 : ((costB n N.arcs.length : Nat) : Int) ≤ ((20000 * (n + N.arcs.length) * (2 + logOf n) * (2 + logOf n) : Nat) : Int) := Int.ofNat_le.2 e
  rw [Int.natCast_mul, Int.natCast_mul, Int.natCast_mul, Int.natCast_add, Int.natCast_add] at e2
  exact e2
theorem brun_fn (N : Net) (hF : N.Fits) (hR : N.Right) (A : Option Addr) (c b o : Nat) (hA : N.arcs ≠ [] → A = some ⟨b, o, none⟩) : Fn 10 [netV N A c] [] [.seg b o (arcs N.arcs)] fun v H' => ∃ (f : List Int) (p k s : Nat), Dn N 1 (List.replicate N.arcs.length 0) p k f ∧ (p : Int) + 1 ≤ N.nodes ∧ 2 * N.arcs.length * p ≤ s ∧ s ≤ costB N.nodes.toNat N.arcs.length * p ∧
    v = .tuple #[countV (exZ (N.arcs.zip f) N.snk) p k s (boundZ N), .int .i64 0] ∧ H' = [] := by
  have hl2 := hR.len
  refine Fn_ofC Try.func10 rfl rfl fun w0 => ?_
  (repeat' (first | refine J_seq ?_ | refine J_skip ?_ | refine J_yes rfl ?_ | refine J_no rfl ?_))
  refine J_region ?_
  refine JL_box (cs := netC N A c) rfl rfl rfl (fun _ => rfl) fun p1 => ?_
  refine JL_alloc rfl rfl rfl (fun _ => rfl) fun p2 => ?_
  refine JL_all [] rfl ?_
  (repeat' (first | refine J_seq ?_ | refine J_skip ?_ | refine J_yes rfl ?_ | refine J_no rfl ?_))
  refine J_region ?_
  refine JL_val [] (v := netV N A c) (OpV_blk 1 rfl rfl rfl rfl) rfl ?_
  refine JL_callR [] (bound_fn N hF A c b o hA) rfl rfl rfl rfl (by kernel_rfl) ⟨⟨2, _, by simp, rfl, shows_seg _ _ _, seen_seg⟩, trivial⟩ (fun _ => rfl) ?_
  rintro v H' ⟨rfl, rfl⟩
  refine ⟨rfl, ?_⟩
  rw [if_pos hR.check]
  refine JL_all [] rfl ?_
  (repeat' (first | refine J_seq ?_ | refine J_skip ?_ | refine J_yes rfl ?_ | refine J_no rfl ?_))
  refine J_region ?_
  refine JL_all [] rfl ?_
  refine J_dec rfl (fun h => absurd rfl h) (fun _ => J_skip ?_)
  (repeat' (first | refine J_seq ?_ | refine J_skip ?_ | refine J_yes rfl ?_ | refine J_no rfl ?_))
  refine J_region ?_
  refine JL_val [] (v := netV N A c) (OpV_blk 1 rfl rfl rfl rfl) rfl ?_
  refine JL_callR [] (maxG_fn N hF hR A c b o hA 116 (.inr rfl)) rfl rfl rfl rfl (by kernel_rfl) ⟨⟨2, _, by simp, rfl, shows_seg _ _ _, seen_seg⟩, trivial⟩ (fun _ => rfl) ?_
  rintro v H' ⟨f, p, k, s, Aa, ca, hd, _, hp, _, hs1, hs2, rfl, rfl⟩
  obtain ⟨hf, _⟩ := hd.keeps hR (by decide) (zeroFlow N hR)
  have hfl := hf.len
  refine ⟨rfl, ?_⟩
  refine JL_run [] rfl ?_
  refine JL_alloc rfl rfl rfl (fun _ => rfl) fun p6 => ?_
  refine JL_store 0 rfl rfl rfl rfl rfl [] rfl ?_
  refine JL_all [] rfl ?_
  refine J_know (own_is 1 rfl) fun ⟨_, _, hAa, hla⟩ => ?_
  obtain ⟨ga, hAa⟩ := own_at hAa hla
  have hAa' : f ≠ [] → Aa = some ⟨ga, 0, none⟩ := fun h => hAa (by simpa [ints] using h)
  (repeat' (first | refine J_seq ?_ | refine J_skip ?_ | refine J_yes rfl ?_ | refine J_no rfl ?_))
  refine J_region ?_
  refine JL_val [] (v := netV N A c) (OpV_blk 3 rfl rfl rfl rfl) rfl ?_
  refine JL_run [] rfl ?_
  refine JL_val [] (v := .slice Aa f.length ca) (OpV_blk 0 rfl rfl rfl rfl) rfl ?_
  refine JL_callR [] (fvalue_fn N hF hR A c b o hA f Aa ca ga 0 hAa' (IsFlow.inB hR hf.toRanged) (by omega)) rfl rfl rfl rfl (by kernel_rfl) ⟨⟨4, _, by simp, rfl, shows_seg _ _ _, seen_seg⟩, ⟨1, _, by simp, rfl, shows_ownS hAa, seen_ownS hAa⟩, trivial⟩ (fun _ => rfl) ?_
  rintro v H' ⟨⟨rfl, _⟩ | ⟨_, h⟩, rfl⟩
  case inr => exact absurd hf h
  refine ⟨rfl, ?_⟩
  refine JL_all [] rfl ?_
  (repeat' (first | refine J_seq ?_ | refine J_skip ?_ | refine J_yes rfl ?_ | refine J_no rfl ?_))
  refine J_region ?_
  refine JL_run [] rfl ?_
  refine JL_val [] (v := .int .i64 p) (OpV_blk 0 rfl rfl rfl rfl) rfl ?_
  refine JL_run [] rfl ?_
  refine JL_val [] (v := .int .i64 k) (OpV_blk 0 rfl rfl rfl rfl) rfl ?_
  refine JL_run [] rfl ?_
  refine JL_val [] (v := .int .i64 s) (OpV_blk 0 rfl rfl rfl rfl) rfl ?_
  refine JL_run [] rfl ?_
  refine JL_val [] (OpV_build rfl rfl rfl rfl rfl rfl) rfl ?_
  refine JL_store 2 rfl rfl rfl rfl rfl [] rfl ?_
  refine JL_all [] rfl ?_
  refine J_ret ?_
  exact ⟨[_, _], [], _, ⟨⟨p2, 2, _, _, rfl, rfl, rfl⟩, rfl, trivial⟩, by decide, rfl, f, p, k, s, hd, hp, hs1 rfl, hs2, rfl, rfl⟩
end Go.Proofs.Ytdhenmmmkdhonaa
