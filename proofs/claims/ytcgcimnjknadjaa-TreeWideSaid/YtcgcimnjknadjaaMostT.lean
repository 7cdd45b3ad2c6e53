
/- tree.Most. -/
import Derived.Test.YtcgcimnjknadjaaNumL
import Derived.Test.YtcgcimnjknadjaaTreD
set_option linter.unusedVariables false
set_option linter.unusedSimpArgs false
namespace Go.Proofs.Ytcgcimnjknadjaa
open Go.RowKit
def mostZ (N : Net) : Int := 20000 * (N.nodes + N.arcs.length) * (2 + (logOf N.nodes : Nat)) * (2 + (logOf N.nodes : Nat))
theorem tmost_fn (N : Net) (hR : N.Right) (A : Option Addr) (c : Nat) : Fn 24 [netV N A c] [] [] fun v H' => v = .int .i64 (mostZ N) ∧ H' = [] := by
  have hnn := hR.nodes
  have hl2 := hR.len
  have hnb : inB N.nodes := by unfold inB; omega
  have hlg := (log_spec (n := N.nodes) (by omega) (by omega)).2.2
  refine Fn_of Try.func24 rfl rfl fun w0 => ?_
  (repeat' (first | refine J_seq ?_ | refine J_skip ?_ | refine J_yes rfl ?_ | refine J_no rfl ?_))
  refine J_region ?_
  refine JL_box (cs := netC N A c) rfl rfl rfl (fun _ => rfl) fun p => ?_
  refine JL_all [] rfl ?_
  (repeat' (first | refine J_seq ?_ | refine J_skip ?_ | refine J_yes rfl ?_ | refine J_no rfl ?_))
  refine J_region ?_
  refine JL_evO (gs := [999]) rfl ?_
  refine JL_val [] (v := .int .i64 N.nodes) (OpV_blk 0 rfl rfl rfl rfl) rfl ?_
  refine JL_callR [] (log_fn N.nodes hnb) rfl rfl rfl rfl (by kernel_rfl) trivial (fun _ => rfl) ?_
  rintro v H' ⟨rfl, rfl⟩
  refine ⟨rfl, ?_⟩
  refine JL_all [] rfl ?_
  refine J_set 3 (v' := .int .i64 (2 + (logOf N.nodes : Nat))) rfl (congrArg (Value.int .i64) (w64 (by omega))) ?_
  obtain ⟨k, hk⟩ : ∃ k, k = logOf N.nodes := ⟨_, rfl⟩
  unfold mostZ
  rw [← hk]
  rw [← hk] at hlg
  (repeat' (first | refine J_seq ?_ | refine J_skip ?_ | refine J_yes rfl ?_ | refine J_no rfl ?_))
  refine J_region ?_
  refine JL_evO (gs := [999]) rfl ?_
  refine JL_val [] (v := .int .i64 N.nodes) (OpV_blk 0 rfl rfl rfl rfl) rfl ?_
  refine JL_evO (gs := [999]) rfl ?_
  refine JL_val [] (v := .slice A N.arcs.length c) (OpV_blk 0 rfl rfl rfl rfl) rfl ?_
  obtain ⟨S, hS⟩ : ∃ S : Int, S = N.nodes + N.arcs.length := ⟨_, rfl⟩
  rw [← hS]
  have b1 : 0 ≤ 20000 * S * (2 + (k : Int)) ∧ 20000 * S * (2 + (k : Int)) ≤ 50000000 * 66 := ⟨Int.mul_nonneg (by omega) (by omega), Int.mul_le_mul (by omega) (by omega) (by omega) (by omega)⟩
  have b2 : 0 ≤ 20000 * S * (2 + (k : Int)) * (2 + (k : Int)) ∧ 20000 * S * (2 + (k : Int)) * (2 + (k : Int)) ≤ 50000000 * 66 * 66 := ⟨Int.mul_nonneg b1.1 (by omega), Int.mul_le_mul b1.2 (by omega) (by omega) (by omega)⟩
  refine JL_evO (gs := [999]) rfl ?_
  refine JL_evO (gs := [999]) rfl ?_
  refine JL_set 13 (v' := .int .i64 S) rfl (congrArg (Value.int .i64) (by rw [hS]; exact w64 (by omega))) ?_
  refine JL_evO (gs := [999]) rfl ?_
  refine JL_set 14 (v' := .int .i64 (20000 * S)) rfl (congrArg (Value.int .i64) (w64 (by omega))) ?_
  refine JL_evO (gs := [999]) rfl ?_
  refine JL_evO (gs := [999]) rfl ?_
  refine JL_set 16 (v' := .int .i64 (20000 * S * (2 + (k : Int)))) rfl (congrArg (Value.int .i64) (w64 (by omega))) ?_
  refine JL_evO (gs := [999]) rfl ?_
  refine JL_evO (gs := [999]) rfl ?_
  refine JL_set 18 (v' := .int .i64 (20000 * S * (2 + (k : Int)) * (2 + (k : Int)))) rfl (congrArg (Value.int .i64) (w64 (by omega))) ?_
  refine JL_all [] rfl ?_
  (repeat' (first | refine J_seq ?_ | refine J_skip ?_ | refine J_yes rfl ?_ | refine J_no rfl ?_))
  exact J_drop [] (by decide) rfl (J_ret ⟨_, rfl, rfl, rfl⟩)
theorem mostZ_le {N : Net} (hR : N.Right) : 0 ≤ mostZ N ∧ mostZ N ≤ 217800000000 := by
  have hnn := hR.nodes
  have hl2 := hR.len
  have hlg := (log_spec (n := N.nodes) (by omega) (by omega)).2.2
  unfold mostZ
  obtain ⟨k, hk⟩ : ∃ k, k = logOf N.nodes := ⟨_, rfl⟩
  rw [← hk] at hlg ⊢
  obtain ⟨S, hS⟩ : ∃ S : Int, S = N.nodes + N.arcs.length := ⟨_, rfl⟩
  rw [← hS]
  have b1 : 0 ≤ 20000 * S * (2 + (k : Int)) ∧ 20000 * S * (2 + (k : Int)) ≤ 50000000 * 66 := ⟨Int.mul_nonneg (by omega) (by omega), Int.mul_le_mul (by omega) (by omega) (by omega) (by omega)⟩
  exact ⟨Int.mul_nonneg b1.1 (by omega), Int.le_trans (Int.mul_le_mul b1.2 (show 2 + (k : Int) ≤ 66 by omega) (by omega) (by omega)) (by omega)⟩
def restB (n : Nat) : Nat := costL n * (n + 1) + (accN (n + 1) + 5 * (n + 1) + 1) + (2 * accN (n + 1) + 11 * (n + 1) + 1) * (n + 1) + (n + 1)
theorem most_all : ∀ n, n < 97 → 2 ≤ n → costU n + 3 ≤ 20000 * ((2 + logOf n) * (2 + logOf n)) ∧ restB n ≤ 20000 * n * ((2 + logOf n) * (2 + logOf n)) := by decide +kernel
theorem cost_most {N : Net} (hR : N.Right) (h : N.nodes ≤ 96) : (costB N.nodes.toNat N.arcs.length : Int) ≤ mostZ N := by
  have hnn := hR.nodes
  obtain ⟨n, hn⟩ : ∃ n : Nat, N.nodes = n := ⟨N.nodes.toNat, by omega⟩
  obtain ⟨h1, h2⟩ := most_all n (by omega) (by omega)
  have e : costB n N.arcs.length ≤ 20000 * (n + N.arcs.length) * (2 + logOf n) * (2 + logOf n) := by
    have h3 : (costU n + 3) * N.arcs.length ≤ 20000 * ((2 + logOf n) * (2 + logOf n)) * N.arcs.length := Nat.mul_le_mul_right _ h1
    have h4 : costB n N.arcs.length = (costU n + 3) * N.arcs.length + restB n := by unfold costB restB; omega
    rw [h4]
    refine Nat.le_trans (Nat.add_le_add h3 h2) (Nat.le_of_eq ?_)
    grind
  unfold mostZ
  rw [hn, Int.toNat_natCast]
  have e2 : ((costB n N.arcs.length : Nat) : Int) ≤ ((20000 * (n + N.arcs.length) * (2 + logOf n) * (2 + logOf n) : Nat) : Int) := Int.ofNat_le.2 e
  rw [Int.natCast_mul, Int.natCast_mul, Int.natCast_mul, Int.natCast_add, Int.natCast_add] at e2
  exact e2
end Go.Proofs.Ytcgcimnjknadjaa
