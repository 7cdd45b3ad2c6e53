
/- Layer 1, its sums, differences and products, in the engine's words. -/
import Derived.Test.YtbhfbpeldcnpfaaNum
import Derived.Test.YtbhfbpeldcnpfaaData
namespace Go.Proofs.Ytbhfbpeldcnpfaa
open Go.RowKit

theorem Fn_calls {f : FuncId} {args : List Value} {v : Value} (h : ∀ w, Calls Try.prog f args.toArray w fun e w' => e = .returned v ∧ w' = w) : Fn f args [] [] fun u H' => u = v ∧ H' = [] :=
  fun w hw => (h w).mono fun e w' ⟨he, hw'⟩ => ⟨v, [], he, by rw [hw']; exact hw, rfl, rfl⟩
theorem add_fn {a b : Int} (ha : inB a) (hb : inB b) : Fn 77 [.int .i64 a, .int .i64 b] [] [] fun v H' => v = two (orErr (a + b)) ∧ H' = [] := Fn_calls fun w => add_any a b w ha hb

theorem orErr_in {n : Int} (h : inB n) : orErr n = (n, 0) := by unfold orErr; rw [if_pos h]
theorem orErr_out {n : Int} (h : ¬ inB n) : orErr n = (0, 3) := by unfold orErr; rw [if_neg h]
def beyondP (h r : Int) : Prop := (h > 4611686018427387904 ∨ h = 4611686018427387904 ∧ r ≥ 0 ∨ h = 4611686018427387903 ∧ r > 1) ∨
  (h < -4611686018427387905 ∨ h = -4611686018427387905 ∧ r < 2 ∨ h = -4611686018427387904 ∧ r < 0)
theorem bool_yes {p : Prop} (h : p) : Value.bool true = .bool (cdec p) := by rw [cdec_yes h]
theorem bool_no {p : Prop} (h : ¬ p) : Value.bool false = .bool (cdec p) := by rw [cdec_no h]
theorem bool_iff {p q : Prop} (h : q ↔ p) : Value.bool (cdec q) = .bool (cdec p) := by rw [cdec_iff h]
theorem tmod_cases (a : Int) {m : Int} (hm : 0 < m) : m * a.tdiv m + a.tmod m = a ∧ (0 ≤ a → 0 ≤ a.tmod m ∧ a.tmod m < m) ∧ (a ≤ 0 → -m < a.tmod m ∧ a.tmod m ≤ 0) := by
  refine ⟨by have := Int.tmod_add_mul_tdiv a m; omega, fun h => ⟨Int.tmod_nonneg m h, Int.tmod_lt_of_pos a hm⟩, fun h => ?_⟩
  have h1 := Int.neg_tmod (-a) m
  rw [Int.neg_neg] at h1
  have h2 := Int.tmod_nonneg (a := -a) m (by omega)
  have h3 := Int.tmod_lt_of_pos (-a) hm
  omega
end Go.Proofs.Ytbhfbpeldcnpfaa
