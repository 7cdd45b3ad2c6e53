
/- Layer 1, its sums, differences and products, in the engine's words. -/
import Derived.Test.YtopcgkbjijdabaaNum
import Derived.Test.YtopcgkbjijdabaaData
namespace Go.Proofs.Ytopcgkbjijdabaa
open Go.RowKit

theorem Fn_calls {f : FuncId} {args : List Value} {v : Value} (h : ∀ w, Calls Try.prog f args.toArray w fun e w' => e = .returned v ∧ w' = w) : Fn f args [] [] fun u H' => u = v ∧ H' = [] :=
  fun w hw => (h w).mono fun e w' ⟨he, hw'⟩ => ⟨v, [], he, by rw [hw']; exact hw, rfl, rfl⟩
theorem add_fn {a b : Int} (ha : inB a) (hb : inB b) : Fn 16 [.int .i64 a, .int .i64 b] [] [] fun v H' => v = two (orErr (a + b)) ∧ H' = [] := Fn_calls fun w => add_any a b w ha hb
theorem sub_fn {a b : Int} (ha : inB a) (hb : inB b) : Fn 17 [.int .i64 a, .int .i64 b] [] [] fun v H' => v = two (orErr (a - b)) ∧ H' = [] := Fn_calls fun w => sub_any a b w ha hb
theorem mul_fn {a b : Int} (ha : inB a) (hb : inB b) : Fn 19 [.int .i64 a, .int .i64 b] [] [] fun v H' => v = two (orErr (a * b)) ∧ H' = [] := Fn_calls fun w => mul_any a b w ha hb

theorem orErr_in {n : Int} (h : inB n) : orErr n = (n, 0) := by unfold orErr; rw [if_pos h]
theorem orErr_out {n : Int} (h : ¬ inB n) : orErr n = (0, 3) := by unfold orErr; rw [if_neg h]
theorem shown_fn : Fn 15 [] [] [] fun v H' => v = .bool true ∧ H' = [] := by
  refine Fn_of Try.func15 rfl rfl fun w0 => ?_
  refine J_seq (J_region (JL_all [] rfl ?_))
  refine J_seq (J_region ?_)
  refine JL_callR [] (add_fn (a := 4611686018427387904) (b := 4611686018427387904) (by decide) (by decide)) rfl rfl rfl rfl (by kernel_rfl) trivial (fun _ => rfl) ?_
  rintro v H' ⟨rfl, rfl⟩
  refine ⟨rfl, JL_all [] rfl ?_⟩
  refine J_seq (J_region ?_)
  refine JL_callR [] (add_fn (a := 2) (b := 3) (by decide) (by decide)) rfl rfl rfl rfl (by kernel_rfl) trivial (fun _ => rfl) ?_
  rintro v H' ⟨rfl, rfl⟩
  refine ⟨rfl, JL_all [] rfl ?_⟩
  refine J_seq (J_region (JL_run [] rfl ?_))
  refine JL_set 15 (v' := .bool true) rfl (congrArg Value.bool (cdec_yes (by decide))) ?_
  refine JL_run [2] rfl ?_
  refine JL_set 19 (v' := .bool true) rfl (congrArg Value.bool (cdec_yes (by decide))) ?_
  refine JL_all [2, 6] rfl ?_
  exact J_ret ⟨_, rfl, congrArg Value.bool (cdec_yes (by decide)), rfl⟩

def beyondP (h r : Int) : Prop := (h > 4611686018427387904 ∨ h = 4611686018427387904 ∧ r ≥ 0 ∨ h = 4611686018427387903 ∧ r > 1) ∨
  (h < -4611686018427387905 ∨ h = -4611686018427387905 ∧ r < 2 ∨ h = -4611686018427387904 ∧ r < 0)
theorem bool_yes {p : Prop} (h : p) : Value.bool true = .bool (cdec p) := by rw [cdec_yes h]
theorem bool_no {p : Prop} (h : ¬ p) : Value.bool false = .bool (cdec p) := by rw [cdec_no h]
theorem bool_iff {p q : Prop} (h : q ↔ p) : Value.bool (cdec q) = .bool (cdec p) := by rw [cdec_iff h]
theorem beyond_fn (h r : Int) : Fn 18 [.int .i64 h, .int .i64 r] [] [] fun v H' => v = .bool (cdec (beyondP h r)) ∧ H' = [] := by
  refine Fn_of Try.func18 rfl rfl fun w0 => ?_
  (repeat' (first
    | refine JL_all [] rfl ?_
    | refine JL_splitd rfl rfl rfl rfl (fun _ => ?_) (fun _ => ?_)
    | refine JL_evO (gs := [999]) rfl ?_
    | refine JL_split rfl rfl rfl rfl (fun _ => ?_) (fun _ => ?_)
    | refine J_seq ?_
    | refine J_region ?_
    | refine J_dec rfl (fun _ => ?_) (fun _ => ?_)
    | refine J_yes rfl ?_
    | refine J_no rfl ?_
    | refine J_cond rfl (fun _ => ?_) (fun _ => ?_)
    | refine J_skip ?_
    | refine J_ret ?_))
  all_goals refine ⟨_, rfl, ?_, rfl⟩
  all_goals first
    | exact bool_yes (by unfold beyondP; omega)
    | exact bool_no (by unfold beyondP; omega)
    | exact bool_iff (by unfold beyondP; omega)
theorem tmod_cases (a : Int) {m : Int} (hm : 0 < m) : m * a.tdiv m + a.tmod m = a ∧ (0 ≤ a → 0 ≤ a.tmod m ∧ a.tmod m < m) ∧ (a ≤ 0 → -m < a.tmod m ∧ a.tmod m ≤ 0) := by
  refine ⟨by have := Int.tmod_add_mul_tdiv a m; omega, fun h => ⟨Int.tmod_nonneg m h, Int.tmod_lt_of_pos a hm⟩, fun h => ?_⟩
  have h1 := Int.neg_tmod (-a) m
  rw [Int.neg_neg] at h1
  have h2 := Int.tmod_nonneg (a := -a) m (by omega)
  have h3 := Int.tmod_lt_of_pos (-a) hm
  omega
end Go.Proofs.Ytopcgkbjijdabaa
