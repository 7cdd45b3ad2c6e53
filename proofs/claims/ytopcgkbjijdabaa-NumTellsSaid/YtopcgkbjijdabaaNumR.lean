/- The document's answers to layer 1: what they are, for all numbers. -/
import Derived.Test.YtopcgkbjijdabaaNumL
namespace Go.Proofs.Ytopcgkbjijdabaa
open Go.RowKit
theorem two_yes {n m : Int} (h : inB n) (e : m = n) : Value.tuple #[.int .i64 m, .int .i64 0] = two (orErr n) := by rw [orErr_in h, e]; rfl
theorem two_no {n : Int} (h : ¬ inB n) : Value.tuple #[.int .i64 0, .int .i64 3] = two (orErr n) := by rw [orErr_out h]; rfl
theorem radd_fn {a b : Int} (ha : inB a) (hb : inB b) : Fn 23 [.int .i64 a, .int .i64 b] [] [] fun v H' => v = two (orErr (a + b)) ∧ H' = [] := by
  refine Fn_of Try.func23 rfl rfl fun w0 => ?_
  (repeat' (first
    | refine JL_all [] rfl ?_
    | refine JL_splitd rfl rfl rfl rfl (fun _ => ?_) (fun _ => ?_)
    | refine JL_evO (gs := [999]) rfl ?_
    | refine JL_split rfl rfl rfl rfl (fun _ => ?_) (fun _ => ?_)
    | refine J_seq ?_
    | refine J_region ?_
    | refine J_dec rfl (fun _ => ?_) (fun _ => ?_)
    | refine J_yes rfl ?_
    | refine J_no rfl ?_
    | refine J_cond rfl (fun _ => ?_) (fun _ => ?_)
    | refine J_skip ?_
    | refine J_ret ?_))
  all_goals refine ⟨_, rfl, ?_, rfl⟩
  all_goals simp only [IntKind.wrap_i64] at *
  all_goals simp only [pack]
  all_goals first
    | exact two_yes (n := a + b) (by unfold inB at *; omega) (by unfold inB at *; omega)
    | exact two_no (n := a + b) (by unfold inB at *; omega)
theorem rsub_fn {a b : Int} (ha : inB a) (hb : inB b) : Fn 24 [.int .i64 a, .int .i64 b] [] [] fun v H' => v = two (orErr (a - b)) ∧ H' = [] := by
  refine Fn_of Try.func24 rfl rfl fun w0 => ?_
  (repeat' (first
    | refine JL_all [] rfl ?_
    | refine JL_splitd rfl rfl rfl rfl (fun _ => ?_) (fun _ => ?_)
    | refine JL_evO (gs := [999]) rfl ?_
    | refine JL_split rfl rfl rfl rfl (fun _ => ?_) (fun _ => ?_)
    | refine J_seq ?_
    | refine J_region ?_
    | refine J_dec rfl (fun _ => ?_) (fun _ => ?_)
    | refine J_yes rfl ?_
    | refine J_no rfl ?_
    | refine J_cond rfl (fun _ => ?_) (fun _ => ?_)
    | refine J_skip ?_
    | refine J_ret ?_))
  all_goals refine ⟨_, rfl, ?_, rfl⟩
  all_goals simp only [IntKind.wrap_i64] at *
  all_goals simp only [pack]
  all_goals first
    | exact two_yes (n := a - b) (by unfold inB at *; omega) (by unfold inB at *; omega)
    | exact two_no (n := a - b) (by unfold inB at *; omega)
end Go.Proofs.Ytopcgkbjijdabaa
