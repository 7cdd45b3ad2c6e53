
/- Chapter 4's words. -/
import Derived.Test.YtkiadfpkgpgbiaaGreatDoorDimaG
import Derived.Laws.StructEq
import Derived.ChangeKeysEq
set_option linter.unusedVariables false
set_option linter.unusedSimpArgs false
namespace Go.Proofs.YtkiadfpkgpgbiaaGreatDoor
open Go.RowKit
theorem arc_same (w : World) (a b c : Int) : (Op.equalIn 10000 44 (.agg #[.int .i64 a, .int .i64 b, .int .i64 c]) (.agg #[.int .i64 a, .int .i64 b, .int .i64 c])).run Tryz.prog w = .ok true w := by
  have h2 : ∀ (i : Nat) (v : Value), #[Value.int .i64 a, .int .i64 b, .int .i64 c][i]? = some v → (part 2 #[Value.int .i64 a, .int .i64 b, .int .i64 c] i).run Tryz.prog w = .ok v w := fun i v h => run_part_plain w (by kernel_rfl) h
  have h3 : ∀ (i : Nat) (v : Value), #[Value.int .i64 a, .int .i64 b, .int .i64 c][i]? = some v → (part 3 #[Value.int .i64 a, .int .i64 b, .int .i64 c] i).run Tryz.prog w = .ok v w := fun i v h => run_part_plain w (by kernel_rfl) h
  have g2 : ∀ x y : Int, (Op.equalIn 9999 2 (.int .i64 x) (.int .i64 y)).run Tryz.prog w = .ok (x == y) w := fun x y => run_equalIn_int w 9998 2 .i64 .i64 x y Tryz.underlying2
  have g3 : ∀ x y : Int, (Op.equalIn 9999 3 (.int .i64 x) (.int .i64 y)).run Tryz.prog w = .ok (x == y) w := fun x y => run_equalIn_int w 9998 3 .i64 .i64 x y Tryz.underlying3
  rw [run_equalIn_agg w 9999 44 _ _ (by simp [Program.fieldsOf, Tryz.underlying44]) Tryz.stoodInHeld44]
  simp only [Program.fieldsOf, Tryz.underlying44, Op.eqFields, Sem.run_bind, Sem.run_ite, Sem.run_pure]
  simp [h3 0 _ rfl, h3 1 _ rfl, h2 2 _ rfl, g2, g3]
theorem OpV_arc_same {X : Cx} {E : Env} {H : Heap} {o : Oper} {t' : Nat} {x y : Operand} {a b c : Int} (ho : o.op = .binOp .eql 44 x y t') (hx : val E x = some (.agg #[.int .i64 a, .int .i64 b, .int .i64 c])) (hy : val E y = some (.agg #[.int .i64 a, .int .i64 b, .int .i64 c])) :
    OpV X o E H (.bool true) := by
  intro ac w hA hH
  simp [execOp, ho, hA.val hx, hA.val hy, run_eqGuard_agg w .eql 44 _ _ _ _ Tryz.eqGuardType44, run_eql_struct, arc_same]
def shownT : List UInt8 := [112, 32, 109, 97, 120, 32, 50, 32, 49, 10, 110, 32, 49, 32, 115, 10, 110, 32, 50, 32, 116, 10, 97, 32, 49, 32, 50, 32, 53]
theorem parse_shown : parseL shownT = (⟨2, 1, 2, [⟨1, 2, 5⟩]⟩, 0, 0) := by kernel_rfl
theorem shown4_fn (V : LibV) : Fn 7 [] [] V.heap fun u H' => u = .bool true ∧ H' = [] := by
  have T := parse_fn V shownT (by decide)
  rw [parse_shown] at T
  refine Fn_of Tryz.func7 rfl rfl fun w0 => ?_
  (repeat' (first | refine J_seq ?_ | refine J_skip ?_ | refine J_yes rfl ?_ | refine J_no rfl ?_))
  refine J_region ?_
  refine JL_all [] rfl ?_
  (repeat' (first | refine J_seq ?_ | refine J_skip ?_ | refine J_yes rfl ?_ | refine J_no rfl ?_))
  refine J_region ?_
  refine JL_callR [] T rfl rfl rfl rfl (by kernel_rfl) ⟨⟨0, by simp, rfl⟩, ⟨1, by simp, rfl⟩, ⟨2, by simp, rfl⟩, trivial⟩ (fun _ => rfl) ?_
  rintro v H' ⟨A, c, rfl, rfl⟩
  refine ⟨rfl, ?_⟩
  refine JL_run [] rfl ?_
  refine JL_alloc rfl rfl rfl (fun _ => rfl) fun p1 => ?_
  refine JL_store 0 rfl rfl rfl rfl rfl [] rfl ?_
  refine JL_all [] rfl ?_
  refine J_know (own_is 1 rfl) (fun ho => ?_)
  obtain ⟨g, rfl⟩ := ho.2.2.1 (by simp)
  (repeat' (first | refine J_seq ?_ | refine J_skip ?_ | refine J_yes rfl ?_ | refine J_no rfl ?_))
  (repeat' (first | refine J_seq ?_ | refine J_skip ?_ | refine J_yes rfl ?_ | refine J_no rfl ?_))
  refine J_region ?_
  refine JL_run [] rfl ?_
  refine JL_set 11 (v' := .bool true) rfl (congrArg Value.bool (cdec_yes rfl)) ?_
  refine JL_run [2] rfl ?_
  refine JL_set 15 (v' := .bool true) rfl (congrArg Value.bool (cdec_yes rfl)) ?_
  refine JL_run [2, 6] rfl ?_
  refine JL_val [2, 6] (OpV_blk (i := 0) (v := .int .i64 2) 0 rfl rfl rfl rfl) rfl ?_
  refine JL_run [2, 6] rfl ?_
  refine JL_set 20 (v' := .bool true) rfl (congrArg Value.bool (cdec_yes rfl)) ?_
  refine JL_run [2, 6, 11] rfl ?_
  refine JL_val [2, 6, 11] (OpV_blk (i := 1) (v := .int .i64 1) 0 rfl rfl rfl rfl) rfl ?_
  refine JL_run [2, 6, 11] rfl ?_
  refine JL_set 25 (v' := .bool true) rfl (congrArg Value.bool (cdec_yes rfl)) ?_
  refine JL_run [2, 6, 11, 16] rfl ?_
  refine JL_val [2, 6, 11, 16] (OpV_blk (i := 2) (v := .int .i64 2) 0 rfl rfl rfl rfl) rfl ?_
  refine JL_run [2, 6, 11, 16] rfl ?_
  refine JL_set 30 (v' := .bool true) rfl (congrArg Value.bool (cdec_yes rfl)) ?_
  refine JL_run [2, 6, 11, 16, 21] rfl ?_
  refine JL_val [2, 6, 11, 16, 21] (OpV_blk (i := 3) (v := .slice (some ⟨g, 0, none⟩) 1 c) 0 rfl rfl rfl rfl) rfl ?_
  refine JL_run [2, 6, 11, 16, 21] rfl ?_
  refine JL_set 36 (v' := .bool true) rfl (congrArg Value.bool (cdec_yes rfl)) ?_
  refine JL_run [2, 6, 11, 16, 21, 27] rfl ?_
  refine JL_val [2, 6, 11, 16, 21, 27] (OpV_blk (i := 3) (v := .slice (some ⟨g, 0, none⟩) 1 c) 0 rfl rfl rfl rfl) rfl ?_
  refine JL_val [2, 6, 11, 16, 21, 27] (idxNz rfl rfl rfl rfl rfl (by decide)) rfl ?_
  refine JL_val [2, 6, 11, 16, 21, 27] (v := .agg #[.int .i64 1, .int .i64 2, .int .i64 5]) (OpV_own (i := 0) 1 rfl rfl rfl rfl) rfl ?_
  refine JL_val [2, 6, 11, 16, 21, 27] (v := .agg #[.int .i64 1, .int .i64 2, .int .i64 5]) (OpV_build rfl rfl rfl rfl rfl rfl) rfl ?_
  refine JL_val [2, 6, 11, 16, 21, 27] (OpV_arc_same rfl rfl rfl) rfl ?_
  refine JL_all [2, 6, 11, 16, 21, 27] rfl ?_
  exact J_drop [] (by decide) rfl (J_ret ⟨_, rfl, rfl, rfl⟩)
end Go.Proofs.YtkiadfpkgpgbiaaGreatDoor
