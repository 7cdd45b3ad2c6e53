
/- Chapter 18's networks of raw numbers. -/
import Derived.Test.YtdhenmmmkdhonaaQB
set_option linter.unusedVariables false
set_option linter.unusedSimpArgs false
namespace Go.Proofs.Ytdhenmmmkdhonaa
open Go.RowKit
theorem pick18_fn {c n : Int} (hc : inB c) (hn : 0 < n) : Fn 12 [.int .i64 c, .int .i64 n] [] [] fun v H' => v = .int .i64 (pickZ c n) ∧ H' = [] := by
  unfold inB at hc
  refine Fn_of Try.func12 rfl rfl fun w0 => ?_
  (repeat' (first | refine J_seq ?_ | refine J_skip ?_ | refine J_yes rfl ?_ | refine J_no rfl ?_))
  refine J_region ?_
  refine JL_all [] rfl ?_
  refine J_cut [(0, .int .i64 (if c < 0 then - (c + 1) else c)), (1, .int .i64 n)] [] ?_ ?_
  · (repeat' (first | refine J_seq ?_ | refine J_skip ?_ | refine J_yes rfl ?_ | refine J_no rfl ?_))
    refine J_region ?_
    refine JL_all [] rfl ?_
    refine J_dec rfl (fun h => ?_) (fun h => J_skip ?_)
    · refine J_region (JL_all [] rfl ?_)
      refine ⟨[], ⟨?_, rfl, trivial⟩, by decide, rfl⟩
      show some (Value.int .i64 (IntKind.i64.wrap (0 - IntKind.i64.wrap (c + 1)))) = _
      rw [if_pos h, w64 (n := c + 1) (by omega), w64 (by omega), Int.zero_sub]
    · exact ⟨[], ⟨by rw [if_neg h]; rfl, rfl, trivial⟩, by decide, rfl⟩
  (repeat' (first | refine J_seq ?_ | refine J_skip ?_ | refine J_yes rfl ?_ | refine J_no rfl ?_))
  refine J_region ?_
  refine JL_run [] rfl ?_
  refine JL_val [] (OpV_rem rfl rfl rfl (by omega)) rfl ?_
  refine JL_all [] rfl ?_
  refine J_ret ⟨_, rfl, congrArg (Value.int .i64) ?_, rfl⟩
  unfold pickZ
  rw [Int.tmod_eq_emod_of_nonneg (by split <;> omega)]
end Go.Proofs.Ytdhenmmmkdhonaa
