/- NumBack: what is added and taken off is as it was, what is multiplied and divided too: every two numbers, no condition. -/
import Derived.Test.YtopcgkbjijdabaaNumF
namespace Go.Proofs.Ytopcgkbjijdabaa
open Go.RowKit
set_option maxHeartbeats 1000000 in
theorem back_fn (a : Int) (ha : inB a) (b : Int) (hb : inB b) : Fn 4 [.int .i64 a, .int .i64 b] [] [] fun v _ => v = .bool true := by
  have T1 := add_fn ha hb
  have T2 := add_fn hb ha
  have T3 := mul_fn ha hb
  have T4 := mul_fn hb ha
  rw [Int.add_comm] at T2
  rw [Int.mul_comm] at T4
  have T5 : inB (a + b) → Fn 17 [.int .i64 (a + b), .int .i64 b] [] [] fun v H' => v = two (a, 0) ∧ H' = [] := fun h => by
    have := sub_fn h hb
    rwa [show a + b - b = a by omega, orErr_in ha] at this
  have Z : b = 0 → a * b = 0 := fun h => by rw [h, Int.mul_zero]
  have D : b ≠ 0 → inB (a * b) → IntKind.i64.wrap ((a * b).tdiv b) = a ∧ (a * b).tmod b = 0 := fun h0 _ => by
    rw [Int.mul_tdiv_cancel _ h0]
    exact ⟨w64 ha, Int.mul_tmod_left a b⟩
  by_cases h1 : inB (a + b) <;> by_cases h2 : inB (a * b)
  all_goals
    first | rw [orErr_in h1] at T1 T2 | rw [orErr_out h1] at T1 T2
    first | rw [orErr_in h2] at T3 T4 | rw [orErr_out h2] at T3 T4
    refine Fn_of Try.func4 rfl rfl fun w0 => ?_
    (repeat' (first | refine J_seq ?_ | refine J_skip ?_ | refine J_yes rfl ?_ | refine J_no rfl ?_))
    refine J_region ?_
    refine JL_all [] rfl ?_
    (repeat' (first | refine J_seq ?_ | refine J_skip ?_ | refine J_yes rfl ?_ | refine J_no rfl ?_))
    refine J_region ?_
    refine JL_callR [] (shown_fn) rfl rfl rfl rfl (by kernel_rfl) trivial (fun _ => rfl) ?_
    rintro v H' ⟨rfl, rfl⟩
    refine ⟨rfl, ?_⟩
    refine JL_all [] rfl ?_
    (repeat' (first | refine J_seq ?_ | refine J_skip ?_ | refine J_yes rfl ?_ | refine J_no rfl ?_))
    refine J_region ?_
    refine JL_all [] rfl ?_
    (repeat' (first | refine J_seq ?_ | refine J_skip ?_ | refine J_yes rfl ?_ | refine J_no rfl ?_))
    refine J_region ?_
    refine JL_run [] rfl ?_
    refine JL_callR [] (T1) rfl rfl rfl rfl (by kernel_rfl) trivial (fun _ => rfl) ?_
    rintro v H' ⟨rfl, rfl⟩
    refine ⟨rfl, ?_⟩
    refine JL_all [] rfl ?_
    (repeat' (first | refine J_seq ?_ | refine J_skip ?_ | refine J_yes rfl ?_ | refine J_no rfl ?_))
    refine J_region ?_
    refine JL_run [] rfl ?_
    refine JL_callR [] (T2) rfl rfl rfl rfl (by kernel_rfl) trivial (fun _ => rfl) ?_
    rintro v H' ⟨rfl, rfl⟩
    refine ⟨rfl, ?_⟩
    refine JL_all [] rfl ?_
    (repeat' (first | refine J_seq ?_ | refine J_skip ?_ | refine J_yes rfl ?_ | refine J_no rfl ?_))
    refine J_region ?_
    refine JL_run [] rfl ?_
    refine JL_callR [] (T3) rfl rfl rfl rfl (by kernel_rfl) trivial (fun _ => rfl) ?_
    rintro v H' ⟨rfl, rfl⟩
    refine ⟨rfl, ?_⟩
    refine JL_all [] rfl ?_
    (repeat' (first | refine J_seq ?_ | refine J_skip ?_ | refine J_yes rfl ?_ | refine J_no rfl ?_))
    refine J_region ?_
    refine JL_run [] rfl ?_
    refine JL_callR [] (T4) rfl rfl rfl rfl (by kernel_rfl) trivial (fun _ => rfl) ?_
    rintro v H' ⟨rfl, rfl⟩
    refine ⟨rfl, ?_⟩
    refine JL_all [] rfl ?_
    (repeat' (first
      | refine JL_all [] rfl ?_
      | refine JL_splitd rfl rfl rfl rfl (fun _ => ?_) (fun _ => ?_)
      | refine JL_evO (gs := [999]) rfl ?_
      | refine JL_split rfl rfl rfl rfl (fun _ => ?_) (fun _ => ?_)
      | refine J_seq ?_
      | refine J_region ?_
      | refine J_dec rfl (fun _ => ?_) (fun _ => ?_)
      | refine J_yes rfl ?_
      | refine J_no rfl ?_
      | refine J_cond rfl (fun _ => ?_) (fun _ => ?_)
      | refine J_skip ?_
      | refine J_ret ?_))
    all_goals try (exfalso; first | omega | contradiction)
  all_goals
    first
      | (refine JL_callR [] (T5 h1) rfl rfl rfl rfl (by kernel_rfl) trivial (fun _ => rfl) ?_
         rintro v H' ⟨rfl, rfl⟩
         refine ⟨rfl, ?_⟩
         (repeat' (first
           | refine JL_all [] rfl ?_
           | refine JL_splitd rfl rfl rfl rfl (fun _ => ?_) (fun _ => ?_)
           | refine JL_evO (gs := [999]) rfl ?_
           | refine JL_split rfl rfl rfl rfl (fun _ => ?_) (fun _ => ?_)
           | refine J_seq ?_
           | refine J_region ?_
           | refine J_dec rfl (fun _ => ?_) (fun _ => ?_)
           | refine J_yes rfl ?_
           | refine J_no rfl ?_
           | refine J_cond rfl (fun _ => ?_) (fun _ => ?_)
           | refine J_skip ?_
           | refine J_ret ?_)))
      | skip
    all_goals try (exfalso; first | omega | contradiction)
  all_goals first
    | exact ⟨_, rfl, rfl⟩
    | (refine ⟨_, rfl, ?_⟩
       first | rfl | exact congrArg Value.bool (cdec_yes (show a * b = 0 from Z (by assumption))))
    | (have hb0 : b ≠ 0 := by assumption
       obtain ⟨d1, d2⟩ := D hb0 h2
       refine JL_val [] (OpV_quo rfl rfl rfl hb0) rfl ?_
       refine JL_run [] rfl ?_
       refine JL_splitd rfl rfl rfl rfl (fun _ => ?_) (fun h => absurd d1 h)
       refine JL_run [5] rfl ?_
       refine JL_val [5] (OpV_rem rfl rfl rfl hb0) rfl ?_
       refine JL_all [5] rfl ?_
       exact J_ret ⟨_, rfl, congrArg Value.bool (cdec_yes d2)⟩)
end Go.Proofs.Ytopcgkbjijdabaa
