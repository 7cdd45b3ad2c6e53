/- NumSigns: the sum with the other sign is nothing, the product with it the other one: every two numbers, no condition. -/
import Derived.Test.YtopcgkbjijdabaaNumF
namespace Go.Proofs.Ytopcgkbjijdabaa
open Go.RowKit
set_option maxHeartbeats 1000000 in
theorem signs_fn (a : Int) (ha : inB a) (b : Int) (hb : inB b) : Fn 5 [.int .i64 a, .int .i64 b] [] [] fun v _ => v = .bool true := by
  have T1 := sub_fn (a := 0) (b := a) (by decide) ha
  by_cases h0 : a = -9223372036854775808
  · rw [orErr_out (by unfold inB; omega)] at T1
    have Z : a ≠ -9223372036854775808 → False := fun h => h h0
    refine Fn_of Try.func5 rfl rfl fun w0 => ?_
    (repeat' (first | refine J_seq ?_ | refine J_skip ?_ | refine J_yes rfl ?_ | refine J_no rfl ?_))
    refine J_region ?_
    refine JL_all [] rfl ?_
    (repeat' (first | refine J_seq ?_ | refine J_skip ?_ | refine J_yes rfl ?_ | refine J_no rfl ?_))
    refine J_region ?_
    refine JL_callR [] (shown_fn) rfl rfl rfl rfl (by kernel_rfl) trivial (fun _ => rfl) ?_
    rintro v H' ⟨rfl, rfl⟩
    refine ⟨rfl, ?_⟩
    refine JL_all [] rfl ?_
    (repeat' (first | refine J_seq ?_ | refine J_skip ?_ | refine J_yes rfl ?_ | refine J_no rfl ?_))
    refine J_region ?_
    refine JL_all [] rfl ?_
    (repeat' (first | refine J_seq ?_ | refine J_skip ?_ | refine J_yes rfl ?_ | refine J_no rfl ?_))
    refine J_region ?_
    refine JL_run [] rfl ?_
    refine JL_callR [] (T1) rfl rfl rfl rfl (by kernel_rfl) trivial (fun _ => rfl) ?_
    rintro v H' ⟨rfl, rfl⟩
    refine ⟨rfl, ?_⟩
    refine JL_all [] rfl ?_
    (repeat' (first | refine J_seq ?_ | refine J_skip ?_ | refine J_yes rfl ?_ | refine J_no rfl ?_))
    refine J_region ?_
    refine JL_all [] rfl ?_
    (repeat' (first | refine J_seq ?_ | refine J_skip ?_ | refine J_yes rfl ?_ | refine J_no rfl ?_))
    refine J_region ?_
    refine JL_all [] rfl ?_
    refine J_cond rfl (fun h => ?_) (fun h => ?_)
    · exfalso
      have : (cdec (((0 : Int), (3 : Int)).2 = 0) != cdec (a ≠ -9223372036854775808)) = true := h
      rw [cdec_no (by simp), cdec_no (fun h => h h0)] at this
      exact absurd this (by decide)
    · refine J_skip ?_
      (repeat' (first
        | refine JL_all [] rfl ?_
        | refine JL_splitd rfl rfl rfl rfl (fun _ => ?_) (fun _ => ?_)
        | refine JL_evO (gs := [999]) rfl ?_
        | refine JL_split rfl rfl rfl rfl (fun _ => ?_) (fun _ => ?_)
        | refine J_seq ?_
        | refine J_region ?_
        | refine J_dec rfl (fun _ => ?_) (fun _ => ?_)
        | refine J_yes rfl ?_
        | refine J_no rfl ?_
        | refine J_cond rfl (fun _ => ?_) (fun _ => ?_)
        | refine J_skip ?_
        | refine J_ret ?_))
      all_goals try (exfalso; first | omega | contradiction)
      all_goals exact ⟨_, rfl, congrArg Value.bool (cdec_yes rfl)⟩
  · have hm : inB (0 - a) := by unfold inB at *; omega
    rw [orErr_in hm] at T1
    have T2 := add_fn (a := a) (b := 0 - a) ha hm
    rw [show a + (0 - a) = 0 by omega, orErr_in (n := 0) (by decide)] at T2
    have T3 := mul_fn ha hb
    have T4 := mul_fn (a := 0 - a) (b := b) hm hb
    have e1 : (0 - a) * b = - (a * b) := by rw [Int.zero_sub, Int.neg_mul]
    rw [e1] at T4
    by_cases h1 : inB (a * b) <;> by_cases h2 : inB (-(a * b))
    all_goals
      first | rw [orErr_in h1] at T3 | rw [orErr_out h1] at T3
      first | rw [orErr_in h2] at T4 | rw [orErr_out h2] at T4
      refine Fn_of Try.func5 rfl rfl fun w0 => ?_
      (repeat' (first | refine J_seq ?_ | refine J_skip ?_ | refine J_yes rfl ?_ | refine J_no rfl ?_))
      refine J_region ?_
      refine JL_all [] rfl ?_
      (repeat' (first | refine J_seq ?_ | refine J_skip ?_ | refine J_yes rfl ?_ | refine J_no rfl ?_))
      refine J_region ?_
      refine JL_callR [] (shown_fn) rfl rfl rfl rfl (by kernel_rfl) trivial (fun _ => rfl) ?_
      rintro v H' ⟨rfl, rfl⟩
      refine ⟨rfl, ?_⟩
      refine JL_all [] rfl ?_
      (repeat' (first | refine J_seq ?_ | refine J_skip ?_ | refine J_yes rfl ?_ | refine J_no rfl ?_))
      refine J_region ?_
      refine JL_all [] rfl ?_
      (repeat' (first | refine J_seq ?_ | refine J_skip ?_ | refine J_yes rfl ?_ | refine J_no rfl ?_))
      refine J_region ?_
      refine JL_run [] rfl ?_
      refine JL_callR [] (T1) rfl rfl rfl rfl (by kernel_rfl) trivial (fun _ => rfl) ?_
      rintro v H' ⟨rfl, rfl⟩
      refine ⟨rfl, ?_⟩
      refine JL_all [] rfl ?_
      (repeat' (first | refine J_seq ?_ | refine J_skip ?_ | refine J_yes rfl ?_ | refine J_no rfl ?_))
      refine J_region ?_
      refine JL_all [] rfl ?_
      (repeat' (first | refine J_seq ?_ | refine J_skip ?_ | refine J_yes rfl ?_ | refine J_no rfl ?_))
      refine J_region ?_
      refine JL_all [] rfl ?_
      refine J_cond rfl (fun h => ?_) (fun _ => ?_)
      · exfalso
        have : (cdec ((0 - a, (0 : Int)).2 = 0) != cdec (a ≠ -9223372036854775808)) = true := h
        rw [cdec_yes rfl, cdec_yes h0] at this
        exact absurd this (by decide)
      refine J_skip ?_
      (repeat' (first
        | refine JL_all [] rfl ?_
        | refine JL_splitd rfl rfl rfl rfl (fun _ => ?_) (fun _ => ?_)
        | refine JL_evO (gs := [999]) rfl ?_
        | refine JL_split rfl rfl rfl rfl (fun _ => ?_) (fun _ => ?_)
        | refine J_seq ?_
        | refine J_region ?_
        | refine J_dec rfl (fun _ => ?_) (fun _ => ?_)
        | refine J_yes rfl ?_
        | refine J_no rfl ?_
        | refine J_cond rfl (fun _ => ?_) (fun _ => ?_)
        | refine J_skip ?_
        | refine J_ret ?_))
      all_goals try (exfalso; first | omega | contradiction)
      refine JL_callR [] (T2) rfl rfl rfl rfl (by kernel_rfl) trivial (fun _ => rfl) ?_
      rintro v H' ⟨rfl, rfl⟩
      refine ⟨rfl, ?_⟩
      refine JL_all [] rfl ?_
      (repeat' (first | refine J_seq ?_ | refine J_skip ?_ | refine J_yes rfl ?_ | refine J_no rfl ?_))
      refine J_region ?_
      refine JL_run [] rfl ?_
      refine JL_callR [] (T3) rfl rfl rfl rfl (by kernel_rfl) trivial (fun _ => rfl) ?_
      rintro v H' ⟨rfl, rfl⟩
      refine ⟨rfl, ?_⟩
      refine JL_all [] rfl ?_
      (repeat' (first | refine J_seq ?_ | refine J_skip ?_ | refine J_yes rfl ?_ | refine J_no rfl ?_))
      refine J_region ?_
      refine JL_run [] rfl ?_
      refine JL_callR [] (T4) rfl rfl rfl rfl (by kernel_rfl) trivial (fun _ => rfl) ?_
      rintro v H' ⟨rfl, rfl⟩
      refine ⟨rfl, ?_⟩
      refine JL_all [] rfl ?_
      (repeat' (first
        | refine JL_all [] rfl ?_
        | refine JL_splitd rfl rfl rfl rfl (fun _ => ?_) (fun _ => ?_)
        | refine JL_evO (gs := [999]) rfl ?_
        | refine JL_split rfl rfl rfl rfl (fun _ => ?_) (fun _ => ?_)
        | refine J_seq ?_
        | refine J_region ?_
        | refine J_dec rfl (fun _ => ?_) (fun _ => ?_)
        | refine J_yes rfl ?_
        | refine J_no rfl ?_
        | refine J_cond rfl (fun _ => ?_) (fun _ => ?_)
        | refine J_skip ?_
        | refine J_ret ?_))
    all_goals first
      | exact ⟨_, rfl, rfl⟩
      | (exfalso
         clear T1 T2 T3 T4
         simp [cdec_dec] at *
         done)
      | (exfalso
         clear T1 T2 T3 T4
         simp [cdec_dec] at *
         unfold inB at h1 h2
         omega)
      | (refine ⟨_, rfl, congrArg Value.bool (cdec_yes ?_)⟩
         show a * b = IntKind.i64.wrap (0 - -(a * b))
         rw [show 0 - -(a * b) = a * b by omega, w64 h1])
end Go.Proofs.Ytopcgkbjijdabaa
