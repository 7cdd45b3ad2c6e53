/- NumBounds: just those sums and differences err that go beyond the bounds: every two numbers, no condition. -/
import Derived.Test.YtopcgkbjijdabaaNumF
namespace Go.Proofs.Ytopcgkbjijdabaa
open Go.RowKit
theorem orErr_two (n : Int) : cdec ((orErr n).2 ≠ 0) = cdec (¬ inB n) := by
  apply cdec_iff
  unfold orErr
  by_cases h : inB n
  · simp [h]
  · simp [h]
theorem half_sum (a b : Int) (ha : inB a) (hb : inB b) : beyondP (IntKind.i64.wrap (IntKind.i64.wrap (a.tdiv 2) + IntKind.i64.wrap (b.tdiv 2))) (IntKind.i64.wrap (a.tmod 2 + b.tmod 2)) ↔ ¬ inB (a + b) := by
  have h1 := tmod_cases a (m := 2) (by decide)
  have h2 := tmod_cases b (m := 2) (by decide)
  unfold inB at *
  rw [w64 (n := a.tdiv 2) (by omega), w64 (n := b.tdiv 2) (by omega), w64 (by omega), w64 (by omega)]
  unfold beyondP
  omega
theorem half_sub (a b : Int) (ha : inB a) (hb : inB b) : beyondP (IntKind.i64.wrap (IntKind.i64.wrap (a.tdiv 2) - IntKind.i64.wrap (b.tdiv 2))) (IntKind.i64.wrap (a.tmod 2 - b.tmod 2)) ↔ ¬ inB (a - b) := by
  have h1 := tmod_cases a (m := 2) (by decide)
  have h2 := tmod_cases b (m := 2) (by decide)
  unfold inB at *
  rw [w64 (n := a.tdiv 2) (by omega), w64 (n := b.tdiv 2) (by omega), w64 (by omega), w64 (by omega)]
  unfold beyondP
  omega
theorem bounds_fn (a : Int) (ha : inB a) (b : Int) (hb : inB b) : Fn 3 [.int .i64 a, .int .i64 b] [] [] fun v _ => v = .bool true := by
  refine Fn_of Try.func3 rfl rfl fun w0 => ?_
  (repeat' (first | refine J_seq ?_ | refine J_skip ?_ | refine J_yes rfl ?_ | refine J_no rfl ?_))
  refine J_region ?_
  refine JL_all [] rfl ?_
  (repeat' (first | refine J_seq ?_ | refine J_skip ?_ | refine J_yes rfl ?_ | refine J_no rfl ?_))
  refine J_region ?_
  refine JL_callR [] (shown_fn) rfl rfl rfl rfl (by kernel_rfl) trivial (fun _ => rfl) ?_
  rintro v H' ⟨rfl, rfl⟩
  refine ⟨rfl, ?_⟩
  refine JL_all [] rfl ?_
  (repeat' (first | refine J_seq ?_ | refine J_skip ?_ | refine J_yes rfl ?_ | refine J_no rfl ?_))
  refine J_region ?_
  refine JL_all [] rfl ?_
  (repeat' (first | refine J_seq ?_ | refine J_skip ?_ | refine J_yes rfl ?_ | refine J_no rfl ?_))
  refine J_region ?_
  refine JL_run [] rfl ?_
  refine JL_callR [] (add_fn ha hb) rfl rfl rfl rfl (by kernel_rfl) trivial (fun _ => rfl) ?_
  rintro v H' ⟨rfl, rfl⟩
  refine ⟨rfl, ?_⟩
  refine JL_all [] rfl ?_
  (repeat' (first | refine J_seq ?_ | refine J_skip ?_ | refine J_yes rfl ?_ | refine J_no rfl ?_))
  refine J_region ?_
  refine JL_run [] rfl ?_
  refine JL_callR [] (sub_fn ha hb) rfl rfl rfl rfl (by kernel_rfl) trivial (fun _ => rfl) ?_
  rintro v H' ⟨rfl, rfl⟩
  refine ⟨rfl, ?_⟩
  refine JL_all [] rfl ?_
  (repeat' (first | refine J_seq ?_ | refine J_skip ?_ | refine J_yes rfl ?_ | refine J_no rfl ?_))
  refine J_region ?_
  refine JL_all [] rfl ?_
  (repeat' (first | refine J_seq ?_ | refine J_skip ?_ | refine J_yes rfl ?_ | refine J_no rfl ?_))
  refine J_region ?_
  refine JL_all [] rfl ?_
  (repeat' (first | refine J_seq ?_ | refine J_skip ?_ | refine J_yes rfl ?_ | refine J_no rfl ?_))
  refine J_region ?_
  refine JL_run [] rfl ?_
  refine JL_callR [] (beyond_fn _ _) rfl rfl rfl rfl (by kernel_rfl) trivial (fun _ => rfl) ?_
  rintro v H' ⟨rfl, rfl⟩
  refine ⟨rfl, ?_⟩
  refine JL_all [] rfl ?_
  (repeat' (first | refine J_seq ?_ | refine J_skip ?_ | refine J_yes rfl ?_ | refine J_no rfl ?_))
  refine J_region ?_
  refine JL_all [] rfl ?_
  (repeat' (first | refine J_seq ?_ | refine J_skip ?_ | refine J_yes rfl ?_ | refine J_no rfl ?_))
  refine J_region ?_
  refine JL_all [] rfl ?_
  (repeat' (first | refine J_seq ?_ | refine J_skip ?_ | refine J_yes rfl ?_ | refine J_no rfl ?_))
  refine J_region ?_
  refine JL_run [] rfl ?_
  refine JL_set 55 (v' := .bool true) rfl ?_ ?_
  · show Value.bool (cdec ((orErr (a + b)).2 ≠ 0) == cdec _) = _
    rw [orErr_two, cdec_iff (half_sum a b ha hb)]; simp
  refine JL_run [4] rfl ?_
  refine JL_callR [4] (beyond_fn _ _) rfl rfl rfl rfl (by kernel_rfl) trivial (fun _ => rfl) ?_
  rintro v H' ⟨rfl, rfl⟩
  refine ⟨rfl, ?_⟩
  refine JL_all [4] rfl ?_
  refine J_ret ⟨_, rfl, ?_⟩
  show Value.bool (cdec ((orErr (a - b)).2 ≠ 0) == cdec _) = _
  rw [orErr_two, cdec_iff (half_sub a b ha hb)]; simp
end Go.Proofs.Ytopcgkbjijdabaa
