
/- BudgetShares: more steps are no lesser share, of a greater bound they are no greater one, and a share is what it is to the thousandth: every three numbers, no condition. -/
import Derived.Test.YtopcgkbjijdabaaBud
namespace Go.Proofs.Ytopcgkbjijdabaa
open Go.RowKit
theorem shown18_fn : Fn 29 [] [] [] fun v H' => v = .bool true ∧ H' = [] := by
  have hR : (⟨2, 1, 2, [⟨1, 2, 5⟩]⟩ : Net).Right := ⟨by decide, by decide, by decide, by decide, by decide, fun a ha => (by obtain rfl := List.mem_singleton.1 ha; decide), by decide⟩
  have hF : (⟨2, 1, 2, [⟨1, 2, 5⟩]⟩ : Net).Fits := ⟨by decide, by decide, by decide, by decide, fun a ha => (by obtain rfl := List.mem_singleton.1 ha; decide)⟩
  refine Fn_of Try.func29 rfl rfl fun w0 => ?_
  (repeat' (first | refine J_seq ?_ | refine J_skip ?_ | refine J_yes rfl ?_ | refine J_no rfl ?_))
  refine J_region ?_
  refine JL_all [] rfl ?_
  (repeat' (first | refine J_seq ?_ | refine J_skip ?_ | refine J_yes rfl ?_ | refine J_no rfl ?_))
  refine J_region ?_
  refine JL_val [] (OpV_build rfl rfl rfl rfl rfl rfl) rfl ?_
  refine JL_lit rfl rfl rfl rfl rfl rfl rfl (fun _ => rfl) fun g => ?_
  refine JL_val [] (OpV_build rfl rfl rfl rfl rfl rfl) rfl ?_
  refine JL_callR [] (bound_fn ⟨2, 1, 2, [⟨1, 2, 5⟩]⟩ hF (some ⟨g, 0, none⟩) 1 g 0 (fun _ => rfl)) rfl rfl rfl rfl (by kernel_rfl) ⟨⟨0, _, by simp, rfl, shows_blk _ _ _ (0, 0), .inr rfl⟩, trivial⟩ (fun _ => rfl) ?_
  rintro v H' ⟨rfl, rfl⟩
  refine ⟨rfl, ?_⟩
  rw [if_pos hR.check]
  refine JL_all [] rfl ?_
  have e : boundZ ⟨2, 1, 2, [⟨1, 2, 5⟩]⟩ = 540000 := by decide
  rw [e]
  (repeat' (first | refine J_seq ?_ | refine J_skip ?_ | refine J_yes rfl ?_ | refine J_no rfl ?_))
  refine J_region ?_
  refine JL_run [] rfl ?_
  refine JL_set 12 (v' := .bool true) rfl (congrArg Value.bool (cdec_yes rfl)) ?_
  refine JL_all [2] rfl ?_
  refine J_drop [] (by decide) rfl ?_
  exact J_ret ⟨_, rfl, congrArg Value.bool (cdec_yes rfl), rfl⟩
theorem shares_fn (a : Int) (_ha : inB a) (b : Int) (_hb : inB b) (c : Int) (_hc : inB c) : Fn 12 [.int .i64 a, .int .i64 b, .int .i64 c] [] [] fun v _ => v = .bool true := by
  have ta := tmod_cases a (m := 1000000000) (by decide)
  have tb := tmod_cases b (m := 1000000000) (by decide)
  have tc := tmod_cases c (m := 1000000) (by decide)
  obtain ⟨s, hs⟩ : ∃ s, s = if a.tmod 1000000000 < 0 then - a.tmod 1000000000 else a.tmod 1000000000 := ⟨_, rfl⟩
  obtain ⟨m, hm⟩ : ∃ s, s = if c.tmod 1000000 < 0 then - c.tmod 1000000 else c.tmod 1000000 := ⟨_, rfl⟩
  obtain ⟨d, hd⟩ : ∃ d, d = b.tmod 1000000000 := ⟨_, rfl⟩
  have hs' : 0 ≤ s ∧ s < 1000000000 := by split at hs <;> omega
  have hm' : 0 ≤ m ∧ m < 1000000 := by split at hm <;> omega
  have hd' : -1000000000 < d ∧ d < 1000000000 := by omega
  refine Fn_of Try.func12 rfl rfl fun w0 => ?_
  (repeat' (first | refine J_seq ?_ | refine J_skip ?_ | refine J_yes rfl ?_ | refine J_no rfl ?_))
  refine J_region ?_
  refine JL_all [] rfl ?_
  (repeat' (first | refine J_seq ?_ | refine J_skip ?_ | refine J_yes rfl ?_ | refine J_no rfl ?_))
  refine J_region ?_
  refine JL_callR [] (shown18_fn) rfl rfl rfl rfl (by kernel_rfl) trivial (fun _ => rfl) ?_
  rintro v H' ⟨rfl, rfl⟩
  refine ⟨rfl, ?_⟩
  refine JL_all [] rfl ?_
  (repeat' (first | refine J_seq ?_ | refine J_skip ?_ | refine J_yes rfl ?_ | refine J_no rfl ?_))
  refine J_region ?_
  refine JL_all [] rfl ?_
  (repeat' (first | refine J_seq ?_ | refine J_skip ?_ | refine J_yes rfl ?_ | refine J_no rfl ?_))
  refine J_region ?_
  refine JL_all [] rfl ?_
  (repeat' (first | refine J_seq ?_ | refine J_skip ?_ | refine J_yes rfl ?_ | refine J_no rfl ?_))
  refine J_region ?_
  refine JL_all [] rfl ?_
  (repeat' (first | refine J_seq ?_ | refine J_skip ?_ | refine J_yes rfl ?_ | refine J_no rfl ?_))
  refine J_region ?_
  refine JL_all [] rfl ?_
  refine J_cut [(8, .int .i64 s), (9, .int .i64 d), (10, .int .i64 (c.tmod 1000000))] [] ?_ ?_
  · (repeat' (first | refine J_seq ?_ | refine J_skip ?_ | refine J_yes rfl ?_ | refine J_no rfl ?_))
    refine J_region ?_
    refine JL_all [] rfl ?_
    refine J_dec rfl (fun h => ?_) (fun h => J_skip ?_)
    · rw [if_pos h] at hs
      refine J_region (JL_all [] rfl ?_)
      refine ⟨[], ⟨?_, by rw [hd]; rfl, rfl, trivial⟩, by decide, rfl⟩
      show some (Value.int .i64 (IntKind.i64.wrap (0 - a.tmod 1000000000))) = _
      rw [w64 (by omega), hs, Int.zero_sub]
    · rw [if_neg h] at hs
      exact ⟨[], ⟨by rw [hs]; rfl, by rw [hd]; rfl, rfl, trivial⟩, by decide, rfl⟩
  refine J_cut [(8, .int .i64 s), (9, .int .i64 d), (10, .int .i64 m)] [] ?_ ?_
  · (repeat' (first | refine J_seq ?_ | refine J_skip ?_ | refine J_yes rfl ?_ | refine J_no rfl ?_))
    refine J_region ?_
    refine JL_all [] rfl ?_
    refine J_dec rfl (fun h => ?_) (fun h => J_skip ?_)
    · rw [if_pos h] at hm
      refine J_region (JL_all [] rfl ?_)
      refine ⟨[], ⟨rfl, rfl, ?_, trivial⟩, by decide, rfl⟩
      show some (Value.int .i64 (IntKind.i64.wrap (0 - c.tmod 1000000))) = _
      rw [w64 (by omega), hm, Int.zero_sub]
    · rw [if_neg h] at hm
      exact ⟨[], ⟨rfl, rfl, by rw [hm]; rfl, trivial⟩, by decide, rfl⟩
  have T1 := share_fn 0 0 0 s d (by unfold inB; omega) (fun _ => by unfold inB; omega)
  (repeat' (first | refine J_seq ?_ | refine J_skip ?_ | refine J_yes rfl ?_ | refine J_no rfl ?_))
  refine J_region ?_
  refine JL_run [] rfl ?_
  refine JL_val [] (OpV_build rfl rfl rfl rfl rfl rfl) rfl ?_
  refine JL_callR [] (T1) rfl rfl rfl rfl (by kernel_rfl) trivial (fun _ => rfl) ?_
  rintro v H' ⟨rfl, rfl⟩
  refine ⟨rfl, ?_⟩
  refine JL_all [] rfl ?_
  (repeat' (first | refine J_seq ?_ | refine J_skip ?_ | refine J_yes rfl ?_ | refine J_no rfl ?_))
  refine J_region ?_
  refine JL_all [] rfl ?_
  refine J_dec rfl (fun h => ?_) (fun h => J_skip ?_)
  · have e : shareZ s d = (0, 1) := by unfold shareZ; rw [if_pos (.inl h)]
    rw [e]
    (repeat' (first | refine J_seq ?_ | refine J_skip ?_ | refine J_yes rfl ?_ | refine J_no rfl ?_))
    refine J_region ?_
    refine JL_run [] rfl ?_
    refine JL_set 45 (v' := .bool true) rfl (congrArg Value.bool (cdec_yes rfl)) ?_
    refine JL_all [2] rfl ?_
    exact J_ret ⟨_, rfl, congrArg Value.bool (cdec_yes rfl)⟩
  have T2 := share_fn 0 0 0 (s + m) d (by unfold inB; omega) (fun _ => by unfold inB; omega)
  have T3 := share_fn 0 0 0 s (d + m) (by unfold inB; omega) (fun _ => by unfold inB; omega)
  have e1 : shareZ s d = (Int.tdiv (1000 * s) d, 0) := by unfold shareZ; rw [if_neg (by omega)]
  have e2 : shareZ (s + m) d = (Int.tdiv (1000 * (s + m)) d, 0) := by unfold shareZ; rw [if_neg (by omega)]
  have e3 : shareZ s (d + m) = (Int.tdiv (1000 * s) (d + m), 0) := by unfold shareZ; rw [if_neg (by omega)]
  rw [Int.tdiv_eq_ediv_of_nonneg (by omega)] at e1 e2 e3
  have p1 : 1000 * s / d ≤ 1000 * (s + m) / d := Int.ediv_le_ediv (by omega) (by omega)
  have q0 : 0 ≤ 1000 * s / d := Int.ediv_nonneg (by omega) (by omega)
  have q1 : 1000 * s / d * d ≤ 1000 * s := Int.ediv_mul_le _ (by omega)
  have q2 : 1000 * s < (1000 * s / d + 1) * d := Int.lt_ediv_add_one_mul_self _ (by omega)
  have q3 : 1000 * s / d ≤ 1000 * s := Int.ediv_le_self _ (by omega)
  have p2 : 1000 * s / (d + m) ≤ 1000 * s / d := by
    refine (Int.le_ediv_iff_mul_le (by omega)).2 ?_
    have r1 : 1000 * s / (d + m) * (d + m) ≤ 1000 * s := Int.ediv_mul_le _ (by omega)
    have r2 : 0 ≤ 1000 * s / (d + m) := Int.ediv_nonneg (by omega) (by omega)
    have r3 : 1000 * s / (d + m) * d ≤ 1000 * s / (d + m) * (d + m) := Int.mul_le_mul_of_nonneg_left (by omega) r2
    omega
  have q4 : (1000 * s / d + 1) * d = 1000 * s / d * d + d := by rw [Int.add_mul, Int.one_mul]
  (repeat' (first | refine J_seq ?_ | refine J_skip ?_ | refine J_yes rfl ?_ | refine J_no rfl ?_))
  refine J_region ?_
  refine JL_run [] rfl ?_
  refine JL_set 52 (v' := .int .i64 (s + m)) rfl (congrArg (Value.int .i64) (w64 (by omega))) ?_
  refine JL_run [] rfl ?_
  refine JL_val [] (OpV_build rfl rfl rfl rfl rfl rfl) rfl ?_
  refine JL_callR [] (T2) rfl rfl rfl rfl (by kernel_rfl) trivial (fun _ => rfl) ?_
  rintro v H' ⟨rfl, rfl⟩
  refine ⟨rfl, ?_⟩
  refine JL_all [] rfl ?_
  (repeat' (first | refine J_seq ?_ | refine J_skip ?_ | refine J_yes rfl ?_ | refine J_no rfl ?_))
  refine J_region ?_
  refine JL_run [] rfl ?_
  refine JL_set 62 (v' := .int .i64 (d + m)) rfl (congrArg (Value.int .i64) (w64 (by omega))) ?_
  refine JL_run [] rfl ?_
  refine JL_val [] (OpV_build rfl rfl rfl rfl rfl rfl) rfl ?_
  refine JL_callR [] (T3) rfl rfl rfl rfl (by kernel_rfl) trivial (fun _ => rfl) ?_
  rintro v H' ⟨rfl, rfl⟩
  refine ⟨rfl, ?_⟩
  refine JL_all [] rfl ?_
  rw [e1, e2, e3]
  (repeat' (first | refine J_seq ?_ | refine J_skip ?_ | refine J_yes rfl ?_ | refine J_no rfl ?_))
  refine J_region ?_
  refine JL_run [] rfl ?_
  refine JL_set 69 (v' := .bool true) rfl (congrArg Value.bool (cdec_yes rfl)) ?_
  refine JL_run [2] rfl ?_
  refine JL_set 73 (v' := .bool true) rfl (congrArg Value.bool (cdec_yes rfl)) ?_
  refine JL_run [2, 6] rfl ?_
  refine JL_set 77 (v' := .bool true) rfl (congrArg Value.bool (cdec_yes rfl)) ?_
  refine JL_run [2, 6, 10] rfl ?_
  refine JL_set 82 (v' := .bool true) rfl (congrArg Value.bool (cdec_yes p1)) ?_
  refine JL_run [2, 6, 10, 15] rfl ?_
  refine JL_set 87 (v' := .bool true) rfl (congrArg Value.bool (cdec_yes p2)) ?_
  refine JL_run [2, 6, 10, 15, 20] rfl ?_
  refine JL_set 95 (v' := .bool true) rfl (congrArg Value.bool (cdec_yes (by rw [w64 (n := 1000 * s / d * d) (by omega), w64 (n := 1000 * s) (by omega)]; exact q1))) ?_
  refine JL_all [2, 6, 10, 15, 20, 28] rfl ?_
  refine J_ret ⟨_, rfl, congrArg Value.bool (cdec_yes ?_)⟩
  rw [w64 (n := 1000 * s / d + 1) (by omega), w64 (n := (1000 * s / d + 1) * d) (by omega), w64 (n := 1000 * s) (by omega)]
  exact q2
end Go.Proofs.Ytopcgkbjijdabaa
