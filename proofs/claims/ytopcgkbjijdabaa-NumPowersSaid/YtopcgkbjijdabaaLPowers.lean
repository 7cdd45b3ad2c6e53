/- NumPowers: a number lies between its two powers of two: every number and every exponent, no condition. -/
import Derived.Test.YtopcgkbjijdabaaNumL
namespace Go.Proofs.Ytopcgkbjijdabaa
open Go.RowKit
theorem log_pow (e : Nat) : logOf ((2 ^ e : Nat) : Int) = e := by
  unfold logOf
  rcases Nat.eq_zero_or_pos e with rfl | he
  · rfl
  · have h2 : 2 ^ e = 2 * 2 ^ (e - 1) := by rw [← Nat.pow_succ']; congr 1; omega
    have h1 := Nat.two_pow_pos (e - 1)
    rw [if_neg (by omega)]
    have : (((2 ^ e : Nat) : Int) - 1).toNat = 2 ^ e - 1 := by omega
    rw [this, bitLen_uniq (k := e - 1) (by omega) (by rw [show e - 1 + 1 = e by omega]; omega)]
    omega
theorem floor_pow (e : Nat) : floorOf ((2 ^ e : Nat) : Int) = ((2 ^ e : Nat) : Int) := by
  unfold floorOf
  have h1 := Nat.two_pow_pos e
  rw [if_neg (by omega), Int.toNat_natCast, bitLen_uniq (k := e) (Nat.le_refl _) (by rw [Nat.pow_succ]; omega), Nat.add_sub_cancel]
  norm_cast
theorem log_pow_less (e : Nat) (he : 1 < e) : logOf (((2 ^ e : Nat) : Int) - 1) = e := by
  unfold logOf
  have h2 : 2 ^ e = 4 * 2 ^ (e - 2) := by rw [show (4 : Nat) = 2 ^ 2 by rfl, ← Nat.pow_add]; congr 1; omega
  have h3 : 2 ^ (e - 1) = 2 * 2 ^ (e - 2) := by rw [← Nat.pow_succ']; congr 1; omega
  have h1 := Nat.two_pow_pos (e - 2)
  rw [if_neg (by omega)]
  have : (((2 ^ e : Nat) : Int) - 1 - 1).toNat = 2 ^ e - 2 := by omega
  rw [this, bitLen_uniq (k := e - 1) (by omega) (by rw [show e - 1 + 1 = e by omega]; omega)]
  omega
theorem floor_pow_less (e : Nat) (he : 1 < e) : floorOf (((2 ^ e : Nat) : Int) - 1) = ((2 ^ (e - 1) : Nat) : Int) := by
  unfold floorOf
  have h2 : 2 ^ e = 2 * 2 ^ (e - 1) := by rw [← Nat.pow_succ']; congr 1; omega
  have h3 : 2 ^ (e - 1) = 2 * 2 ^ (e - 2) := by rw [← Nat.pow_succ']; congr 1; omega
  have h1 := Nat.two_pow_pos (e - 2)
  rw [if_neg (by omega)]
  have : (((2 ^ e : Nat) : Int) - 1).toNat = 2 ^ e - 1 := by omega
  rw [this, bitLen_uniq (k := e - 1) (by omega) (by rw [show e - 1 + 1 = e by omega]; omega), Nat.add_sub_cancel]
  norm_cast
theorem log_pow_more (e : Nat) : logOf (((2 ^ e : Nat) : Int) + 1) = e + 1 := by
  unfold logOf
  have h1 := Nat.two_pow_pos e
  rw [if_neg (by omega)]
  have : (((2 ^ e : Nat) : Int) + 1 - 1).toNat = 2 ^ e := by omega
  rw [this, bitLen_uniq (k := e) (Nat.le_refl _) (by rw [Nat.pow_succ]; omega)]
theorem powers_fn (n : Int) (hn : inB n) (k : Int) (_hk : inB k) : Fn 8 [.int .i64 n, .int .i64 k] [] [] fun v _ => v = .bool true := by
  have hr := tmod_cases k (m := 62) (by decide)
  obtain ⟨e, he⟩ : ∃ e : Nat, (e : Int) = if k.tmod 62 < 0 then - k.tmod 62 else k.tmod 62 := ⟨(if k.tmod 62 < 0 then - k.tmod 62 else k.tmod 62).toNat, by split <;> omega⟩
  have he61 : e ≤ 61 := by split at he <;> omega
  have hP : 2 ^ e ≤ 2 ^ 61 := Nat.pow_le_pow_right (by decide) he61
  have hP1 := Nat.two_pow_pos e
  have hPB : inB ((2 ^ e : Nat) : Int) := by unfold inB; omega
  have hPB1 : inB (((2 ^ e : Nat) : Int) - 1) := by unfold inB; omega
  have hPB2 : inB (((2 ^ e : Nat) : Int) + 1) := by unfold inB; omega
  have T1 := log_fn _ hPB
  have T2 := floor_fn _ hPB
  rw [log_pow] at T1
  rw [floor_pow] at T2
  have T5 := log_fn _ hPB2
  rw [log_pow_more] at T5
  refine Fn_of Try.func8 rfl rfl fun w0 => ?_
  (repeat' (first | refine J_seq ?_ | refine J_skip ?_ | refine J_yes rfl ?_ | refine J_no rfl ?_))
  refine J_region ?_
  refine JL_all [] rfl ?_
  (repeat' (first | refine J_seq ?_ | refine J_skip ?_ | refine J_yes rfl ?_ | refine J_no rfl ?_))
  refine J_region ?_
  refine JL_callR [] (shown_fn) rfl rfl rfl rfl (by kernel_rfl) trivial (fun _ => rfl) ?_
  rintro v H' ⟨rfl, rfl⟩
  refine ⟨rfl, ?_⟩
  refine JL_all [] rfl ?_
  (repeat' (first | refine J_seq ?_ | refine J_skip ?_ | refine J_yes rfl ?_ | refine J_no rfl ?_))
  refine J_region ?_
  refine JL_all [] rfl ?_
  (repeat' (first | refine J_seq ?_ | refine J_skip ?_ | refine J_yes rfl ?_ | refine J_no rfl ?_))
  refine J_region ?_
  refine JL_all [] rfl ?_
  refine J_cut [(0, .int .i64 n), (6, .int .i64 e)] [] ?_ ?_
  · (repeat' (first | refine J_seq ?_ | refine J_skip ?_ | refine J_yes rfl ?_ | refine J_no rfl ?_))
    refine J_region ?_
    refine JL_all [] rfl ?_
    refine J_dec rfl (fun h => ?_) (fun h => J_skip ?_)
    · rw [if_pos h] at he
      refine J_region (JL_all [] rfl ?_)
      refine ⟨[], ⟨rfl, ?_, trivial⟩, by decide, rfl⟩
      show some (Value.int .i64 (IntKind.i64.wrap (0 - k.tmod 62))) = _
      rw [w64 (by omega), show 0 - k.tmod 62 = (e : Int) by omega]
    · rw [if_neg h] at he
      refine ⟨[], ⟨rfl, ?_, trivial⟩, by decide, rfl⟩
      show some (Value.int .i64 (k.tmod 62)) = _
      rw [← he]
  (repeat' (first | refine J_seq ?_ | refine J_skip ?_ | refine J_yes rfl ?_ | refine J_no rfl ?_))
  refine J_region ?_
  refine JL_run [] rfl ?_
  refine JL_val [] (OpV_shl rfl rfl rfl) rfl ?_
  refine JL_set 20 (v' := .int .i64 ((2 ^ e : Nat) : Int)) rfl (congrArg (Value.int .i64) ?_) ?_
  · rw [Int.one_mul, Nat.min_eq_left (by simp [IntKind.bits]; omega), show ((2 : Int) ^ e) = ((2 ^ e : Nat) : Int) by norm_cast]
    exact w64 hPB
  refine JL_all [] rfl ?_
  (repeat' (first | refine J_seq ?_ | refine J_skip ?_ | refine J_yes rfl ?_ | refine J_no rfl ?_))
  refine J_region ?_
  refine JL_run [] rfl ?_
  refine JL_callR [] (T1) rfl rfl rfl rfl (by kernel_rfl) trivial (fun _ => rfl) ?_
  rintro v H' ⟨rfl, rfl⟩
  refine ⟨rfl, ?_⟩
  refine JL_run [] rfl ?_
  refine JL_set 25 (v' := .bool false) rfl (congrArg Value.bool (cdec_no (by simp))) ?_
  refine JL_run [4] rfl ?_
  refine JL_callR [4] T2 rfl rfl rfl rfl (by kernel_rfl) trivial (fun _ => rfl) ?_
  rintro v H' ⟨rfl, rfl⟩
  refine ⟨rfl, ?_⟩
  refine JL_run [4] rfl ?_
  refine JL_set 31 (v' := .bool false) rfl (congrArg Value.bool (cdec_no (by simp))) ?_
  refine JL_cut 18 [(49, .bool false), (6, .int .i64 e), (7, .int .i64 ((2 ^ e : Nat) : Int)), (0, .int .i64 n)] [] ?_ ?_
  · by_cases he1 : 1 < e
    · have T3 := log_fn _ hPB1
      have T4 := floor_fn _ hPB1
      rw [log_pow_less e he1] at T3
      rw [floor_pow_less e he1] at T4
      have h2 : 2 ^ e = 2 * 2 ^ (e - 1) := by rw [← Nat.pow_succ']; congr 1; omega
      refine JL_run [10] rfl ?_
      refine JL_set 34 (v' := .bool true) rfl (congrArg Value.bool (cdec_yes (by omega))) ?_
      refine JL_run [10, 13] rfl ?_
      refine JL_set 36 (v' := .int .i64 (((2 ^ e : Nat) : Int) - 1)) rfl (congrArg (Value.int .i64) (w64 hPB1)) ?_
      refine JL_callR [10, 13] (T3) rfl rfl rfl rfl (by kernel_rfl) trivial (fun _ => rfl) ?_
      rintro v H' ⟨rfl, rfl⟩
      refine ⟨rfl, ?_⟩
      refine JL_run [10, 13] rfl ?_
      refine JL_set 40 (v' := .bool false) rfl (congrArg Value.bool (cdec_no (by simp))) ?_
      refine JL_run [10, 13, 19] rfl ?_
      refine JL_set 42 (v' := .int .i64 (((2 ^ e : Nat) : Int) - 1)) rfl (congrArg (Value.int .i64) (w64 hPB1)) ?_
      refine JL_callR [10, 13, 19] (T4) rfl rfl rfl rfl (by kernel_rfl) trivial (fun _ => rfl) ?_
      rintro v H' ⟨rfl, rfl⟩
      refine ⟨rfl, ?_⟩
      refine JL_all [10, 13, 19] rfl ?_
      refine ⟨[], ⟨?_, rfl, rfl, rfl, trivial⟩, by decide, rfl⟩
      refine congrArg some (congrArg Value.bool (cdec_no (fun hx => hx ?_)))
      rw [w64 (n := Int.tdiv _ 2) (by rw [Int.tdiv_eq_ediv_of_nonneg (by omega)]; unfold inB at hPB; omega), Int.tdiv_eq_ediv_of_nonneg (by omega)]
      omega
    · refine JL_run [10] rfl ?_
      refine JL_set 34 (v' := .bool false) rfl (congrArg Value.bool (cdec_no (by omega))) ?_
      refine JL_all [10, 13, 19] rfl ?_
      exact ⟨[], ⟨rfl, rfl, rfl, rfl, trivial⟩, by decide, rfl⟩
  refine JL_run [29] rfl ?_
  refine JL_cut 9 [(62, .bool false), (0, .int .i64 n)] [] ?_ ?_
  · by_cases he2 : e < 61
    · refine JL_set 53 (v' := .bool true) rfl (congrArg Value.bool (cdec_yes (by omega))) ?_
      refine JL_run [29, 32] rfl ?_
      refine JL_set 55 (v' := .int .i64 (((2 ^ e : Nat) : Int) + 1)) rfl (congrArg (Value.int .i64) (w64 hPB2)) ?_
      refine JL_callR [29, 32] (T5) rfl rfl rfl rfl (by kernel_rfl) trivial (fun _ => rfl) ?_
      rintro v H' ⟨rfl, rfl⟩
      refine ⟨rfl, ?_⟩
      refine JL_all [29, 32] rfl ?_
      refine ⟨[], ⟨?_, rfl, trivial⟩, by decide, rfl⟩
      refine congrArg some (congrArg Value.bool (cdec_no (fun hx => hx ?_)))
      rw [w64 (by omega), if_neg (by omega)]
      omega
    · refine JL_set 53 (v' := .bool false) rfl (congrArg Value.bool (cdec_no (by omega))) ?_
      refine JL_all [29, 32] rfl ?_
      exact ⟨[], ⟨rfl, rfl, trivial⟩, by decide, rfl⟩
  refine JL_nil ?_
  (repeat' (first | refine J_seq ?_ | refine J_skip ?_ | refine J_yes rfl ?_ | refine J_no rfl ?_))
  refine J_region ?_
  refine JL_all [] rfl ?_
  by_cases h1 : n < 1
  · refine J_dec rfl (fun _ => ?_) (fun h => absurd h1 h)
    have T6 := log_fn n hn
    have T7 := floor_fn n hn
    rw [show logOf n = 0 by unfold logOf; rw [if_pos (by omega)]] at T6
    rw [show floorOf n = 0 by unfold floorOf; rw [if_pos h1]] at T7
    (repeat' (first | refine J_seq ?_ | refine J_skip ?_ | refine J_yes rfl ?_ | refine J_no rfl ?_))
    refine J_region ?_
    refine JL_run [] rfl ?_
    refine JL_callR [] (T6) rfl rfl rfl rfl (by kernel_rfl) trivial (fun _ => rfl) ?_
    rintro v H' ⟨rfl, rfl⟩
    refine ⟨rfl, ?_⟩
    refine JL_run [] rfl ?_
    refine JL_set 68 (v' := .bool true) rfl (congrArg Value.bool (cdec_yes (by simp))) ?_
    refine JL_run [3] rfl ?_
    refine JL_callR [3] (T7) rfl rfl rfl rfl (by kernel_rfl) trivial (fun _ => rfl) ?_
    rintro v H' ⟨rfl, rfl⟩
    refine ⟨rfl, ?_⟩
    refine JL_all [3] rfl ?_
    exact J_ret ⟨_, rfl, congrArg Value.bool (cdec_yes rfl)⟩
  · refine J_dec rfl (fun h => absurd h h1) (fun _ => J_skip ?_)
    have hp : 0 < n.toNat := by omega
    have b1 := bitLen_le hp
    have b2 := bitLen_pos hp
    have b3 := bitLen_lt n.toNat
    have b4 : 2 ^ bitLen n.toNat = 2 * 2 ^ (bitLen n.toNat - 1) := by rw [← Nat.pow_succ']; congr 1; omega
    obtain ⟨f, hf⟩ : ∃ f : Nat, f = 2 ^ (bitLen n.toNat - 1) := ⟨_, rfl⟩
    have hfl : floorOf n = (f : Int) := by unfold floorOf; rw [if_neg h1, hf]; norm_cast
    have T6 := floor_fn n hn
    rw [hfl] at T6
    have T7 := log_fn n hn
    unfold inB at hn
    (repeat' (first | refine J_seq ?_ | refine J_skip ?_ | refine J_yes rfl ?_ | refine J_no rfl ?_))
    refine J_region ?_
    refine JL_run [] rfl ?_
    refine JL_callR [] (T6) rfl rfl rfl rfl (by kernel_rfl) trivial (fun _ => rfl) ?_
    rintro v H' ⟨rfl, rfl⟩
    refine ⟨rfl, ?_⟩
    refine JL_all [] rfl ?_
    (repeat' (first | refine J_seq ?_ | refine J_skip ?_ | refine J_yes rfl ?_ | refine J_no rfl ?_))
    refine J_region ?_
    refine JL_run [] rfl ?_
    refine JL_callR [] (T7) rfl rfl rfl rfl (by kernel_rfl) trivial (fun _ => rfl) ?_
    rintro v H' ⟨rfl, rfl⟩
    refine ⟨rfl, ?_⟩
    refine JL_all [] rfl ?_
    (repeat' (first | refine J_seq ?_ | refine J_skip ?_ | refine J_yes rfl ?_ | refine J_no rfl ?_))
    refine J_region ?_
    refine JL_run [] rfl ?_
    have f1 := Nat.two_pow_pos (bitLen n.toNat - 1)
    rw [← hf] at b1 b4 f1
    rw [b4] at b3
    refine JL_set 79 (v' := .bool false) rfl (congrArg Value.bool (cdec_no (by omega))) ?_
    refine JL_run [2] rfl ?_
    refine JL_set 84 (v' := .bool false) rfl (congrArg Value.bool (cdec_no (by omega))) ?_
    refine JL_run [2, 7] rfl ?_
    refine JL_cut 6 [(95, .bool false), (0, .int .i64 n), (9, .int .i64 ((logOf n : Nat) : Int))] [] ?_ ?_
    · by_cases hq : (f : Int) ≤ IntKind.i64.wrap (n.tdiv 2)
      · refine JL_set 89 (v' := .bool true) rfl (congrArg Value.bool (cdec_yes hq)) ?_
        refine JL_all [2, 7, 12] rfl ?_
        refine ⟨[], ⟨?_, rfl, rfl, trivial⟩, by decide, rfl⟩
        refine congrArg some (congrArg Value.bool (cdec_no (fun hx => ?_)))
        rw [Int.tdiv_eq_ediv_of_nonneg (by omega), w64 (by omega)] at hq
        rw [w64 (by omega)] at hx
        omega
      · refine JL_set 89 (v' := .bool false) rfl (congrArg Value.bool (cdec_no hq)) ?_
        refine JL_all [2, 7, 12] rfl ?_
        exact ⟨[], ⟨rfl, rfl, rfl, trivial⟩, by decide, rfl⟩
    refine JL_nil ?_
    obtain ⟨L, hL⟩ : ∃ L : Nat, L = logOf n := ⟨_, rfl⟩
    obtain ⟨g1, g2, g3⟩ := log_spec (n := n) (by omega) (by omega)
    rw [← hL] at g1 g2 g3 ⊢
    (repeat' (first | refine J_seq ?_ | refine J_skip ?_ | refine J_yes rfl ?_ | refine J_no rfl ?_))
    refine J_region ?_
    refine JL_run [] rfl ?_
    by_cases hq : L = 63
    · refine JL_set 98 (v' := .bool true) rfl (congrArg Value.bool (cdec_yes (by omega))) ?_
      have g4 := g2.resolve_left (by omega)
      rw [hq] at g4
      refine JL_run [2] rfl ?_
      refine JL_set 102 (v' := .bool true) rfl (congrArg Value.bool (cdec_yes (by omega))) ?_
      refine JL_all [2, 6, 9, 15, 18] rfl ?_
      exact J_ret ⟨_, rfl, rfl⟩
    · refine JL_set 98 (v' := .bool false) rfl (congrArg Value.bool (cdec_no (by omega))) ?_
      refine JL_run [2, 6] rfl ?_
      refine JL_set 105 (v' := .bool true) rfl (congrArg Value.bool (cdec_yes (by omega))) ?_
      refine JL_run [2, 6, 9] rfl ?_
      have k1 : 2 ^ L ≤ 2 ^ 62 := Nat.pow_le_pow_right (by decide) (by omega)
      refine JL_val [2, 6, 9] (OpV_shl rfl rfl rfl) rfl ?_
      refine JL_set 108 (v' := .int .i64 ((2 ^ L : Nat) : Int)) rfl (congrArg (Value.int .i64) ?_) ?_
      · rw [Int.one_mul, Nat.min_eq_left (by simp [IntKind.bits]; omega), show ((2 : Int) ^ L) = ((2 ^ L : Nat) : Int) by norm_cast]
        exact w64 (by omega)
      refine JL_run [2, 6, 9] rfl ?_
      refine JL_set 111 (v' := .bool true) rfl (congrArg Value.bool (cdec_yes (by omega))) ?_
      refine JL_run [2, 6, 9, 15] rfl ?_
      by_cases hz : L = 0
      · refine JL_set 114 (v' := .bool true) rfl (congrArg Value.bool (cdec_yes (by omega))) ?_
        refine JL_all [2, 6, 9, 15, 18] rfl ?_
        exact J_ret ⟨_, rfl, rfl⟩
      · refine JL_set 114 (v' := .bool false) rfl (congrArg Value.bool (cdec_no (by omega))) ?_
        refine JL_run [2, 6, 9, 15, 18] rfl ?_
        have g4 := g2.resolve_left hz
        refine JL_set 117 (v' := .int .i64 ((L - 1 : Nat) : Int)) rfl (congrArg (Value.int .i64) ((w64 (by omega)).trans (by omega))) ?_
        have k3 := Nat.two_pow_pos (L - 1)
        have k2 : 2 ^ (L - 1) ≤ 2 ^ 62 := Nat.pow_le_pow_right (by decide) (by omega)
        refine JL_val [2, 6, 9, 15, 18] (OpV_shl rfl rfl rfl) rfl ?_
        refine JL_set 118 (v' := .int .i64 ((2 ^ (L - 1) : Nat) : Int)) rfl (congrArg (Value.int .i64) ?_) ?_
        · rw [Int.one_mul, Nat.min_eq_left (by simp [IntKind.bits]; omega), show ((2 : Int) ^ (L - 1)) = ((2 ^ (L - 1) : Nat) : Int) by norm_cast]
          exact w64 (by omega)
        refine JL_run [2, 6, 9, 15, 18] rfl ?_
        refine JL_set 119 (v' := .bool true) rfl (congrArg Value.bool (cdec_yes (by omega))) ?_
        refine JL_all [2, 6, 9, 15, 18] rfl ?_
        exact J_ret ⟨_, rfl, congrArg Value.bool (cdec_yes (by omega))⟩
end Go.Proofs.Ytopcgkbjijdabaa
