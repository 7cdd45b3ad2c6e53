/- NumSpread: a product with a sum is the sum of both products while all are in bounds, and the powers of two of a product are at most those of both: every three numbers, no condition. -/
import Derived.Test.YtopcgkbjijdabaaNumL
namespace Go.Proofs.Ytopcgkbjijdabaa
open Go.RowKit
theorem orErr_inB (n : Int) : inB (orErr n).1 := by
  unfold orErr; by_cases h : inB n
  · rw [if_pos h]; exact h
  · rw [if_neg h]; decide
theorem orErr_ok {n : Int} (h : (orErr n).2 = 0) : inB n ∧ (orErr n).1 = n := by
  by_cases h' : inB n
  · exact ⟨h', by rw [orErr_in h']⟩
  · rw [orErr_out h'] at h; exact absurd h (by decide)
theorem pow_le_inv {i j : Nat} (h : 2 ^ i < 2 ^ j) : i < j := by
  refine Nat.lt_of_not_le fun hc => ?_
  have := Nat.pow_le_pow_right (n := 2) (by decide) hc
  omega
theorem log_mul {a b : Int} (ha : inB a) (hb : inB b) (hp : inB (a * b)) (h1 : 1 ≤ a) (h2 : 1 ≤ b) : logOf (a * b) ≤ logOf a + logOf b := by
  have hp1 : 1 ≤ a * b := Int.mul_pos (by omega) (by omega)
  obtain ⟨x1, _, _⟩ := log_spec h1 ha.2
  obtain ⟨y1, _, _⟩ := log_spec h2 hb.2
  obtain ⟨_, z2, _⟩ := log_spec hp1 hp.2
  rcases z2 with z2 | z2
  · omega
  · have h3 : a * b ≤ ((2 ^ logOf a : Nat) : Int) * ((2 ^ logOf b : Nat) : Int) := Int.mul_le_mul x1 y1 (by omega) (by omega)
    have h4 : ((2 ^ (logOf (a * b) - 1) : Nat) : Int) < ((2 ^ (logOf a + logOf b) : Nat) : Int) := by rw [Nat.pow_add, Int.natCast_mul]; omega
    have := pow_le_inv (Int.ofNat_lt.1 h4)
    omega
theorem floor_mono {a b : Int} (h1 : 1 ≤ a) (h : a ≤ b) : floorOf a ≤ floorOf b := by
  unfold floorOf
  rw [if_neg (by omega), if_neg (by omega)]
  have a1 := bitLen_le (n := a.toNat) (by omega)
  have a2 := bitLen_pos (n := a.toNat) (by omega)
  have b2 := bitLen_pos (n := b.toNat) (by omega)
  have b3 := bitLen_lt b.toNat
  have h3 : 2 ^ (bitLen a.toNat - 1) < 2 ^ bitLen b.toNat := by omega
  have h4 := pow_le_inv h3
  have h5 : 2 ^ (bitLen a.toNat - 1) ≤ 2 ^ (bitLen b.toNat - 1) := Nat.pow_le_pow_right (by decide) (by omega)
  have h6 : ((2 ^ (bitLen a.toNat - 1) : Nat) : Int) ≤ ((2 ^ (bitLen b.toNat - 1) : Nat) : Int) := Int.ofNat_le.2 h5
  simpa using h6
theorem spread_fn (a : Int) (ha : inB a) (b : Int) (hb : inB b) (c : Int) (hc : inB c) : Fn 9 [.int .i64 a, .int .i64 b, .int .i64 c] [] [] fun v _ => v = .bool true := by
  have T1 := add_fn hb hc
  have T2 := mul_fn ha (orErr_inB (b + c))
  have T3 := mul_fn ha hb
  have T4 := mul_fn ha hc
  have T5 := add_fn (orErr_inB (a * b)) (orErr_inB (a * c))
  obtain ⟨r1, e1⟩ : ∃ r, r = orErr (b + c) := ⟨_, rfl⟩
  rw [← e1] at T1 T2
  obtain ⟨r2, e2⟩ : ∃ r, r = orErr (a * r1.1) := ⟨_, rfl⟩
  obtain ⟨r3, e3⟩ : ∃ r, r = orErr (a * b) := ⟨_, rfl⟩
  obtain ⟨r4, e4⟩ : ∃ r, r = orErr (a * c) := ⟨_, rfl⟩
  rw [← e2] at T2
  rw [← e3] at T3 T5
  rw [← e4] at T4 T5
  obtain ⟨r5, e5⟩ : ∃ r, r = orErr (r3.1 + r4.1) := ⟨_, rfl⟩
  rw [← e5] at T5
  have key : r1.2 = 0 → r2.2 = 0 → r3.2 = 0 → r4.2 = 0 → r5.2 = 0 ∧ r2.1 = r5.1 := by
    intro k1 k2 k3 k4
    rw [e1] at k1; rw [e2] at k2; rw [e3] at k3; rw [e4] at k4
    have x1 := (orErr_ok k1).2
    rw [← e1] at x1
    rw [x1] at e2 k2
    have x2 := orErr_ok k2
    have x3 := (orErr_ok k3).2
    have x4 := (orErr_ok k4).2
    rw [← e3] at x3; rw [← e4] at x4
    rw [x3, x4, ← Int.mul_add] at e5
    rw [orErr_in x2.1] at e2 e5
    rw [e2, e5]; exact ⟨rfl, rfl⟩
  refine Fn_of Try.func9 rfl rfl fun w0 => ?_
  (repeat' (first | refine J_seq ?_ | refine J_skip ?_ | refine J_yes rfl ?_ | refine J_no rfl ?_))
  refine J_region ?_
  refine JL_all [] rfl ?_
  (repeat' (first | refine J_seq ?_ | refine J_skip ?_ | refine J_yes rfl ?_ | refine J_no rfl ?_))
  refine J_region ?_
  refine JL_callR [] (shown_fn) rfl rfl rfl rfl (by kernel_rfl) trivial (fun _ => rfl) ?_
  rintro v H' ⟨rfl, rfl⟩
  refine ⟨rfl, ?_⟩
  refine JL_all [] rfl ?_
  (repeat' (first | refine J_seq ?_ | refine J_skip ?_ | refine J_yes rfl ?_ | refine J_no rfl ?_))
  refine J_region ?_
  refine JL_all [] rfl ?_
  (repeat' (first | refine J_seq ?_ | refine J_skip ?_ | refine J_yes rfl ?_ | refine J_no rfl ?_))
  refine J_region ?_
  refine JL_run [] rfl ?_
  refine JL_callR [] (T1) rfl rfl rfl rfl (by kernel_rfl) trivial (fun _ => rfl) ?_
  rintro v H' ⟨rfl, rfl⟩
  refine ⟨rfl, ?_⟩
  refine JL_all [] rfl ?_
  (repeat' (first | refine J_seq ?_ | refine J_skip ?_ | refine J_yes rfl ?_ | refine J_no rfl ?_))
  refine J_region ?_
  refine JL_run [] rfl ?_
  refine JL_callR [] (T2) rfl rfl rfl rfl (by kernel_rfl) trivial (fun _ => rfl) ?_
  rintro v H' ⟨rfl, rfl⟩
  refine ⟨rfl, ?_⟩
  refine JL_all [] rfl ?_
  (repeat' (first | refine J_seq ?_ | refine J_skip ?_ | refine J_yes rfl ?_ | refine J_no rfl ?_))
  refine J_region ?_
  refine JL_run [] rfl ?_
  refine JL_callR [] (T3) rfl rfl rfl rfl (by kernel_rfl) trivial (fun _ => rfl) ?_
  rintro v H' ⟨rfl, rfl⟩
  refine ⟨rfl, ?_⟩
  refine JL_all [] rfl ?_
  (repeat' (first | refine J_seq ?_ | refine J_skip ?_ | refine J_yes rfl ?_ | refine J_no rfl ?_))
  refine J_region ?_
  refine JL_run [] rfl ?_
  refine JL_callR [] (T4) rfl rfl rfl rfl (by kernel_rfl) trivial (fun _ => rfl) ?_
  rintro v H' ⟨rfl, rfl⟩
  refine ⟨rfl, ?_⟩
  refine JL_all [] rfl ?_
  (repeat' (first | refine J_seq ?_ | refine J_skip ?_ | refine J_yes rfl ?_ | refine J_no rfl ?_))
  refine J_region ?_
  refine JL_run [] rfl ?_
  refine JL_callR [] (T5) rfl rfl rfl rfl (by kernel_rfl) trivial (fun _ => rfl) ?_
  rintro v H' ⟨rfl, rfl⟩
  refine ⟨rfl, ?_⟩
  refine JL_all [] rfl ?_
  refine J_cut [(0, .int .i64 a), (1, .int .i64 b), (12, .int .i64 r3.1), (13, .int .i64 r3.2)] [] ?_ ?_
  · (repeat' (first
      | refine JL_all [] rfl ?_
      | refine JL_splitd rfl rfl rfl rfl (fun _ => ?_) (fun _ => ?_)
      | refine JL_evO (gs := [999]) rfl ?_
      | refine JL_split rfl rfl rfl rfl (fun _ => ?_) (fun _ => ?_)
      | refine J_seq ?_
      | refine J_region ?_
      | refine J_dec rfl (fun _ => ?_) (fun _ => ?_)
      | refine J_yes rfl ?_
      | refine J_no rfl ?_
      | refine J_cond rfl (fun _ => ?_) (fun _ => ?_)
      | refine J_skip ?_
      | refine J_ret ?_))
    all_goals first
      | exact ⟨[], ⟨rfl, rfl, rfl, rfl, trivial⟩, by decide, rfl⟩
      | (exfalso
         have := key ‹_› ‹_› ‹_› ‹_›
         omega)
  (repeat' (first | refine J_seq ?_ | refine J_skip ?_ | refine J_yes rfl ?_ | refine J_no rfl ?_))
  (repeat' (first | refine J_seq ?_ | refine J_skip ?_ | refine J_yes rfl ?_ | refine J_no rfl ?_))
  refine J_region ?_
  refine JL_run [] rfl ?_
  by_cases h3 : r3.2 = 0
  · have x3 := orErr_ok (e3 ▸ h3)
    rw [← e3] at x3
    rw [x3.2]
    refine JL_set 76 (v' := .bool false) rfl (congrArg Value.bool (cdec_no (by omega))) ?_
    refine JL_run [2] rfl ?_
    by_cases h1 : a < 1
    · refine JL_set 80 (v' := .bool true) rfl (congrArg Value.bool (cdec_yes h1)) ?_
      refine JL_all [2, 6] rfl ?_
      refine J_yes rfl ?_
      (repeat' (first | refine J_seq ?_ | refine J_skip ?_ | refine J_yes rfl ?_ | refine J_no rfl ?_))
      refine J_region ?_
      refine JL_all [] rfl ?_
      exact J_ret ⟨_, rfl, rfl⟩
    refine JL_set 80 (v' := .bool false) rfl (congrArg Value.bool (cdec_no h1)) ?_
    refine JL_run [2, 6] rfl ?_
    by_cases h2 : b < 1
    · refine JL_set 83 (v' := .bool true) rfl (congrArg Value.bool (cdec_yes h2)) ?_
      refine JL_all [2, 6] rfl ?_
      refine J_yes rfl ?_
      (repeat' (first | refine J_seq ?_ | refine J_skip ?_ | refine J_yes rfl ?_ | refine J_no rfl ?_))
      refine J_region ?_
      refine JL_all [] rfl ?_
      exact J_ret ⟨_, rfl, rfl⟩
    refine JL_set 83 (v' := .bool false) rfl (congrArg Value.bool (cdec_no h2)) ?_
    refine JL_all [2, 6] rfl ?_
    have L1 := log_mul ha hb x3.1 (by omega) (by omega)
    have hm : a ≤ a * b := by
      have := Int.mul_le_mul_of_nonneg_left (a := 1) (b := b) (c := a) (by omega) (by omega)
      omega
    have hm' : b ≤ a * b := by
      have := Int.mul_le_mul_of_nonneg_right (a := 1) (b := a) (c := b) (by omega) (by omega)
      omega
    have F1 := floor_mono (by omega) hm
    have F2 := floor_mono (by omega) hm'
    obtain ⟨_, _, z1⟩ := log_spec (n := a) (by omega) ha.2
    obtain ⟨_, _, z2⟩ := log_spec (n := b) (by omega) hb.2
    have V1 := log_fn _ x3.1
    have V2 := log_fn a ha
    have V3 := log_fn b hb
    have V4 := floor_fn _ x3.1
    have V5 := floor_fn a ha
    have V6 := floor_fn b hb
    (repeat' (first | refine J_seq ?_ | refine J_skip ?_ | refine J_yes rfl ?_ | refine J_no rfl ?_))
    refine J_region ?_
    refine JL_run [] rfl ?_
    refine JL_callR [] (V1) rfl rfl rfl rfl (by kernel_rfl) trivial (fun _ => rfl) ?_
    rintro v H' ⟨rfl, rfl⟩
    refine ⟨rfl, ?_⟩
    refine JL_run [] rfl ?_
    refine JL_callR [] (V2) rfl rfl rfl rfl (by kernel_rfl) trivial (fun _ => rfl) ?_
    rintro v H' ⟨rfl, rfl⟩
    refine ⟨rfl, ?_⟩
    refine JL_run [] rfl ?_
    refine JL_callR [] (V3) rfl rfl rfl rfl (by kernel_rfl) trivial (fun _ => rfl) ?_
    rintro v H' ⟨rfl, rfl⟩
    refine ⟨rfl, ?_⟩
    refine JL_run [] rfl ?_
    refine JL_set 92 (v' := .bool true) rfl (congrArg Value.bool (cdec_yes (by rw [w64 (by omega)]; omega))) ?_
    refine JL_run [8] rfl ?_
    refine JL_callR [8] (V4) rfl rfl rfl rfl (by kernel_rfl) trivial (fun _ => rfl) ?_
    rintro v H' ⟨rfl, rfl⟩
    refine ⟨rfl, ?_⟩
    refine JL_run [8] rfl ?_
    refine JL_callR [8] (V5) rfl rfl rfl rfl (by kernel_rfl) trivial (fun _ => rfl) ?_
    rintro v H' ⟨rfl, rfl⟩
    refine ⟨rfl, ?_⟩
    refine JL_run [8] rfl ?_
    refine JL_set 99 (v' := .bool true) rfl (congrArg Value.bool (cdec_yes F1)) ?_
    refine JL_run [8, 15] rfl ?_
    refine JL_callR [8, 15] (V4) rfl rfl rfl rfl (by kernel_rfl) trivial (fun _ => rfl) ?_
    rintro v H' ⟨rfl, rfl⟩
    refine ⟨rfl, ?_⟩
    refine JL_run [8, 15] rfl ?_
    refine JL_callR [8, 15] (V6) rfl rfl rfl rfl (by kernel_rfl) trivial (fun _ => rfl) ?_
    rintro v H' ⟨rfl, rfl⟩
    refine ⟨rfl, ?_⟩
    refine JL_all [8, 15] rfl ?_
    exact J_ret ⟨_, rfl, congrArg Value.bool (cdec_yes F2)⟩
  · refine JL_set 76 (v' := .bool true) rfl (congrArg Value.bool (cdec_yes h3)) ?_
    refine JL_all [2, 6] rfl ?_
    refine J_yes rfl ?_
    (repeat' (first | refine J_seq ?_ | refine J_skip ?_ | refine J_yes rfl ?_ | refine J_no rfl ?_))
    refine J_region ?_
    refine JL_all [] rfl ?_
    exact J_ret ⟨_, rfl, rfl⟩
end Go.Proofs.Ytopcgkbjijdabaa
