/- The document's answers to layer 1, those that turn round, and its product. -/
import Derived.Test.YtopcgkbjijdabaaNumR
import Derived.Test.YtopcgkbjijdabaaNumS
namespace Go.Proofs.Ytopcgkbjijdabaa
open Go.RowKit
theorem orErr_two (n : Int) : (inB n ∧ orErr n = (n, 0)) ∨ (¬ inB n ∧ orErr n = (0, 3)) := by
  by_cases h : inB n
  · exact .inl ⟨h, orErr_in h⟩
  · exact .inr ⟨h, orErr_out h⟩
theorem rsum_fn (A : Option Addr) (c b o : Nat) (l : List Int) (hA : l ≠ [] → A = some ⟨b, o, none⟩) (hl : ∀ x ∈ l, inB x) (hs : l.length ≤ 9223372036854775807) :
    Fn 26 [.slice A l.length c] [] [.seg b o (ints l)] fun v H' => v = two (sumL 0 l) ∧ H' = [] := by
  refine Fn_of Try.func26 rfl rfl fun w0 => ?_
  (repeat' (first | refine J_seq ?_ | refine J_skip ?_ | refine J_yes rfl ?_ | refine J_no rfl ?_))
  refine J_region ?_
  refine JL_all [] rfl ?_
  (repeat' (first | refine J_seq ?_ | refine J_skip ?_ | refine J_yes rfl ?_ | refine J_no rfl ?_))
  refine J_region ?_
  refine JL_all [] rfl ?_
  (repeat' (first | refine J_seq ?_ | refine J_skip ?_ | refine J_yes rfl ?_ | refine J_no rfl ?_))
  refine J_region ?_
  refine JL_all [] rfl ?_
  refine J_block ?_
  refine J_loop (σ := Nat × Int) (fun s => [(5, .int .i64 s.1), (4, .int .i64 s.2), (0, .slice A l.length c), (2, .int .i64 0), (3, .int .i64 0)]) (fun _ => [.seg b o (ints l)]) (fun s => s.1 ≤ l.length ∧ inB s.2 ∧ sumL 0 l = sumL s.2 (l.drop s.1)) (fun s => l.length - s.1)
    (0, 0) [0] ⟨rfl, rfl, rfl, rfl, rfl, trivial⟩ (by decide) rfl ⟨Nat.zero_le _, by decide, rfl⟩ ?_
  rintro ⟨k, n⟩ ⟨hk, hn, hsum⟩
  simp only at hk hn hsum ⊢
  (repeat' (first | refine J_seq ?_ | refine J_skip ?_ | refine J_yes rfl ?_ | refine J_no rfl ?_))
  refine J_region ?_
  refine JL_all [] rfl ?_
  refine J_dec rfl (fun hlt => J_skip ?_) (fun hge => J_exit ?_)
  · have hlt : k < l.length := by omega
    obtain rfl := hA (by rintro rfl; simp at hlt)
    obtain ⟨x, hx⟩ : ∃ x, l[k]? = some x := ⟨l[k], List.getElem?_eq_getElem hlt⟩
    have hxB := hl x (List.mem_of_getElem? hx)
    have hd : l.drop k = x :: l.drop (k + 1) := by
      obtain ⟨_, rfl⟩ := List.getElem?_eq_some_iff.1 hx
      rw [List.drop_eq_getElem_cons hlt]
    refine J_seq (J_block ?_)
    (repeat' (first | refine J_seq ?_ | refine J_skip ?_ | refine J_yes rfl ?_ | refine J_no rfl ?_))
    refine J_region ?_
    refine JL_run [] rfl ?_
    refine JL_val [] (idx1 rfl rfl rfl rfl rfl hlt) rfl ?_
    refine JL_val [] (ldseg 0 rfl rfl rfl rfl (readT_int hx)) rfl ?_
    refine JL_callR [] (radd_fn hn hxB) rfl rfl rfl rfl (by kernel_rfl) trivial (fun _ => rfl) ?_
    rintro v H' ⟨rfl, rfl⟩
    refine ⟨rfl, ?_⟩
    refine JL_all [] rfl ?_
    rcases orErr_two (n + x) with ⟨hi, e⟩ | ⟨hi, e⟩
    · rw [e]
      (repeat' (first | refine J_seq ?_ | refine J_skip ?_ | refine J_yes rfl ?_ | refine J_no rfl ?_))
      refine J_region ?_
      refine JL_all [] rfl ?_
      refine J_dec rfl (fun h => absurd rfl h) (fun _ => J_skip ?_)
      (repeat' (first | refine J_seq ?_ | refine J_skip ?_ | refine J_yes rfl ?_ | refine J_no rfl ?_))
      refine J_region ?_
      refine JL_all [] rfl ?_
      (repeat' (first | refine J_seq ?_ | refine J_skip ?_ | refine J_yes rfl ?_ | refine J_no rfl ?_))
      refine J_region ?_
      refine JL_all [] rfl ?_
      refine ⟨(k + 1, n + x), [0], ⟨?_, rfl, rfl, rfl, rfl, trivial⟩, by decide, rfl, ⟨by simp only; omega, hi, ?_⟩, by simp only; omega⟩
      · show some (Value.int .i64 (IntKind.i64.wrap ((k : Int) + 1))) = _
        rw [w64 (by omega)]; rfl
      · simp only; rw [hsum, hd, sumL, if_pos hi]
    · rw [e]
      (repeat' (first | refine J_seq ?_ | refine J_skip ?_ | refine J_yes rfl ?_ | refine J_no rfl ?_))
      refine J_region ?_
      refine JL_all [] rfl ?_
      refine J_dec rfl (fun _ => ?_) (fun h => absurd (show ((0 : Int), (3 : Int)).2 ≠ 0 by simp) h)
      (repeat' (first | refine J_seq ?_ | refine J_skip ?_ | refine J_yes rfl ?_ | refine J_no rfl ?_))
      refine J_region ?_
      refine JL_all [] rfl ?_
      refine J_drop [] (by decide) rfl ?_
      refine J_ret ?_
      exact ⟨_, rfl, by rw [hsum, hd, sumL, if_neg hi]; rfl, rfl⟩
  · have hk' : k = l.length := by omega
    subst hk'
    rw [List.drop_length, sumL] at hsum
    (repeat' (first | refine J_seq ?_ | refine J_skip ?_ | refine J_yes rfl ?_ | refine J_no rfl ?_))
    refine J_region ?_
    refine JL_all [] rfl ?_
    refine J_drop [] (by decide) rfl ?_
    refine J_ret ?_
    exact ⟨_, rfl, by rw [hsum]; rfl, rfl⟩
theorem pow_lt_inv {i j : Nat} (h : 2 ^ i < 2 ^ j) : i < j := by
  refine Nat.lt_of_not_le fun hc => ?_
  have := Nat.pow_le_pow_right (n := 2) (by decide) hc
  omega
theorem log_spec' {n : Int} (h' : n ≤ 9223372036854775807) : n ≤ ((2 ^ logOf n : Nat) : Int) ∧ (logOf n = 0 ∨ ((2 ^ (logOf n - 1) : Nat) : Int) < n) ∧ logOf n ≤ 63 := by
  by_cases h : 1 ≤ n
  · exact log_spec h h'
  · unfold logOf; rw [if_pos (by omega)]; simp; omega
theorem rlog_fn (n : Int) (hn : inB n) : Fn 27 [.int .i64 n] [] [] fun v H' => v = .int .i64 (logOf n : Nat) ∧ H' = [] := by
  obtain ⟨g1, g2, g3⟩ := log_spec' hn.2
  obtain ⟨L, hL⟩ : ∃ L : Nat, L = logOf n := ⟨_, rfl⟩
  rw [← hL] at g1 g2 g3 ⊢
  refine Fn_of Try.func27 rfl rfl fun w0 => ?_
  (repeat' (first | refine J_seq ?_ | refine J_skip ?_ | refine J_yes rfl ?_ | refine J_no rfl ?_))
  refine J_region ?_
  refine JL_all [] rfl ?_
  (repeat' (first | refine J_seq ?_ | refine J_skip ?_ | refine J_yes rfl ?_ | refine J_no rfl ?_))
  refine J_region ?_
  refine JL_all [] rfl ?_
  (repeat' (first | refine J_seq ?_ | refine J_skip ?_ | refine J_yes rfl ?_ | refine J_no rfl ?_))
  refine J_block ?_
  refine J_loop (σ := Nat) (fun k => [(3, .int .i64 k), (0, .int .i64 n), (2, .int .i64 0)]) (fun _ => []) (fun k => k ≤ L) (fun k => L - k) 0 [] ⟨rfl, rfl, rfl, trivial⟩ (by decide) rfl (Nat.zero_le _) ?_
  intro k hk
  by_cases h63 : k < 63
  · have hP : 2 ^ k ≤ 2 ^ 62 := Nat.pow_le_pow_right (by decide) (by omega)
    have hP1 := Nat.two_pow_pos k
    (repeat' (first | refine J_seq ?_ | refine J_skip ?_ | refine J_yes rfl ?_ | refine J_no rfl ?_))
    refine J_region ?_
    refine JL_run [] rfl ?_
    refine JL_set 6 (v' := .bool true) rfl (congrArg Value.bool (cdec_yes (by omega))) ?_
    refine JL_run [2] rfl ?_
    refine JL_val [2] (OpV_shl rfl rfl rfl) rfl ?_
    refine JL_set 9 (v' := .int .i64 ((2 ^ k : Nat) : Int)) rfl (congrArg (Value.int .i64) ?_) ?_
    · rw [Int.one_mul, Nat.min_eq_left (by simp [IntKind.bits]; omega), show ((2 : Int) ^ k) = ((2 ^ k : Nat) : Int) by norm_cast]
      exact w64 (by omega)
    refine JL_all [2] rfl ?_
    refine J_dec rfl (fun h => J_skip ?_) (fun h => J_exit ?_)
    · have hkL : k < L := pow_lt_inv (by omega)
      refine J_block ?_
      (repeat' (first | refine J_seq ?_ | refine J_skip ?_ | refine J_yes rfl ?_ | refine J_no rfl ?_))
      refine J_region ?_
      refine JL_all [] rfl ?_
      refine ⟨k + 1, [], ⟨?_, rfl, rfl, trivial⟩, by decide, rfl, hkL, by omega⟩
      show some (Value.int .i64 (IntKind.i64.wrap ((k : Int) + 1))) = _
      rw [w64 (by omega)]; rfl
    · have hkL : L ≤ k := by
        rcases g2 with g2 | g2
        · omega
        · have := pow_lt_inv (i := L - 1) (j := k) (by omega)
          omega
      obtain rfl : k = L := Nat.le_antisymm hk hkL
      (repeat' (first | refine J_seq ?_ | refine J_skip ?_ | refine J_yes rfl ?_ | refine J_no rfl ?_))
      refine J_region ?_
      refine JL_all [] rfl ?_
      exact J_ret ⟨_, rfl, rfl, rfl⟩
  · (repeat' (first | refine J_seq ?_ | refine J_skip ?_ | refine J_yes rfl ?_ | refine J_no rfl ?_))
    refine J_region ?_
    refine JL_run [] rfl ?_
    refine JL_set 6 (v' := .bool false) rfl (congrArg Value.bool (cdec_no (by omega))) ?_
    refine JL_all [2] rfl ?_
    refine J_no rfl (J_exit ?_)
    obtain rfl : k = L := by omega
    (repeat' (first | refine J_seq ?_ | refine J_skip ?_ | refine J_yes rfl ?_ | refine J_no rfl ?_))
    refine J_region ?_
    refine JL_all [] rfl ?_
    exact J_ret ⟨_, rfl, rfl, rfl⟩
theorem rfloor_fn (n : Int) (hn : inB n) : Fn 28 [.int .i64 n] [] [] fun v H' => v = .int .i64 (floorOf n) ∧ H' = [] := by
  unfold inB at hn
  refine Fn_of Try.func28 rfl rfl fun w0 => ?_
  (repeat' (first | refine J_seq ?_ | refine J_skip ?_ | refine J_yes rfl ?_ | refine J_no rfl ?_))
  refine J_region ?_
  refine JL_all [] rfl ?_
  (repeat' (first | refine J_seq ?_ | refine J_skip ?_ | refine J_yes rfl ?_ | refine J_no rfl ?_))
  refine J_region ?_
  refine JL_all [] rfl ?_
  refine J_dec rfl (fun h => ?_) (fun h => J_skip ?_)
  · (repeat' (first | refine J_seq ?_ | refine J_skip ?_ | refine J_yes rfl ?_ | refine J_no rfl ?_))
    refine J_region ?_
    refine JL_all [] rfl ?_
    exact J_ret ⟨_, rfl, by unfold floorOf; rw [if_pos h]; rfl, rfl⟩
  have hp : 0 < n.toNat := by omega
  have h1 := bitLen_le hp
  have h2 := bitLen_pos hp
  have h3 := bitLen_lt n.toNat
  have hB : bitLen n.toNat - 1 < 63 := (Nat.pow_lt_pow_iff_right (by decide : 1 < 2)).1 (Nat.lt_of_le_of_lt h1 (by omega))
  have h4 : 2 ^ bitLen n.toNat = 2 * 2 ^ (bitLen n.toNat - 1) := by rw [← Nat.pow_succ']; congr 1; omega
  have hfl : floorOf n = ((2 ^ (bitLen n.toNat - 1) : Nat) : Int) := by unfold floorOf; rw [if_neg h]; norm_cast
  rw [hfl]
  obtain ⟨L, hL⟩ : ∃ L : Nat, L = bitLen n.toNat - 1 := ⟨_, rfl⟩
  rw [← hL] at h1 h4 hB ⊢
  rw [h4] at h3
  (repeat' (first | refine J_seq ?_ | refine J_skip ?_ | refine J_yes rfl ?_ | refine J_no rfl ?_))
  refine J_region ?_
  refine JL_all [] rfl ?_
  (repeat' (first | refine J_seq ?_ | refine J_skip ?_ | refine J_yes rfl ?_ | refine J_no rfl ?_))
  refine J_block ?_
  refine J_loop (σ := Nat) (fun k => [(3, .int .i64 ((2 ^ k : Nat) : Int)), (0, .int .i64 n), (2, .int .i64 0)]) (fun _ => []) (fun k => k ≤ L) (fun k => L - k) 0 [] ⟨rfl, rfl, rfl, trivial⟩ (by decide) rfl (Nat.zero_le _) ?_
  intro k hk
  have hP : 2 ^ k ≤ 2 ^ L := Nat.pow_le_pow_right (by decide) hk
  have hP1 := Nat.two_pow_pos k
  have hq : IntKind.i64.wrap (n.tdiv 2) = n / 2 := by rw [Int.tdiv_eq_ediv_of_nonneg (by omega), w64 (by omega)]
  (repeat' (first | refine J_seq ?_ | refine J_skip ?_ | refine J_yes rfl ?_ | refine J_no rfl ?_))
  refine J_region ?_
  refine JL_run [] rfl ?_
  refine JL_set 8 (v' := .int .i64 (n / 2)) rfl (congrArg (Value.int .i64) hq) ?_
  refine JL_all [] rfl ?_
  refine J_dec rfl (fun h => J_skip ?_) (fun h => J_exit ?_)
  · have hs : 2 ^ (k + 1) = 2 * 2 ^ k := Nat.pow_succ'
    have hL1 : 2 ^ (L + 1) = 2 * 2 ^ L := Nat.pow_succ'
    have hkL : k < L := by have := pow_lt_inv (i := k + 1) (j := L + 1) (by omega); omega
    refine J_block ?_
    (repeat' (first | refine J_seq ?_ | refine J_skip ?_ | refine J_yes rfl ?_ | refine J_no rfl ?_))
    refine J_region ?_
    refine JL_all [] rfl ?_
    refine ⟨k + 1, [], ⟨?_, rfl, rfl, trivial⟩, by decide, rfl, hkL, by omega⟩
    show some (Value.int .i64 (IntKind.i64.wrap (((2 ^ k : Nat) : Int) * 2))) = some (Value.int .i64 ((2 ^ (k + 1) : Nat) : Int))
    rw [w64 (by omega), hs]
    congr 2
    omega
  · have hs : 2 ^ (k + 1) = 2 * 2 ^ k := Nat.pow_succ'
    have hkL : L ≤ k := by have := pow_lt_inv (i := L) (j := k + 1) (by omega); omega
    obtain rfl : k = L := Nat.le_antisymm hk hkL
    (repeat' (first | refine J_seq ?_ | refine J_skip ?_ | refine J_yes rfl ?_ | refine J_no rfl ?_))
    refine J_region ?_
    refine JL_all [] rfl ?_
    exact J_ret ⟨_, rfl, rfl, rfl⟩
theorem le_quo {x y M : Int} (hy : 0 < y) (hM : 0 ≤ M) : x ≤ M.tdiv y ↔ x * y ≤ M := by
  rw [Int.tdiv_eq_ediv_of_nonneg hM, Int.le_ediv_iff_mul_le hy]
theorem top_prod {x y M : Int} (hx : 0 < x) (hM : 0 ≤ M) : (y = M.tdiv x + 1 ∧ M.tmod x = x - 1) ↔ x * y = M + 1 := by
  rw [Int.tdiv_eq_ediv_of_nonneg hM, Int.tmod_eq_emod_of_nonneg hM]
  have h1 := Int.mul_ediv_add_emod M x
  have h2 := Int.emod_nonneg M (by omega : x ≠ 0)
  have h3 := Int.emod_lt_of_pos M hx
  constructor
  · rintro ⟨rfl, h⟩
    rw [Int.mul_add, Int.mul_one]
    omega
  · intro h
    have e : M = x * (y - 1) + (x - 1) := by rw [Int.mul_sub, Int.mul_one]; omega
    have q : M / x = y - 1 := by
      rw [e, Int.mul_add_ediv_left _ _ (by omega : x ≠ 0), Int.ediv_eq_zero_of_lt (by omega) (by omega)]
      omega
    rw [q] at h1
    refine ⟨by omega, ?_⟩
    rw [Int.mul_sub, Int.mul_one] at h1
    omega
theorem quo_in {M y : Int} (hy : 0 < y) (hM : 0 ≤ M) : 0 ≤ M.tdiv y ∧ M.tdiv y ≤ M := by
  rw [Int.tdiv_eq_ediv_of_nonneg hM]
  exact ⟨Int.ediv_nonneg hM (by omega), Int.ediv_le_self _ hM⟩
theorem rmul_fn {a b : Int} (ha : inB a) (hb : inB b) : Fn 25 [.int .i64 a, .int .i64 b] [] [] fun v H' => v = two (orErr (a * b)) ∧ H' = [] := by
  have one0 : orErr 0 = (0, 0) := orErr_in (by decide)
  refine Fn_of Try.func25 rfl rfl fun w0 => ?_
  (repeat' (first | refine J_seq ?_ | refine J_skip ?_ | refine J_yes rfl ?_ | refine J_no rfl ?_))
  refine J_region ?_
  refine JL_all [] rfl ?_
  (repeat' (first | refine J_seq ?_ | refine J_skip ?_ | refine J_yes rfl ?_ | refine J_no rfl ?_))
  refine J_region ?_
  refine JL_run [] rfl ?_
  by_cases a0 : a = 0
  · refine JL_set 12 (v' := .bool true) rfl (congrArg Value.bool (cdec_yes a0)) ?_
    refine JL_all [2] rfl ?_
    refine J_yes rfl ?_
    (repeat' (first | refine J_seq ?_ | refine J_skip ?_ | refine J_yes rfl ?_ | refine J_no rfl ?_))
    refine J_region ?_
    refine JL_all [] rfl ?_
    exact J_ret ⟨_, rfl, by rw [a0, Int.zero_mul, one0]; rfl, rfl⟩
  refine JL_set 12 (v' := .bool false) rfl (congrArg Value.bool (cdec_no a0)) ?_
  refine JL_all [2] rfl ?_
  refine J_dec rfl (fun b0 => ?_) (fun b0 => J_skip ?_)
  · (repeat' (first | refine J_seq ?_ | refine J_skip ?_ | refine J_yes rfl ?_ | refine J_no rfl ?_))
    refine J_region ?_
    refine JL_all [] rfl ?_
    exact J_ret ⟨_, rfl, by rw [b0, Int.mul_zero, one0]; rfl, rfl⟩
  (repeat' (first | refine J_seq ?_ | refine J_skip ?_ | refine J_yes rfl ?_ | refine J_no rfl ?_))
  refine J_region ?_
  refine JL_all [] rfl ?_
  refine J_dec rfl (fun a1 => ?_) (fun a1 => J_skip ?_)
  · (repeat' (first | refine J_seq ?_ | refine J_skip ?_ | refine J_yes rfl ?_ | refine J_no rfl ?_))
    refine J_region ?_
    refine JL_all [] rfl ?_
    exact J_ret ⟨_, rfl, by rw [a1, Int.one_mul, orErr_in hb]; rfl, rfl⟩
  (repeat' (first | refine J_seq ?_ | refine J_skip ?_ | refine J_yes rfl ?_ | refine J_no rfl ?_))
  refine J_region ?_
  refine JL_all [] rfl ?_
  refine J_dec rfl (fun b1 => ?_) (fun b1 => J_skip ?_)
  · (repeat' (first | refine J_seq ?_ | refine J_skip ?_ | refine J_yes rfl ?_ | refine J_no rfl ?_))
    refine J_region ?_
    refine JL_all [] rfl ?_
    exact J_ret ⟨_, rfl, by rw [b1, Int.mul_one, orErr_in ha]; rfl, rfl⟩
  obtain ⟨x, hx⟩ : ∃ x, x = if a < 0 then -a else a := ⟨_, rfl⟩
  obtain ⟨y, hy⟩ : ∃ y, y = if b < 0 then -b else b := ⟨_, rfl⟩
  have hx1 : 2 ≤ x ∨ x = 1 ∧ a = -1 := by split at hx <;> omega
  have hy1 : 2 ≤ y ∨ y = 1 ∧ b = -1 := by split at hy <;> omega
  have hxy : 1 ≤ x * y := Int.mul_pos (by omega) (by omega)
  have eab : a * b = if (a < 0 ↔ b < 0) then x * y else - (x * y) := by
    rw [hx, hy]
    by_cases h1 : a < 0 <;> by_cases h2 : b < 0 <;> simp [h1, h2, Int.neg_mul, Int.mul_neg]
  unfold inB at ha hb
  (repeat' (first | refine J_seq ?_ | refine J_skip ?_ | refine J_yes rfl ?_ | refine J_no rfl ?_))
  refine J_region ?_
  refine JL_run [] rfl ?_
  by_cases aM : a = -9223372036854775808
  · have hbig : ¬ inB (a * b) := by
      subst aM; unfold inB; omega
    refine JL_set 24 (v' := .bool true) rfl (congrArg Value.bool (cdec_yes aM)) ?_
    refine JL_all [2] rfl ?_
    refine J_yes rfl ?_
    (repeat' (first | refine J_seq ?_ | refine J_skip ?_ | refine J_yes rfl ?_ | refine J_no rfl ?_))
    refine J_region ?_
    refine JL_all [] rfl ?_
    exact J_ret ⟨_, rfl, by rw [orErr_out hbig]; rfl, rfl⟩
  refine JL_set 24 (v' := .bool false) rfl (congrArg Value.bool (cdec_no aM)) ?_
  refine JL_all [2] rfl ?_
  refine J_dec rfl (fun bM => ?_) (fun bM => J_skip ?_)
  · have hbig : ¬ inB (a * b) := by
      subst bM; unfold inB; omega
    (repeat' (first | refine J_seq ?_ | refine J_skip ?_ | refine J_yes rfl ?_ | refine J_no rfl ?_))
    refine J_region ?_
    refine JL_all [] rfl ?_
    exact J_ret ⟨_, rfl, by rw [orErr_out hbig]; rfl, rfl⟩
  (repeat' (first | refine J_seq ?_ | refine J_skip ?_ | refine J_yes rfl ?_ | refine J_no rfl ?_))
  refine J_region ?_
  refine JL_all [] rfl ?_
  (repeat' (first | refine J_seq ?_ | refine J_skip ?_ | refine J_yes rfl ?_ | refine J_no rfl ?_))
  refine J_region ?_
  refine JL_all [] rfl ?_
  refine J_cut [(6, .int .i64 x), (7, .int .i64 b), (0, .int .i64 a), (1, .int .i64 b)] [] ?_ ?_
  · (repeat' (first | refine J_seq ?_ | refine J_skip ?_ | refine J_yes rfl ?_ | refine J_no rfl ?_))
    refine J_region ?_
    refine JL_all [] rfl ?_
    refine J_dec rfl (fun h => ?_) (fun h => J_skip ?_)
    · rw [if_pos h] at hx
      refine J_region (JL_all [] rfl ?_)
      refine ⟨[], ⟨?_, rfl, rfl, rfl, trivial⟩, by decide, rfl⟩
      show some (Value.int .i64 (IntKind.i64.wrap (0 - a))) = _
      rw [w64 (by omega), hx, Int.zero_sub]
    · rw [if_neg h] at hx
      exact ⟨[], ⟨by rw [hx]; rfl, rfl, rfl, rfl, trivial⟩, by decide, rfl⟩
  refine J_cut [(6, .int .i64 x), (7, .int .i64 y), (0, .int .i64 a), (1, .int .i64 b)] [] ?_ ?_
  · (repeat' (first | refine J_seq ?_ | refine J_skip ?_ | refine J_yes rfl ?_ | refine J_no rfl ?_))
    refine J_region ?_
    refine JL_all [] rfl ?_
    refine J_dec rfl (fun h => ?_) (fun h => J_skip ?_)
    · rw [if_pos h] at hy
      refine J_region (JL_all [] rfl ?_)
      refine ⟨[], ⟨rfl, ?_, rfl, rfl, trivial⟩, by decide, rfl⟩
      show some (Value.int .i64 (IntKind.i64.wrap (0 - b))) = _
      rw [w64 (by omega), hy, Int.zero_sub]
    · rw [if_neg h] at hy
      exact ⟨[], ⟨rfl, by rw [hy]; rfl, rfl, rfl, trivial⟩, by decide, rfl⟩
  have hxM : x ≤ 9223372036854775807 := by split at hx <;> omega
  have hyM : y ≤ 9223372036854775807 := by split at hy <;> omega
  have lq := le_quo (x := x) (y := y) (M := 9223372036854775807) (by omega) (by omega)
  have tp := top_prod (x := x) (y := y) (M := 9223372036854775807) (by omega) (by omega)
  have q1 := quo_in (M := 9223372036854775807) (y := y) (by omega) (by omega)
  have q2 := quo_in (M := 9223372036854775807) (y := x) (by omega) (by omega)
  (repeat' (first | refine J_seq ?_ | refine J_skip ?_ | refine J_yes rfl ?_ | refine J_no rfl ?_))
  refine J_region ?_
  refine JL_run [] rfl ?_
  by_cases hm : (a < 0 ↔ b < 0)
  · rw [if_pos hm] at eab
    refine JL_set 8 (v' := .bool false) rfl (congrArg Value.bool ?_) ?_
    · rw [cdec_iff hm]; simp
    refine JL_all [] rfl ?_
    (repeat' (first | refine J_seq ?_ | refine J_skip ?_ | refine J_yes rfl ?_ | refine J_no rfl ?_))
    refine J_region ?_
    refine JL_all [] rfl ?_
    (repeat' (first | refine J_seq ?_ | refine J_skip ?_ | refine J_yes rfl ?_ | refine J_no rfl ?_))
    refine J_region ?_
    refine JL_all [] rfl ?_
    refine J_no rfl (J_skip ?_)
    (repeat' (first | refine J_seq ?_ | refine J_skip ?_ | refine J_yes rfl ?_ | refine J_no rfl ?_))
    refine J_region ?_
    refine JL_run [] rfl ?_
    refine JL_val [] (OpV_quo rfl rfl rfl (by omega)) rfl ?_
    refine JL_set 70 rfl (congrArg (Value.int .i64) (w64 (by omega))) ?_
    refine JL_all [] rfl ?_
    refine J_dec rfl (fun h => ?_) (fun h => J_skip ?_)
    · have hbig : ¬ inB (a * b) := by unfold inB; omega
      (repeat' (first | refine J_seq ?_ | refine J_skip ?_ | refine J_yes rfl ?_ | refine J_no rfl ?_))
      refine J_region ?_
      refine JL_all [] rfl ?_
      exact J_ret ⟨_, rfl, by rw [orErr_out hbig]; rfl, rfl⟩
    · have hin : inB (a * b) := by unfold inB; omega
      (repeat' (first | refine J_seq ?_ | refine J_skip ?_ | refine J_yes rfl ?_ | refine J_no rfl ?_))
      refine J_region ?_
      refine JL_all [] rfl ?_
      refine J_ret ⟨_, rfl, ?_, rfl⟩
      rw [orErr_in hin, eab]
      show Value.tuple #[.int .i64 (IntKind.i64.wrap (x * y)), .int .i64 0] = _
      rw [w64 (by omega)]
      rfl
  · rw [if_neg hm] at eab
    refine JL_set 8 (v' := .bool true) rfl (congrArg Value.bool ?_) ?_
    · by_cases h1 : a < 0 <;> by_cases h2 : b < 0 <;> simp [h1, h2, cdec_yes, cdec_no] at hm ⊢
    refine JL_all [] rfl ?_
    (repeat' (first | refine J_seq ?_ | refine J_skip ?_ | refine J_yes rfl ?_ | refine J_no rfl ?_))
    refine J_region ?_
    refine JL_all [] rfl ?_
    (repeat' (first | refine J_seq ?_ | refine J_skip ?_ | refine J_yes rfl ?_ | refine J_no rfl ?_))
    refine J_region ?_
    refine JL_all [] rfl ?_
    refine J_yes rfl ?_
    (repeat' (first | refine J_seq ?_ | refine J_skip ?_ | refine J_yes rfl ?_ | refine J_no rfl ?_))
    refine J_region ?_
    refine JL_run [] rfl ?_
    refine JL_val [] (OpV_quo rfl rfl rfl (by omega)) rfl ?_
    refine JL_set 47 rfl (congrArg (Value.int .i64) (w64 (by omega))) ?_
    refine JL_all [] rfl ?_
    refine J_dec rfl (fun h => ?_) (fun h => J_skip ?_)
    · have hin : inB (a * b) := by unfold inB; omega
      (repeat' (first | refine J_seq ?_ | refine J_skip ?_ | refine J_yes rfl ?_ | refine J_no rfl ?_))
      refine J_region ?_
      refine JL_all [] rfl ?_
      refine J_ret ⟨_, rfl, ?_, rfl⟩
      rw [orErr_in hin, eab]
      show Value.tuple #[.int .i64 (IntKind.i64.wrap (0 - IntKind.i64.wrap (x * y))), .int .i64 0] = _
      rw [w64 (n := x * y) (by omega), w64 (by omega), Int.zero_sub]
      rfl
    (repeat' (first | refine J_seq ?_ | refine J_skip ?_ | refine J_yes rfl ?_ | refine J_no rfl ?_))
    refine J_region ?_
    refine JL_run [] rfl ?_
    refine JL_val [] (OpV_quo rfl rfl rfl (by omega)) rfl ?_
    refine JL_set 56 rfl (congrArg (Value.int .i64) (w64 (by omega))) ?_
    refine JL_run [] rfl ?_
    have hov : ¬ x * y ≤ 9223372036854775807 := fun hc => h (lq.2 hc)
    have hx2 : 2 ≤ x := by
      rcases hx1 with h1 | ⟨h1, _⟩
      · exact h1
      · rw [h1, Int.one_mul] at hov; omega
    have q3 : 2 * Int.tdiv 9223372036854775807 x ≤ 9223372036854775807 := by
      have e1 : x * Int.tdiv 9223372036854775807 x ≤ 9223372036854775807 := by rw [Int.tdiv_eq_ediv_of_nonneg (by omega)]; exact Int.mul_ediv_self_le (by omega)
      have e2 := Int.mul_le_mul_of_nonneg_right hx2 q2.1
      omega
    have hnot : ¬ (y = Int.tdiv 9223372036854775807 x + 1 ∧ Int.tmod 9223372036854775807 x = x - 1) → ¬ inB (a * b) := by
      intro h3 h4
      have : ¬ x * y = 9223372036854775807 + 1 := fun h5 => h3 (tp.2 h5)
      unfold inB at h4
      omega
    by_cases e1 : y = Int.tdiv 9223372036854775807 x + 1
    · refine JL_set 59 (v' := .bool true) rfl (congrArg Value.bool (cdec_yes (by rw [w64 (by omega)]; exact e1))) ?_
      refine JL_run [6] rfl ?_
      refine JL_val [6] (OpV_rem rfl rfl rfl (by omega)) rfl ?_
      refine JL_run [6] rfl ?_
      refine JL_set 64 rfl (congrArg (Value.int .i64) (w64 (by omega))) ?_
      refine JL_nil ?_
      refine J_dec rfl (fun h6 => ?_) (fun h6 => J_skip ?_)
      · rw [w64 (by omega)] at h6
        have e3 := tp.1 ⟨e1, h6⟩
        have hin : inB (a * b) := by unfold inB; omega
        (repeat' (first | refine J_seq ?_ | refine J_skip ?_ | refine J_yes rfl ?_ | refine J_no rfl ?_))
        refine J_region ?_
        refine JL_all [] rfl ?_
        refine J_ret ⟨_, rfl, ?_, rfl⟩
        rw [orErr_in hin, eab, e3]
        rfl
      · rw [w64 (by omega)] at h6
        (repeat' (first | refine J_seq ?_ | refine J_skip ?_ | refine J_yes rfl ?_ | refine J_no rfl ?_))
        refine J_region ?_
        refine JL_all [] rfl ?_
        exact J_ret ⟨_, rfl, by rw [orErr_out (hnot fun h7 => h6 h7.2)]; rfl, rfl⟩
    · refine JL_set 59 (v' := .bool false) rfl (congrArg Value.bool (cdec_no (by rw [w64 (by omega)]; exact e1))) ?_
      refine JL_all [6] rfl ?_
      refine J_no rfl (J_skip ?_)
      (repeat' (first | refine J_seq ?_ | refine J_skip ?_ | refine J_yes rfl ?_ | refine J_no rfl ?_))
      refine J_region ?_
      refine JL_all [] rfl ?_
      exact J_ret ⟨_, rfl, by rw [orErr_out (hnot fun h7 => e1 h7.1)]; rfl, rfl⟩
end Go.Proofs.Ytopcgkbjijdabaa
