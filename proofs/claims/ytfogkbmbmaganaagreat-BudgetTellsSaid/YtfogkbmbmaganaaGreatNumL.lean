
/- Layer 1: what Log and Floor answer, and math/bits.Len64 below them: for every number. -/
import Derived.Test.YtfogkbmbmaganaaGreatQB
set_option linter.unusedVariables false
set_option linter.unusedSimpArgs false
namespace Go.Proofs.YtfogkbmbmaganaaGreat
open Go.RowKit
variable {X : Cx} {Q : Post} {E E' : Env} {H : Heap}

def bitLen (n : Nat) : Nat := if n = 0 then 0 else n.log2 + 1
theorem bitLen_lt (n : Nat) : n < 2 ^ bitLen n := by
  unfold bitLen
  split
  · omega
  · exact Nat.lt_log2_self
theorem bitLen_le {n : Nat} (h : 0 < n) : 2 ^ (bitLen n - 1) ≤ n := by
  unfold bitLen
  rw [if_neg (by omega), Nat.add_sub_cancel]
  exact Nat.log2_self_le (by omega)
theorem bitLen_pos {n : Nat} (h : 0 < n) : 0 < bitLen n := by unfold bitLen; rw [if_neg (by omega)]; omega
theorem bitLen_uniq {n k : Nat} (h1 : 2 ^ k ≤ n) (h2 : n < 2 ^ (k + 1)) : bitLen n = k + 1 := by
  have hn : 0 < n := Nat.lt_of_lt_of_le (Nat.two_pow_pos k) h1
  have h3 := bitLen_lt n
  have h4 := bitLen_le hn
  have h5 := bitLen_pos hn
  have h6 : k < bitLen n := (Nat.pow_lt_pow_iff_right (by decide : 1 < 2)).1 (Nat.lt_of_le_of_lt h1 h3)
  have h7 : bitLen n - 1 < k + 1 := (Nat.pow_lt_pow_iff_right (by decide : 1 < 2)).1 (Nat.lt_of_le_of_lt h4 h2)
  omega
theorem bitLen_shift {n c : Nat} (h : 2 ^ c ≤ n) : bitLen n = c + bitLen (n / 2 ^ c) := by
  have hc := Nat.two_pow_pos c
  have hp : 0 < n / 2 ^ c := Nat.div_pos h hc
  have h1 := bitLen_lt (n / 2 ^ c)
  have h2 := bitLen_le hp
  have h3 := bitLen_pos hp
  have e : bitLen n = (c + (bitLen (n / 2 ^ c) - 1)) + 1 := by
    apply bitLen_uniq
    · rw [Nat.pow_add, Nat.mul_comm]
      exact Nat.le_trans (Nat.mul_le_mul_right _ h2) (Nat.div_mul_le_self n _)
    · rw [show c + (bitLen (n / 2 ^ c) - 1) + 1 = bitLen (n / 2 ^ c) + c by omega, Nat.pow_add]
      exact (Nat.div_lt_iff_lt_mul hc).1 h1
  omega
def lenTab : ByteArray := ⟨((List.range 256).map fun i => UInt8.ofNat (bitLen i)).toArray⟩
theorem lenTab_at {m : Nat} (h : m < 256) : lenTab[m]? = some (UInt8.ofNat (bitLen m)) := by
  have : lenTab.size = 256 := by simp [lenTab, ByteArray.size]
  have hg : lenTab.data[m]? = some (UInt8.ofNat (bitLen m)) := by simp [lenTab, h]
  have hm : m < lenTab.size := by omega
  rw [getElem?_pos lenTab m hm]
  have hm' : m < lenTab.data.size := hm
  rw [Array.getElem?_eq_getElem hm'] at hg
  exact hg
theorem bitLen_small {m : Nat} (h : m < 256) : bitLen m ≤ 8 := by
  rcases Nat.eq_zero_or_pos m with rfl | hp
  · decide
  · have := bitLen_le hp
    have h7 : bitLen m - 1 < 8 := (Nat.pow_lt_pow_iff_right (by decide : 1 < 2)).1 (Nat.lt_of_le_of_lt this h)
    omega
theorem OpV_len8 {o : Oper} {t s1 s2 m : Nat} {x ix : Operand} {s : ByteArray} {k : IntKind} {z : Option Value} (ho : o.op = .index t x ix) (hx : val E x = some (.string s)) (hs : s = lenTab) (hi : val E ix = some (.int k (m : Int)))
    (ht : tab t = some ⟨.string, s1, s2, z⟩) (hm : m < 256) : OpV X o E H (.int .u8 (bitLen m : Nat)) := by
  intro a w hA hH
  have h1 := lenTab_at hm
  have h2 := bitLen_small hm
  subst hs
  have h0 : (0 : Int) ≤ (m : Int) := by omega
  simp [execOp, ho, hA.val hx, hA.val hi, Instr.index, asIntOf, run_underlying (und_string ht), h1]
  omega
theorem u64w {n : Int} (h : 0 ≤ n ∧ n < 18446744073709551616) : IntKind.u64.wrap n = n := by
  simp only [IntKind.wrap, IntKind.bits, IntKind.signed]
  simp
  omega
theorem u8w {n : Int} (h : 0 ≤ n ∧ n < 256) : IntKind.u8.wrap n = n := by
  simp only [IntKind.wrap, IntKind.bits, IntKind.signed]
  simp
  omega
theorem fdiv_nat (n k : Nat) : Int.fdiv (n : Int) (2 ^ k) = ((n / 2 ^ k : Nat) : Int) := by
  rw [Int.fdiv_eq_ediv_of_nonneg _ (by exact_mod_cast Nat.zero_le _)]
  norm_cast
theorem len64_fn (n : Nat) (hn : n < 18446744073709551616) : Fn 64 [.int .u64 n] [] [] fun v H' => v = .int .i64 (bitLen n : Nat) ∧ H' = [] := by
  have st1 : ∃ x a : Nat, (4294967296 ≤ n → x = n / 2 ^ 32 ∧ a = 32) ∧ (¬ 4294967296 ≤ n → x = n ∧ a = 0) := by
    by_cases h : 4294967296 ≤ n
    · exact ⟨_, _, fun _ => ⟨rfl, rfl⟩, fun h' => absurd h h'⟩
    · exact ⟨_, _, fun h' => absurd h' h, fun _ => ⟨rfl, rfl⟩⟩
  obtain ⟨x1, a1, p1, q1⟩ := st1
  have st2 : ∃ x a : Nat, (65536 ≤ x1 → x = x1 / 2 ^ 16 ∧ a = a1 + 16) ∧ (¬ 65536 ≤ x1 → x = x1 ∧ a = a1) := by
    by_cases h : 65536 ≤ x1
    · exact ⟨_, _, fun _ => ⟨rfl, rfl⟩, fun h' => absurd h h'⟩
    · exact ⟨_, _, fun h' => absurd h' h, fun _ => ⟨rfl, rfl⟩⟩
  obtain ⟨x2, a2, p2, q2⟩ := st2
  have st3 : ∃ x a : Nat, (256 ≤ x2 → x = x2 / 2 ^ 8 ∧ a = a2 + 8) ∧ (¬ 256 ≤ x2 → x = x2 ∧ a = a2) := by
    by_cases h : 256 ≤ x2
    · exact ⟨_, _, fun _ => ⟨rfl, rfl⟩, fun h' => absurd h h'⟩
    · exact ⟨_, _, fun h' => absurd h' h, fun _ => ⟨rfl, rfl⟩⟩
  obtain ⟨x3, a3, p3, q3⟩ := st3
  have f1 : x1 < 4294967296 ∧ a1 ≤ 32 ∧ bitLen n = a1 + bitLen x1 := by
    by_cases h : 4294967296 ≤ n
    · obtain ⟨rfl, rfl⟩ := p1 h; exact ⟨by omega, by omega, bitLen_shift (c := 32) h⟩
    · obtain ⟨rfl, rfl⟩ := q1 h; exact ⟨by omega, by omega, by omega⟩
  have f2 : x2 < 65536 ∧ a2 ≤ 48 ∧ bitLen n = a2 + bitLen x2 := by
    by_cases h : 65536 ≤ x1
    · obtain ⟨rfl, rfl⟩ := p2 h; exact ⟨by omega, by omega, by rw [f1.2.2, bitLen_shift (c := 16) h]; omega⟩
    · obtain ⟨rfl, rfl⟩ := q2 h; exact ⟨by omega, by omega, f1.2.2⟩
  have f3 : x3 < 256 ∧ a3 ≤ 56 ∧ bitLen n = a3 + bitLen x3 := by
    by_cases h : 256 ≤ x2
    · obtain ⟨rfl, rfl⟩ := p3 h; exact ⟨by omega, by omega, by rw [f2.2.2, bitLen_shift (c := 8) h]; omega⟩
    · obtain ⟨rfl, rfl⟩ := q3 h; exact ⟨by omega, by omega, f2.2.2⟩
  refine Fn_of Tryz.func64 rfl rfl fun w0 => ?_
  (repeat' (first | refine J_seq ?_ | refine J_skip ?_ | refine J_yes rfl ?_ | refine J_no rfl ?_))
  refine J_region ?_
  refine JL_all [] rfl ?_
  refine J_cut [(0, .int .u64 x1), (2, .int .i64 a1)] [] ?_ ?_
  · (repeat' (first | refine J_seq ?_ | refine J_skip ?_ | refine J_yes rfl ?_ | refine J_no rfl ?_))
    refine J_region ?_
    refine JL_all [] rfl ?_
    refine J_dec rfl (fun h => ?_) (fun h => J_skip ?_)
    · obtain ⟨h1, h2⟩ := p1 (by omega)
      (repeat' (first | refine J_seq ?_ | refine J_skip ?_ | refine J_yes rfl ?_ | refine J_no rfl ?_))
      refine J_region ?_
      refine JL_all [] rfl ?_
      refine J_region (JL_all [] rfl ?_)
      exact ⟨[], ⟨by rw [h1, ← fdiv_nat]; rfl, by rw [h2]; rfl, trivial⟩, by decide, rfl⟩
    · obtain ⟨h1, h2⟩ := q1 (by omega)
      exact ⟨[], ⟨by rw [h1]; rfl, by rw [h2]; rfl, trivial⟩, by decide, rfl⟩
  refine J_cut [(0, .int .u64 x2), (2, .int .i64 a2)] [] ?_ ?_
  · (repeat' (first | refine J_seq ?_ | refine J_skip ?_ | refine J_yes rfl ?_ | refine J_no rfl ?_))
    refine J_region ?_
    refine JL_all [] rfl ?_
    refine J_dec rfl (fun h => ?_) (fun h => J_skip ?_)
    · obtain ⟨h1, h2⟩ := p2 (by omega)
      (repeat' (first | refine J_seq ?_ | refine J_skip ?_ | refine J_yes rfl ?_ | refine J_no rfl ?_))
      refine J_region ?_
      refine JL_all [] rfl ?_
      refine J_region (JL_all [] rfl ?_)
      exact ⟨[], ⟨by rw [h1, ← fdiv_nat]; rfl, by rw [h2, Int.natCast_add, ← w64 (n := (a1 : Int) + ((16 : Nat) : Int)) (by omega)]; rfl, trivial⟩, by decide, rfl⟩
    · obtain ⟨h1, h2⟩ := q2 (by omega)
      exact ⟨[], ⟨by rw [h1]; rfl, by rw [h2]; rfl, trivial⟩, by decide, rfl⟩
  refine J_cut [(0, .int .u64 x3), (2, .int .i64 a3)] [] ?_ ?_
  · (repeat' (first | refine J_seq ?_ | refine J_skip ?_ | refine J_yes rfl ?_ | refine J_no rfl ?_))
    refine J_region ?_
    refine JL_all [] rfl ?_
    refine J_dec rfl (fun h => ?_) (fun h => J_skip ?_)
    · obtain ⟨h1, h2⟩ := p3 (by omega)
      (repeat' (first | refine J_seq ?_ | refine J_skip ?_ | refine J_yes rfl ?_ | refine J_no rfl ?_))
      refine J_region ?_
      refine JL_all [] rfl ?_
      refine J_region (JL_all [] rfl ?_)
      exact ⟨[], ⟨by rw [h1, ← fdiv_nat]; rfl, by rw [h2, Int.natCast_add, ← w64 (n := (a2 : Int) + ((8 : Nat) : Int)) (by omega)]; rfl, trivial⟩, by decide, rfl⟩
    · obtain ⟨h1, h2⟩ := q3 (by omega)
      exact ⟨[], ⟨by rw [h1]; rfl, by rw [h2]; rfl, trivial⟩, by decide, rfl⟩
  (repeat' (first | refine J_seq ?_ | refine J_skip ?_ | refine J_yes rfl ?_ | refine J_no rfl ?_))
  refine J_region ?_
  refine JL_run [] rfl ?_
  refine JL_set 21 (v' := .int .u8 x3) rfl (congrArg (Value.int .u8) (u8w (by omega))) ?_
  refine JL_val [] (OpV_len8 rfl rfl (by kernel_rfl) rfl rfl f3.1) rfl ?_
  refine JL_all [] rfl ?_
  refine J_ret ⟨_, rfl, congrArg (Value.int .i64) ?_, rfl⟩
  have := bitLen_small f3.1
  rw [w64 (n := ((bitLen x3 : Nat) : Int)) (by omega), w64 (by omega)]
  omega
def logOf (n : Int) : Nat := if n < 2 then 0 else bitLen (n - 1).toNat
theorem log_spec {n : Int} (h : 1 ≤ n) (h' : n ≤ 9223372036854775807) : n ≤ ((2 ^ logOf n : Nat) : Int) ∧ (logOf n = 0 ∨ ((2 ^ (logOf n - 1) : Nat) : Int) < n) ∧ logOf n ≤ 63 := by
  unfold logOf
  by_cases h1 : n < 2
  · rw [if_pos h1]; simp; omega
  · rw [if_neg h1]
    have hp : 0 < (n - 1).toNat := by omega
    have b1 := bitLen_le hp
    have b2 := bitLen_pos hp
    have b3 := bitLen_lt (n - 1).toNat
    refine ⟨by omega, Or.inr (by omega), ?_⟩
    refine Nat.le_of_not_lt fun hc => ?_
    have : 2 ^ 63 ≤ 2 ^ (bitLen (n - 1).toNat - 1) := Nat.pow_le_pow_right (by decide) (by omega)
    omega
theorem log_fn (n : Int) (hn : inB n) : Fn 42 [.int .i64 n] [] [] fun v H' => v = .int .i64 (logOf n : Nat) ∧ H' = [] := by
  unfold inB at hn
  refine Fn_of Tryz.func42 rfl rfl fun w0 => ?_
  (repeat' (first | refine J_seq ?_ | refine J_skip ?_ | refine J_yes rfl ?_ | refine J_no rfl ?_))
  refine J_region ?_
  refine JL_all [] rfl ?_
  (repeat' (first | refine J_seq ?_ | refine J_skip ?_ | refine J_yes rfl ?_ | refine J_no rfl ?_))
  (repeat' (first | refine J_seq ?_ | refine J_skip ?_ | refine J_yes rfl ?_ | refine J_no rfl ?_))
  refine J_region ?_
  refine JL_all [] rfl ?_
  refine J_dec rfl (fun h => ?_) (fun h => ?_)
  · (repeat' (first | refine J_seq ?_ | refine J_skip ?_ | refine J_yes rfl ?_ | refine J_no rfl ?_))
    refine J_region ?_
    refine JL_all [] rfl ?_
    exact J_ret ⟨_, rfl, by unfold logOf; rw [if_pos h]; rfl, rfl⟩
  · (repeat' (first | refine J_seq ?_ | refine J_skip ?_ | refine J_yes rfl ?_ | refine J_no rfl ?_))
    refine J_region ?_
    refine JL_run [] rfl ?_
    refine JL_set 7 (v' := .int .u64 ((n - 1).toNat : Nat)) rfl (congrArg (Value.int .u64) ?_) ?_
    · rw [w64 (by omega), u64w (by omega)]; omega
    refine JL_callR [] (len64_fn (n - 1).toNat (by omega)) rfl rfl rfl rfl (by kernel_rfl) trivial (fun _ => rfl) ?_
    rintro v H' ⟨rfl, rfl⟩
    refine ⟨rfl, ?_⟩
    refine JL_all [] rfl ?_
    exact J_ret ⟨_, rfl, by unfold logOf; rw [if_neg h]; rfl, rfl⟩
end Go.Proofs.YtfogkbmbmaganaaGreat
