
/- A text of one arc that stands many times: what it says. -/
import Derived.Test.YtkiadfpkgpgbiaaGreatDoorDimaG
set_option linter.unusedVariables false
set_option linter.unusedSimpArgs false
namespace Go.Proofs.YtkiadfpkgpgbiaaGreatDoor
open Lib
def headL (k : Int) : List UInt8 := [112, 32, 109, 97, 120, 32, 50, 32] ++ itoa k ++ [10, 110, 32, 50, 32, 115, 10, 110, 32, 49, 32, 116, 10]
def arcL (c : Int) : List UInt8 := [97, 32, 49, 32, 50, 32] ++ itoa c ++ [10]
def sumsT (k c : Int) (i : Nat) : List UInt8 := headL k ++ (List.replicate i (arcL c)).flatten
theorem itoa_pos {n : Int} (h : 0 ≤ n) : itoa n = decDigits n.toNat := by
  unfold itoa; rw [if_neg (by omega)]
theorem dig_not {b : UInt8} (h : digB b = true) : b ≠ 10 ∧ sepB b = false := by
  unfold digB at h
  have h' := of_decide_eq_true h
  refine ⟨fun e => ?_, ?_⟩
  · subst e; simp at h'
  · unfold sepB
    have h1 : b.toNat ≠ 32 := by omega
    have h2 : b.toNat ≠ 9 := by omega
    have h3 : b.toNat ≠ 13 := by omega
    simp [h1, h2, h3]
theorem itoa_all {n : Int} (h : 0 ≤ n) : ∀ b ∈ itoa n, b ≠ 10 ∧ sepB b = false := by
  intro b hb
  rw [itoa_pos h] at hb
  exact dig_not (List.all_eq_true.1 (dd_all _) b hb)
theorem itoa_ne {n : Int} (h : 0 ≤ n) : itoa n ≠ [] := by rw [itoa_pos h]; exact dd_ne _
theorem lines_one {m : List UInt8} (h : ∀ b ∈ m, b ≠ 10) (t : List UInt8) : linesL (m ++ 10 :: t) = m :: linesL t := by
  rw [lines_app, lines_end, splitGo_none 10 m [] h]; rfl
theorem words_one {m : List UInt8} (h : ∀ b ∈ m, sepB b = false) (hne : m ≠ []) : wordsL m = [m] := by
  unfold wordsL
  have := wordsGo_skip m [] [] h
  rw [List.append_nil] at this
  rw [this]
  simp [wordsGo, hne]
theorem words_p {k : Int} (h : 0 ≤ k) : wordsL ([112, 32, 109, 97, 120, 32, 50, 32] ++ itoa k) = [[112], [109, 97, 120], [50], itoa k] := by
  rw [show ([112, 32, 109, 97, 120, 32, 50, 32] : List UInt8) ++ itoa k = [112, 32, 109, 97, 120, 32, 50] ++ 32 :: itoa k from rfl, words_app rfl, words_one (fun b hb => (itoa_all h b hb).2) (itoa_ne h)]
  rfl
theorem words_a {c : Int} (h : 0 ≤ c) : wordsL ([97, 32, 49, 32, 50, 32] ++ itoa c) = [[97], [49], [50], itoa c] := by
  rw [show ([97, 32, 49, 32, 50, 32] : List UInt8) ++ itoa c = [97, 32, 49, 32, 50] ++ 32 :: itoa c from rfl, words_app rfl, words_one (fun b hb => (itoa_all h b hb).2) (itoa_ne h)]
  rfl
theorem lines_arcs {c : Int} (h : 0 ≤ c) : ∀ i, linesL (List.replicate i (arcL c)).flatten = List.replicate i ([97, 32, 49, 32, 50, 32] ++ itoa c)
  | 0 => rfl
  | i + 1 => by
    rw [List.replicate_succ, List.flatten_cons, List.replicate_succ, ← lines_arcs h i]
    have : arcL c ++ (List.replicate i (arcL c)).flatten = ([97, 32, 49, 32, 50, 32] ++ itoa c) ++ 10 :: (List.replicate i (arcL c)).flatten := by simp [arcL]
    rw [this, lines_one (fun b hb => ?_)]
    have h0 : ∀ b ∈ ([97, 32, 49, 32, 50, 32] : List UInt8), b ≠ 10 := by decide
    rcases List.mem_append.1 hb with hb | hb
    · exact h0 b hb
    · exact (itoa_all h b hb).1
theorem lines_sums {k c : Int} (hk : 0 ≤ k) (h : 0 ≤ c) (i : Nat) : linesL (sumsT k c i) = ([112, 32, 109, 97, 120, 32, 50, 32] ++ itoa k) :: [110, 32, 50, 32, 115] :: [110, 32, 49, 32, 116] :: List.replicate i ([97, 32, 49, 32, 50, 32] ++ itoa c) := by
  have : sumsT k c i = ([112, 32, 109, 97, 120, 32, 50, 32] ++ itoa k) ++ 10 :: ([110, 32, 50, 32, 115] ++ 10 :: ([110, 32, 49, 32, 116] ++ 10 :: (List.replicate i (arcL c)).flatten)) := by simp [sumsT, headL]
  rw [this, lines_one (fun b hb => ?_), lines_one (by decide), lines_one (by decide), lines_arcs h]
  have h0 : ∀ b ∈ ([112, 32, 109, 97, 120, 32, 50, 32] : List UInt8), b ≠ 10 := by decide
  rcases List.mem_append.1 hb with hb | hb
  · exact h0 b hb
  · exact (itoa_all hk b hb).1
def rdS (k c : Int) (j : Nat) : Rd := ⟨2, 2, 1, List.replicate j ⟨1, 2, c⟩, k, j * c⟩
theorem numL2 : numL [50] = (2, 0) := by decide
theorem numL1 : numL [49] = (1, 0) := by decide
theorem Rd.line_p (r : Rd) (w : Ws) : r.line ([112] :: w) = r.problem ([112] :: w) := by simp [Rd.line]
theorem Rd.line_n (r : Rd) (w : Ws) : r.line ([110] :: w) = r.end_ ([110] :: w) := by simp [Rd.line]
theorem Rd.line_a (r : Rd) (w : Ws) : r.line ([97] :: w) = r.arc ([97] :: w) := by simp [Rd.line]
theorem readL_cons (r : Rd) (i : Nat) (x : List UInt8) (ls : List (List UInt8)) : readL r i (x :: ls) = if (r.line (wordsL x)).2 ≠ 0 then (r, i + 1, (r.line (wordsL x)).2) else readL (r.line (wordsL x)).1 (i + 1) ls := rfl
theorem line_p {k : Int} (h : 0 ≤ k ∧ k ≤ 2000) : rd0.line (wordsL ([112, 32, 109, 97, 120, 32, 50, 32] ++ itoa k)) = (⟨2, 0, 0, [], k, 0⟩, 0) := by
  rw [words_p h.1]
  have hn : numsL [[50], itoa k] = ([2, k], 0) := by
    unfold numsL; unfold numsL; unfold numsL
    rw [num_itoa k (by omega), numL2]; rfl
  rw [Rd.line_p]
  unfold Rd.problem
  rw [if_neg (by simp [rd0]), show List.drop 2 [[112], [109, 97, 120], [50], itoa k] = [[50], itoa k] from rfl, hn]
  rw [if_neg (by simp), if_neg (by simp; omega)]
  rfl
theorem line_s (k : Int) (hk : k ≠ -1) : Rd.line ⟨2, 0, 0, [], k, 0⟩ (wordsL [110, 32, 50, 32, 115]) = (⟨2, 2, 0, [], k, 0⟩, 0) := by
  rw [show wordsL [110, 32, 50, 32, 115] = [[110], [50], [115]] from rfl]
  have hn : numsL [[50]] = ([2], 0) := by
    unfold numsL; unfold numsL
    rw [numL2]; rfl
  rw [Rd.line_n]
  unfold Rd.end_
  simp [hk, hn]
theorem line_t (k : Int) (hk : k ≠ -1) : Rd.line ⟨2, 2, 0, [], k, 0⟩ (wordsL [110, 32, 49, 32, 116]) = (⟨2, 2, 1, [], k, 0⟩, 0) := by
  rw [show wordsL [110, 32, 49, 32, 116] = [[110], [49], [116]] from rfl]
  have hn : numsL [[49]] = ([1], 0) := by
    unfold numsL; unfold numsL
    rw [numL1]; rfl
  rw [Rd.line_n]
  unfold Rd.end_
  simp [hk, hn]
theorem line_a {k c : Int} (hc : 0 ≤ c ∧ c ≤ 4611686018427387903) {j : Nat} (hj : (j : Int) < k) : (rdS k c j).line (wordsL ([97, 32, 49, 32, 50, 32] ++ itoa c)) = if 4611686018427387903 < j * c + c then (rdS k c j, 7) else (rdS k c (j + 1), 0) := by
  rw [words_a hc.1]
  have hn : numsL [[49], [50], itoa c] = ([1, 2, c], 0) := by
    unfold numsL; unfold numsL; unfold numsL; unfold numsL
    rw [num_itoa c (by omega), numL2, numL1]; rfl
  rw [Rd.line_a]
  unfold Rd.arc
  rw [if_neg (by simp [rdS]), show List.drop 1 [[97], [49], [50], itoa c] = [[49], [50], itoa c] from rfl, hn]
  rw [if_neg (by simp), if_neg (by simp [rdS]), if_neg (by simp; omega), if_neg (by simp [rdS]; omega)]
  show (if 4611686018427387903 < (j : Int) * c + c then _ else _) = _
  split
  · rfl
  · refine Prod.ext ?_ rfl
    unfold rdS
    have e : (List.replicate j (Arc.mk 1 2 c)) ++ [⟨1, 2, c⟩] = List.replicate (j + 1) ⟨1, 2, c⟩ := by rw [List.replicate_succ']
    have e2 : (j : Int) * c + c = ((j + 1 : Nat) : Int) * c := by rw [Int.natCast_add, Int.add_mul]; simp
    show Rd.mk 2 2 1 (List.replicate j (Arc.mk 1 2 c) ++ [⟨1, 2, c⟩]) k ((j : Int) * c + c) = _
    rw [e, e2]
/-- The arc at which the sum is too great. -/
def TooQ (c : Int) (q : Nat) : Prop := q * c ≤ 4611686018427387903 ∧ 4611686018427387903 < q * c + c
theorem read_a {k c : Int} (hc : 0 ≤ c ∧ c ≤ 4611686018427387903) : ∀ (m j : Nat), (j : Int) + m ≤ k → j * c ≤ 4611686018427387903 →
    (((j + m : Nat) : Int) * c ≤ 4611686018427387903 ∧ readL (rdS k c j) (3 + j) (List.replicate m ([97, 32, 49, 32, 50, 32] ++ itoa c)) = (rdS k c (j + m), 0, 0)) ∨
      ∃ q, j ≤ q ∧ q < j + m ∧ TooQ c q ∧ readL (rdS k c j) (3 + j) (List.replicate m ([97, 32, 49, 32, 50, 32] ++ itoa c)) = (rdS k c q, 4 + q, 7)
  | 0, j, hj, hs => .inl ⟨hs, rfl⟩
  | m + 1, j, hj, hs => by
    have hl := line_a (k := k) hc (j := j) (by omega)
    rw [List.replicate_succ, readL_cons]
    by_cases hx : 4611686018427387903 < (j : Int) * c + c
    · rw [if_pos hx] at hl
      rw [hl, if_pos (by simp)]
      exact .inr ⟨j, Nat.le_refl _, by omega, ⟨hs, hx⟩, by rw [show 3 + j + 1 = 4 + j by omega]⟩
    · rw [if_neg hx] at hl
      rw [hl, if_neg (by simp)]
      have e2 : (j : Int) * c + c = ((j + 1 : Nat) : Int) * c := by rw [Int.natCast_add, Int.add_mul]; simp
      have ih := read_a (k := k) hc m (j + 1) (by omega) (by rw [← e2]; omega)
      rw [show 3 + (j + 1) = 3 + j + 1 by omega] at ih
      rcases ih with ⟨h1, h2⟩ | ⟨q, h1, h2, h3, h4⟩
      · exact .inl ⟨by rw [show j + (m + 1) = j + 1 + m by omega]; exact h1, by rw [h2, show j + (m + 1) = j + 1 + m by omega]⟩
      · exact .inr ⟨q, by omega, by omega, h3, h4⟩
theorem parse_sums {k : Nat} {c : Int} (hk : 1 ≤ k ∧ k ≤ 2000) (hc : 1 ≤ c ∧ c ≤ 4611686018427387903) :
    ((k : Int) * c ≤ 4611686018427387903 ∧ parseL (sumsT k c k) = (⟨2, 2, 1, List.replicate k ⟨1, 2, c⟩⟩, 0, 0)) ∨ ∃ q, q < k ∧ TooQ c q ∧ parseL (sumsT k c k) = (net0, 4 + q, 7) := by
  have hrd : readL rd0 0 (linesL (sumsT k c k)) = readL (rdS k c 0) (3 + 0) (List.replicate k ([97, 32, 49, 32, 50, 32] ++ itoa c)) := by
    rw [lines_sums (by omega) (by omega)]
    rw [readL_cons, line_p (by omega), if_neg (by simp), readL_cons, line_s _ (by omega), if_neg (by simp), readL_cons, line_t _ (by omega), if_neg (by simp)]
    simp [rdS]
  rcases read_a (k := k) (c := c) (by omega) k 0 (by omega) (by simp) with ⟨h1, h2⟩ | ⟨q, _, h2, h3, h4⟩
  · rw [Nat.zero_add] at h1 h2
    refine .inl ⟨h1, ?_⟩
    unfold parseL
    rw [hrd, h2, if_neg (by simp), if_neg (by simp [rdS] <;> omega), if_neg (by simp [rdS])]
    rfl
  · refine .inr ⟨q, by omega, h3, ?_⟩
    unfold parseL
    rw [hrd, h4, if_pos (by simp)]
end Go.Proofs.YtkiadfpkgpgbiaaGreatDoor
