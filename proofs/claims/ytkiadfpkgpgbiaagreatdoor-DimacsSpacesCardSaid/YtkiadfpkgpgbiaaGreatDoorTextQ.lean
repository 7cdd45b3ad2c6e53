/- More of lines, words and numbers, in plain words. -/
import Derived.Test.YtkiadfpkgpgbiaaGreatDoorTextP
import Derived.Lib.ItoaNum
set_option linter.unusedVariables false
set_option linter.unusedSimpArgs false
namespace Go.Proofs.YtkiadfpkgpgbiaaGreatDoor
open Go.Lib
/-! ### Digits -/
theorem dd_lt {u : Nat} (h : u < 10) : decDigits u = [UInt8.ofNat (48 + u)] := by rw [decDigits, dif_pos h]
theorem dd_ge {u : Nat} (h : 10 ≤ u) : decDigits u = decDigits (u / 10) ++ [UInt8.ofNat (48 + u % 10)] := by rw [decDigits, dif_neg (by omega)]
theorem dd_ind {P : Nat → Prop} (h1 : ∀ u, u < 10 → P u) (h2 : ∀ u, 10 ≤ u → P (u / 10) → P u) (u : Nat) : P u := by
  induction u using Nat.strongRecOn with
  | _ u ih =>
    by_cases h : u < 10
    · exact h1 u h
    · exact h2 u (by omega) (ih _ (by omega))
theorem decV_app (acc : Nat) (l m : List UInt8) : decV acc (l ++ m) = decV (decV acc l) m := by unfold decV; rw [List.foldl_append]
theorem dig_nat {k : Nat} (h : k < 10) : (UInt8.ofNat (48 + k)).toNat = 48 + k := by
  rw [UInt8.toNat_ofNat']; omega
theorem dd_val (u : Nat) : decV 0 (decDigits u) = u := by
  induction u using dd_ind with
  | h1 u h => rw [dd_lt h]; show 0 * 10 + ((UInt8.ofNat (48 + u)).toNat - 48) = u; rw [dig_nat h]; omega
  | h2 u h ih => rw [dd_ge h, decV_app, ih]; show u / 10 * 10 + ((UInt8.ofNat (48 + u % 10)).toNat - 48) = u; rw [dig_nat (by omega)]; omega
theorem dd_all (u : Nat) : (decDigits u).all digB = true := by
  induction u using dd_ind with
  | h1 u h => rw [dd_lt h]; simp only [List.all_cons, List.all_nil, Bool.and_true]; unfold digB; rw [dig_nat h]; simp; omega
  | h2 u h ih => rw [dd_ge h, List.all_append, ih]; simp only [List.all_cons, List.all_nil, Bool.and_true, Bool.true_and]; unfold digB; rw [dig_nat (by omega)]; simp; omega
theorem dd_ne (u : Nat) : decDigits u ≠ [] := by
  by_cases h : u < 10
  · rw [dd_lt h]; simp
  · rw [dd_ge (by omega)]; simp
theorem dd_head (u : Nat) (hu : 1 ≤ u) : (decDigits u).head? ≠ some 48 := by
  induction u using dd_ind with
  | h1 u h =>
    rw [dd_lt h]
    simp only [List.head?_cons, ne_eq, Option.some.injEq]
    intro e
    have := congrArg UInt8.toNat e
    rw [dig_nat h] at this
    simp at this
    omega
  | h2 u h ih =>
    rw [dd_ge h]
    have := ih (by omega)
    cases hd : decDigits (u / 10) with
    | nil => exact absurd hd (dd_ne _)
    | cons b r => rw [hd] at this; simpa using this
theorem dd_len (u : Nat) : ∀ v, u ≤ v → (decDigits u).length ≤ (decDigits v).length := by
  induction u using dd_ind with
  | h1 u h =>
    intro v _
    rw [dd_lt h]
    have := List.length_pos_iff.2 (dd_ne v)
    simp; omega
  | h2 u h ih =>
    intro v hv
    rw [dd_ge h, dd_ge (u := v) (by omega), List.length_append, List.length_append]
    have := ih (v / 10) (by omega)
    simp; omega
theorem dd_len20 (u : Nat) : ∀ k, u < 10 ^ k → 1 ≤ k → (decDigits u).length ≤ k := by
  induction u using dd_ind with
  | h1 u h => intro k _ hk; rw [dd_lt h]; simpa using hk
  | h2 u h ih =>
    intro k hk h1
    match k, h1 with
    | 1, _ => omega
    | k + 2, _ =>
      rw [dd_ge h, List.length_append]
      have := ih (k + 1) (by rw [Nat.pow_succ] at hk; omega) (by omega)
      simp; omega
theorem itoa_len (n : Int) (h : -9223372036854775808 ≤ n ∧ n ≤ 9223372036854775807) : 1 ≤ (itoa n).length ∧ (itoa n).length ≤ 20 := by
  unfold itoa
  by_cases hn : n < 0
  · rw [if_pos hn]
    have := dd_len20 n.natAbs 19 (by omega) (by omega)
    simp; omega
  · rw [if_neg hn]
    have := dd_len20 n.toNat 19 (by omega) (by omega)
    have := List.length_pos_iff.2 (dd_ne n.toNat)
    omega
theorem num_itoa (n : Int) (h : -9223372036854775808 ≤ n ∧ n ≤ 9223372036854775807) : numL (itoa n) = (n, 0) := by
  unfold itoa
  by_cases hn : n < 0
  · rw [if_pos hn]
    unfold numL
    simp only [List.head?_cons, ↓reduceIte, List.drop_succ_cons, List.drop_zero]
    rw [if_neg (by rw [dd_all]; simp [dd_ne]), dd_val, if_pos (by omega)]
    simp; omega
  · rw [if_neg hn]
    have h45 : ¬ (decDigits n.toNat).head? = some 45 := by
      intro e
      have h1 := dd_all n.toNat
      cases hd : decDigits n.toNat with
      | nil => exact dd_ne _ hd
      | cons b r =>
        rw [hd] at e h1
        simp only [List.head?_cons, Option.some.injEq] at e
        subst e
        rw [List.all_cons, Bool.and_eq_true] at h1
        exact absurd h1.1 (by decide)
    unfold numL
    simp only
    rw [if_neg h45, if_neg h45, if_neg (by rw [dd_all]; simp [dd_ne]), dd_val, if_pos (by omega)]
    simp; omega
theorem itoa_inj {a b : Int} (ha : -9223372036854775808 ≤ a ∧ a ≤ 9223372036854775807) (hb : -9223372036854775808 ≤ b ∧ b ≤ 9223372036854775807) (h : itoa a = itoa b) : a = b := by
  have h1 := num_itoa a ha
  rw [h, num_itoa b hb] at h1
  exact (Prod.mk.inj h1).1.symm
/-! ### Lines -/
theorem splitGo_len (c : UInt8) : ∀ (l cur : List UInt8), (splitGo c cur l).length = l.count c + 1
  | [], cur => rfl
  | b :: l, cur => by
    unfold splitGo
    by_cases h : b = c
    · rw [if_pos h, List.length_cons, splitGo_len c l [], h, List.count_cons_self]
    · rw [if_neg h, splitGo_len c l _, List.count_cons_of_ne (fun e => h e)]
theorem splitGo_join (c : UInt8) : ∀ (l cur : List UInt8), ((splitGo c cur l).map (· ++ [c])).flatten = cur ++ l ++ [c]
  | [], cur => by simp [splitGo]
  | b :: l, cur => by
    unfold splitGo
    by_cases h : b = c
    · rw [if_pos h, List.map_cons, List.flatten_cons, splitGo_join c l [], h]; simp
    · rw [if_neg h, splitGo_join c l _]; simp
theorem splitGo_app (c : UInt8) : ∀ (l cur r : List UInt8), splitGo c cur (l ++ c :: r) = splitGo c cur l ++ splitGo c [] r
  | [], cur, r => by simp [splitGo]
  | b :: l, cur, r => by
    rw [List.cons_append]
    have e1 : splitGo c cur (b :: (l ++ c :: r)) = if b = c then cur :: splitGo c [] (l ++ c :: r) else splitGo c (cur ++ [b]) (l ++ c :: r) := rfl
    have e2 : splitGo c cur (b :: l) = if b = c then cur :: splitGo c [] l else splitGo c (cur ++ [b]) l := rfl
    rw [e1, e2]
    by_cases h : b = c
    · rw [if_pos h, if_pos h, splitGo_app c l [] r]; rfl
    · rw [if_neg h, if_neg h, splitGo_app c l _ r]
theorem trimS_end (c : UInt8) (m : List UInt8) : trimSuffix (m ++ [c]) [c] = m := by
  unfold trimSuffix hasSuffix
  have : ([c] : List UInt8).isSuffixOf (m ++ [c]) = true := List.isSuffixOf_iff_suffix.2 ⟨m, rfl⟩
  rw [if_pos this]
  simp
theorem trimS_not {c : UInt8} {l : List UInt8} (h : l.getLast? ≠ some c) : trimSuffix l [c] = l := by
  unfold trimSuffix hasSuffix
  rw [if_neg]
  intro e
  obtain ⟨m, rfl⟩ := List.isSuffixOf_iff_suffix.1 e
  exact h (by simp)
theorem lines_end (m : List UInt8) : linesL (m ++ [10]) = splitGo 10 [] m := by
  unfold linesL
  rw [if_neg (by simp), trimS_end]
theorem lines_not {l : List UInt8} (hne : l ≠ []) (h : l.getLast? ≠ some 10) : linesL l = splitGo 10 [] l := by
  unfold linesL
  rw [if_neg hne, trimS_not h]
theorem last_split (l : List UInt8) (c : UInt8) : l = [] ∨ (∃ m, l = m ++ [c]) ∨ (l ≠ [] ∧ l.getLast? ≠ some c) := by
  by_cases h : l = []
  · exact .inl h
  · by_cases h2 : l.getLast? = some c
    · exact .inr (.inl ⟨_, (List.getLast?_eq_some_iff.1 h2).choose_spec⟩)
    · exact .inr (.inr ⟨h, h2⟩)
theorem lines_app (s t : List UInt8) : linesL (s ++ 10 :: t) = linesL (s ++ [10]) ++ linesL t := by
  rw [lines_end]
  rcases last_split t 10 with rfl | ⟨m, rfl⟩ | ⟨h1, h2⟩
  · rw [lines_end]; simp [linesL]
  · rw [lines_end, show s ++ 10 :: (m ++ [10]) = (s ++ 10 :: m) ++ [10] by simp, lines_end, splitGo_app]
  · have hl : (s ++ 10 :: t).getLast? = t.getLast? := by
      rw [show s ++ 10 :: t = (s ++ [10]) ++ t by simp, List.getLast?_append]
      cases ht : t.getLast? with
      | none => exact absurd (List.getLast?_eq_none_iff.1 ht) h1
      | some x => rfl
    rw [lines_not h1 h2, lines_not (by simp) (by rw [hl]; exact h2), splitGo_app]
theorem lines_len (l : List UInt8) : (linesL l).length = l.count 10 + (if l ≠ [] ∧ l.getLast? ≠ some 10 then 1 else 0) := by
  rcases last_split l 10 with rfl | ⟨m, rfl⟩ | ⟨h1, h2⟩
  · rfl
  · rw [lines_end, splitGo_len, if_neg (by simp), List.count_append]; simp
  · rw [lines_not h1 h2, splitGo_len, if_pos ⟨h1, h2⟩]
theorem lines_join (l : List UInt8) : ((linesL l).map (· ++ [10])).flatten = l ∨ ((linesL l).map (· ++ [10])).flatten = l ++ [10] := by
  rcases last_split l 10 with rfl | ⟨m, rfl⟩ | ⟨h1, h2⟩
  · exact .inl rfl
  · rw [lines_end, splitGo_join]; exact .inl rfl
  · rw [lines_not h1 h2, splitGo_join]; exact .inr rfl
/-! ### Words -/
theorem wordsGo_app {b : UInt8} (hb : sepB b = true) : ∀ (s cur t : List UInt8), wordsGo cur (s ++ b :: t) = wordsGo cur s ++ wordsGo [] t
  | [], cur, t => by
    rw [List.nil_append, wordsGo, wordsGo, if_pos hb]
    by_cases h : cur = []
    · rw [if_pos h, if_pos h]; rfl
    · rw [if_neg h, if_neg h]; rfl
  | x :: s, cur, t => by
    rw [List.cons_append, wordsGo, wordsGo]
    by_cases hx : sepB x = true
    · rw [if_pos hx, if_pos hx, wordsGo_app hb s [] t]
      by_cases h : cur = []
      · rw [if_pos h, if_pos h]
      · rw [if_neg h, if_neg h]; rfl
    · rw [if_neg hx, if_neg hx, wordsGo_app hb s _ t]
theorem words_app {b : UInt8} (hb : sepB b = true) (s t : List UInt8) : wordsL (s ++ b :: t) = wordsL s ++ wordsL t := wordsGo_app hb s [] t
theorem words_sep {b : UInt8} (hb : sepB b = true) (t : List UInt8) : wordsL (b :: t) = wordsL t := by
  have := words_app hb [] t
  simpa [wordsL, wordsGo] using this
theorem words_span : ∀ l : List UInt8, ∃ t r, l = t ++ r ∧ (∀ b ∈ t, sepB b = false) ∧ ∀ b r', r = b :: r' → sepB b = true
  | [] => ⟨[], [], rfl, fun b hb => absurd hb List.not_mem_nil, fun b r' h => by cases h⟩
  | x :: l => by
    cases hx : sepB x with
    | true => exact ⟨[], x :: l, rfl, fun b hb => absurd hb List.not_mem_nil, fun b r' h => by obtain ⟨rfl, _⟩ := List.cons.inj h; exact hx⟩
    | false =>
      obtain ⟨t, r, e, h1, h2⟩ := words_span l
      exact ⟨x :: t, r, by rw [e]; rfl, fun b hb => (List.mem_cons.1 hb).elim (fun h => h ▸ hx) (h1 b), h2⟩
/-- A word, and what begins with a blank or is nothing. -/
theorem words_next (l : List UInt8) (h : ∀ b r, l = b :: r → sepB b = false) (hne : l ≠ []) : ∃ t r, l = t ++ r ∧ t ≠ [] ∧ (∀ b ∈ t, sepB b = false) ∧ (∀ b r', r = b :: r' → sepB b = true) ∧ wordsL l = t :: wordsL r := by
  obtain ⟨t, r, e, h1, h2⟩ := words_span l
  have ht : t ≠ [] := by
    rintro rfl
    rw [List.nil_append] at e
    subst e
    cases l with
    | nil => exact hne rfl
    | cons b r => have := h b r rfl; rw [h2 b r rfl] at this; cases this
  refine ⟨t, r, e, ht, h1, h2, ?_⟩
  rw [e]
  unfold wordsL
  rw [wordsGo_skip t [] r h1, List.nil_append]
  cases r with
  | nil => rw [wordsGo, if_neg ht]; rfl
  | cons b r => rw [wordsGo, if_pos (h2 b r rfl), if_neg ht, wordsGo, if_pos (h2 b r rfl), if_pos rfl]
/-! ### Numbers that are none -/
theorem num_bad {l : List UInt8} {b : UInt8} (hb : b ∈ l.drop 1) (hd : digB b = false) : numL l = (0, 2) := by
  unfold numL
  simp only
  rw [if_pos]
  refine .inr fun h => ?_
  have hm : b ∈ (if l.head? = some 45 then l.drop 1 else l) := by
    split
    · exact hb
    · exact List.mem_of_mem_drop hb
  rw [List.all_eq_true.1 h b hm] at hd
  cases hd
theorem num_bad0 {b : UInt8} {r : List UInt8} (hb : digB b = false) (h45 : b ≠ 45) : numL (b :: r) = (0, 2) := by
  unfold numL
  simp only [List.head?_cons, Option.some.injEq, h45, if_false]
  rw [if_pos]
  refine .inr fun h => ?_
  rw [List.all_cons, hb] at h
  cases h
end Go.Proofs.YtkiadfpkgpgbiaaGreatDoor
