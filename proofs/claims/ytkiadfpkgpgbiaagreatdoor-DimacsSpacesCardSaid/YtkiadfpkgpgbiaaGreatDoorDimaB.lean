
/- A network's text with remarks, blanks and empty lines; and where a text is wrong. -/
import Derived.Test.YtkiadfpkgpgbiaaGreatDoorDimaZ
set_option linter.unusedVariables false
set_option linter.unusedSimpArgs false
namespace Go.Proofs.YtkiadfpkgpgbiaaGreatDoor
open Lib
def allL (note : List UInt8) (ls : List (List UInt8)) : List UInt8 := ([99, 32] ++ note ++ [10]) ++ (ls.map fun x => [32] ++ x ++ [9, 10, 10, 99, 32] ++ note ++ [10]).flatten
theorem lines_more {note : List UInt8} (hn : ∀ b ∈ note, b ≠ 10) : ∀ (ls : List (List UInt8)), (∀ x ∈ ls, ∀ b ∈ x, b ≠ 10) → linesL ((ls.map fun x => [32] ++ x ++ [9, 10, 10, 99, 32] ++ note ++ [10]).flatten) = (ls.map fun x => [[32] ++ x ++ [9], [], [99, 32] ++ note]).flatten
  | [], _ => rfl
  | x :: ls, h => by
    have h0 : ∀ b ∈ ([99, 32] : List UInt8), b ≠ 10 := by decide
    have e : (List.map (fun x => [32] ++ x ++ [9, 10, 10, 99, 32] ++ note ++ [10]) (x :: ls)).flatten = ([32] ++ x ++ [9]) ++ 10 :: ([] ++ 10 :: (([99, 32] ++ note) ++ 10 :: (ls.map fun x => [32] ++ x ++ [9, 10, 10, 99, 32] ++ note ++ [10]).flatten)) := by simp
    rw [e, lines_one (fun b hb => ?_), lines_one (fun b hb => absurd hb List.not_mem_nil), lines_one (fun b hb => ?_), lines_more hn ls fun y hy => h y (by simp [hy])]
    · rfl
    · rcases List.mem_append.1 hb with hb | hb
      · exact h0 b hb
      · exact hn b hb
    · simp only [List.mem_append, List.mem_singleton] at hb
      rcases hb with (rfl | hb) | rfl
      · decide
      · exact h x (by simp) b hb
      · decide
theorem words_pad (x : List UInt8) : wordsL ([32] ++ x ++ [9]) = wordsL x := by
  rw [List.append_assoc]
  show wordsL (32 :: (x ++ 9 :: [])) = _
  rw [words_sep rfl, words_app rfl]
  show wordsL x ++ [] = _
  rw [List.append_nil]
theorem words_note (note : List UInt8) : hushB (wordsL ([99, 32] ++ note)) = true := by
  show hushB (wordsL ([99] ++ 32 :: note)) = true
  rw [words_app rfl]
  rfl
theorem loud_all {note : List UInt8} (hn : ∀ b ∈ note, b ≠ 10) (ls : List (List UInt8)) (h : ∀ x ∈ ls, ∀ b ∈ x, b ≠ 10) : ((linesL (allL note ls)).map wordsL).filter (fun w => !hushB w) = (ls.map wordsL).filter fun w => !hushB w := by
  have h0 : ∀ b ∈ ([99, 32] : List UInt8), b ≠ 10 := by decide
  have e : allL note ls = ([99, 32] ++ note) ++ 10 :: (ls.map fun x => [32] ++ x ++ [9, 10, 10, 99, 32] ++ note ++ [10]).flatten := by simp [allL]
  rw [e, lines_one (fun b hb => ?_), lines_more hn ls h, List.map_cons, List.filter_cons_of_neg (by rw [words_note]; simp)]
  · clear e h
    induction ls with
    | nil => rfl
    | cons x ls ih =>
      have hA : ∀ a c e : Ws, hushB c = true → hushB e = true → List.filter (fun w => !hushB w) [a, c, e] = List.filter (fun w => !hushB w) [a] := by
        intro a c e hc he
        cases ha : hushB a <;> simp [ha, hc, he]
      have h1 := hA (wordsL ([32] ++ x ++ [9])) (wordsL []) (wordsL ([99, 32] ++ note)) rfl (words_note note)
      rw [words_pad] at h1
      have e2 : List.map wordsL ((List.map (fun x => [[32] ++ x ++ [9], [], [99, 32] ++ note]) (x :: ls)).flatten) = [wordsL ([32] ++ x ++ [9]), wordsL [], wordsL ([99, 32] ++ note)] ++ List.map wordsL ((List.map (fun x => [[32] ++ x ++ [9], [], [99, 32] ++ note]) ls).flatten) := rfl
      rw [e2, List.filter_append, ih, words_pad, h1, show List.map wordsL (x :: ls) = [wordsL x] ++ List.map wordsL ls from rfl, List.filter_append]
  · rcases List.mem_append.1 hb with hb | hb
    · exact h0 b hb
    · exact hn b hb
theorem parse_all {N : Net} (hR : N.Right) {note : List UInt8} (hn : ∀ b ∈ note, b ≠ 10) : parseL (allL note (netT N)) = (N, 0, 0) := by
  refine parse_net hR ?_
  rw [loud_all hn _ (netT_not hR), loud_net (netW_print hR)]
  exact netW_print hR
theorem readL_err : ∀ (ls : List (List UInt8)) (r : Rd) (i : Nat), (readL r i ls).2.2 ≠ 0 → i + 1 ≤ (readL r i ls).2.1 ∧ (readL r i ls).2.1 ≤ i + ls.length
  | [], r, i, h => absurd rfl h
  | x :: ls, r, i, h => by
    rw [readL_cons] at h ⊢
    rw [List.length_cons]
    split
    · simp only; omega
    · rename_i h1
      rw [if_neg h1] at h
      have := readL_err ls _ _ h
      omega
theorem parse_err {s : List UInt8} (h : (parseL s).2.2 ≠ 0) : (parseL s).1 = net0 ∧ 1 ≤ (parseL s).2.1 ∧ (parseL s).2.1 ≤ (linesL s).length + 1 := by
  unfold parseL at h ⊢
  split
  · rename_i h1
    have := readL_err _ _ _ h1
    exact ⟨rfl, by simp only; omega, by simp only; omega⟩
  · rename_i h1
    rw [if_neg h1] at h
    split
    · exact ⟨rfl, by simp, by simp⟩
    · rename_i h2
      rw [if_neg h2] at h
      split
      · exact ⟨rfl, by simp, by simp⟩
      · rename_i h3
        rw [if_neg h3] at h
        exact absurd rfl h
theorem Net.Right.fits4 {N : Net} (h : N.Right) : N.Fits := by
  have h1 := h.nodes
  have h2 := h.src
  have h3 := h.snk
  have h4 := h.len
  refine ⟨by unfold inB; omega, by unfold inB; omega, by unfold inB; omega, by omega, fun a ha => ?_⟩
  have h5 := h.arc a ha
  have h6 := cap_le h ha
  exact ⟨by unfold inB; omega, by unfold inB; omega, by unfold inB; omega⟩
end Go.Proofs.YtkiadfpkgpgbiaaGreatDoor
