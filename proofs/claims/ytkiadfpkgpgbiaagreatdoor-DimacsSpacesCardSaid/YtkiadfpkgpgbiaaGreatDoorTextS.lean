
/- The laws of chapter 2: what stands at their heads, and rows of texts compared. -/
import Derived.Test.YtkiadfpkgpgbiaaGreatDoorTextN
import Derived.Test.YtkiadfpkgpgbiaaGreatDoorQB
set_option linter.unusedVariables false
set_option linter.unusedSimpArgs false
namespace Go.Proofs.YtkiadfpkgpgbiaaGreatDoor
open Go.RowKit
theorem readT_str {l : List (List UInt8)} {i : Nat} {x : List UInt8} (h : l[i]? = some x) : readT 9 (strs l) i = some (str x) := strs_get h
theorem strs_nat {g : Nat} {A : Option Addr} {l : List (List UInt8)} (h : strs l ≠ [] → A = some ⟨g, 0, none⟩) : l ≠ [] → A = some ⟨g, 0, none⟩ := fun hne => h (by simpa [strs] using hne)
theorem lines_le (l : List UInt8) : (linesL l).length ≤ l.length + 1 := by
  rw [lines_len]
  have := List.count_le_length (a := (10 : UInt8)) (l := l)
  split <;> omega
theorem wordsGo_le : ∀ l cur : List UInt8, (wordsGo cur l).length ≤ l.length + (if cur = [] then 0 else 1)
  | [], cur => by unfold wordsGo; split <;> simp
  | b :: l, cur => by
    unfold wordsGo
    split
    · split
      · have := wordsGo_le l []
        simp at this ⊢; omega
      · have := wordsGo_le l []
        simp at this ⊢; omega
    · have := wordsGo_le l (cur ++ [b])
      simp at this
      simp only [List.length_cons]
      split <;> omega
theorem words_le (l : List UInt8) : (wordsL l).length ≤ l.length := by
  have := wordsGo_le l []
  simpa [wordsL] using this
theorem strs_one : ∀ l : List (List UInt8), one (strs l) = true
  | [] => rfl
  | _ :: l => strs_one l
theorem num7 : numL [45, 48, 48, 55] = (-7, 0) := by decide
end Go.Proofs.YtkiadfpkgpgbiaaGreatDoor
