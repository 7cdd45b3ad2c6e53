
/- Nodes parted in two: the tracks' ends, and that the network is a right one. -/
import Derived.Test.YtcgcimnjknadjaaGridQ
set_option linter.unusedVariables false
set_option linter.unusedSimpArgs false
namespace Go.Proofs.Ytcgcimnjknadjaa
open Go.RowKit
section
variable {cs : List (Int × Nat)}
theorem arc_ends {N : Net} {j : Nat} {a b : Nat} {c : Int} (h : N.arcs[j]? = some ⟨(a : Int), (b : Int), c⟩) : (frN N (2 * j) = a ∧ toN N (2 * j) = b) ∧ frN N (2 * j + 1) = b ∧ toN N (2 * j + 1) = a := by
  unfold frN toN endsZ
  rw [show 2 * j / 2 = j by omega, show (2 * j + 1) / 2 = j by omega, h]
  simp only [endsOf]
  rw [if_neg (by omega), if_pos (by omega)]
  exact ⟨⟨by simp, by simp⟩, by simp, by simp⟩
theorem grid_ends {i : Nat} (h : i < cs.length) : (frN (gridN cs) (8 * i) = 2 ∧ toN (gridN cs) (8 * i) = 2 * i + 3) ∧ (frN (gridN cs) (8 * i + 1) = 2 * i + 3 ∧ toN (gridN cs) (8 * i + 1) = 2) ∧ (frN (gridN cs) (8 * i + 2) = 2 * i + 3 ∧ toN (gridN cs) (8 * i + 2) = 2 * i + 4) ∧ (frN (gridN cs) (8 * i + 3) = 2 * i + 4 ∧ toN (gridN cs) (8 * i + 3) = 2 * i + 3) ∧
    (frN (gridN cs) (8 * i + 4) = 2 * i + 4 ∧ toN (gridN cs) (8 * i + 4) = 1) ∧ (frN (gridN cs) (8 * i + 5) = 1 ∧ toN (gridN cs) (8 * i + 5) = 2 * i + 4) ∧ (frN (gridN cs) (8 * i + 6) = 2 * i + 4 ∧ toN (gridN cs) (8 * i + 6) = 2 * cs[i].2 + 3) ∧ (frN (gridN cs) (8 * i + 7) = 2 * cs[i].2 + 3 ∧ toN (gridN cs) (8 * i + 7) = 2 * i + 4) := by
  obtain ⟨h1, h2, h3, h4⟩ := gridL_get cs 0 i _ (List.getElem?_eq_getElem h)
  rw [Nat.zero_add] at h1 h2 h3 h4
  have e1 := arc_ends (N := gridN cs) (a := 2) (b := 2 * i + 3) h1
  have e2 := arc_ends (N := gridN cs) h2
  have e3 := arc_ends (N := gridN cs) (b := 1) h3
  have e4 := arc_ends (N := gridN cs) h4
  rw [show 2 * (4 * i) = 8 * i by omega] at e1
  rw [show 2 * (4 * i + 1) = 8 * i + 2 by omega] at e2
  rw [show 2 * (4 * i + 2) = 8 * i + 4 by omega] at e3
  rw [show 2 * (4 * i + 3) = 8 * i + 6 by omega] at e4
  exact ⟨e1.1, e1.2, e2.1, e2.2, e3.1, e3.2, e4.1, e4.2⟩
end
theorem gridL_mem {cs : List (Int × Nat)} : ∀ {k : Nat} {a : Arc}, a ∈ gridL k cs → ∃ (i : Nat) (c : Int × Nat), i < cs.length ∧ c ∈ cs ∧ (a = ⟨2, ((2 * (k + i) + 3 : Nat) : Int), 100⟩ ∨ a = ⟨((2 * (k + i) + 3 : Nat) : Int), ((2 * (k + i) + 4 : Nat) : Int), c.1⟩ ∨ a = ⟨((2 * (k + i) + 4 : Nat) : Int), 1, 100⟩ ∨ a = ⟨((2 * (k + i) + 4 : Nat) : Int), ((2 * c.2 + 3 : Nat) : Int), 100⟩) := by
  induction cs with
  | nil => intro k a h; cases h
  | cons d cs ih =>
    intro k a h
    simp only [gridL, List.mem_cons] at h
    rcases h with h | h | h | h | h
    · exact ⟨0, d, by simp, by simp, .inl h⟩
    · exact ⟨0, d, by simp, by simp, .inr (.inl h)⟩
    · exact ⟨0, d, by simp, by simp, .inr (.inr (.inl h))⟩
    · exact ⟨0, d, by simp, by simp, .inr (.inr (.inr h))⟩
    · obtain ⟨i, c, hi, hc, h⟩ := ih h
      refine ⟨i + 1, c, by simp; omega, by simp [hc], ?_⟩
      rw [show k + (i + 1) = k + 1 + i by omega]
      exact h
theorem grid_right {cs : List (Int × Nat)} (h2 : cs.length ≤ 40) (hc : ∀ c ∈ cs, (0 ≤ c.1 ∧ c.1 ≤ 29) ∧ c.2 < cs.length) : (gridN cs).Right := by
  refine ⟨by show 2 ≤ ((2 + 2 * cs.length : Nat) : Int) ∧ ((2 + 2 * cs.length : Nat) : Int) ≤ 500; omega, by show (1 : Int) ≤ 2 ∧ (2 : Int) ≤ ((2 + 2 * cs.length : Nat) : Int); omega, by show (1 : Int) ≤ 1 ∧ (1 : Int) ≤ ((2 + 2 * cs.length : Nat) : Int); omega, by show (2 : Int) ≠ 1; omega, by show (gridL 0 cs).length ≤ 2000; rw [gridL_length]; omega, fun a ha => ?_, ?_⟩
  · obtain ⟨i, c, hi, hg, h⟩ := gridL_mem ha
    have := hc c hg
    show (1 ≤ a.fr ∧ a.fr ≤ ((2 + 2 * cs.length : Nat) : Int)) ∧ (1 ≤ a.to ∧ a.to ≤ ((2 + 2 * cs.length : Nat) : Int)) ∧ 0 ≤ a.cap
    rcases h with rfl | rfl | rfl | rfl <;> simp only <;> omega
  · have key : ∀ (cs : List (Int × Nat)) (k : Nat), (∀ c ∈ cs, 0 ≤ c.1 ∧ c.1 ≤ 29) → ((gridL k cs).map (·.cap)).sum ≤ 329 * cs.length := by
      intro cs
      induction cs with
      | nil => intro _ _; exact Int.le_refl _
      | cons c cs ih =>
        intro k h
        have h3 := ih (k + 1) fun d hd => h d (by simp [hd])
        have h4 := h c (by simp)
        simp only [gridL, List.map_cons, List.sum_cons, List.length_cons]
        omega
    have := key cs 0 fun c h => (hc c h).1
    show ((gridL 0 cs).map (·.cap)).sum ≤ _
    omega
end Go.Proofs.Ytcgcimnjknadjaa
