
/- Nodes parted in two: what is kept at each half. -/
import Derived.Test.YtcgcimnjknadjaaGridP
set_option linter.unusedVariables false
set_option linter.unusedSimpArgs false
namespace Go.Proofs.Ytcgcimnjknadjaa
open Go.RowKit
theorem grid_four (c : Int × Nat) (cs : List (Int × Nat)) (x y z w : Int) (f : List Int) (k : Nat) (v : Int) : exZ ((gridL k (c :: cs)).zip (x :: y :: z :: w :: f)) v = ((if ((2 * k + 3 : Nat) : Int) = v then x else 0) - (if (2 : Int) = v then x else 0)) + (((if ((2 * k + 4 : Nat) : Int) = v then y else 0) - (if ((2 * k + 3 : Nat) : Int) = v then y else 0)) + (((if (1 : Int) = v then z else 0) - (if ((2 * k + 4 : Nat) : Int) = v then z else 0)) + (((if ((2 * c.2 + 3 : Nat) : Int) = v then w else 0) - (if ((2 * k + 4 : Nat) : Int) = v then w else 0)) + exZ ((gridL (k + 1) cs).zip f) v))) := by
  simp [gridL, exZ]
theorem grid_out : ∀ (cs : List (Int × Nat)) (f : List Int) (k v : Nat), f.length = 4 * cs.length → exZ ((gridL k cs).zip f) ((2 * v + 4 : Nat) : Int) = if k ≤ v then f.getD (4 * (v - k) + 1) 0 - f.getD (4 * (v - k) + 2) 0 - f.getD (4 * (v - k) + 3) 0 else 0
  | [], [], k, v, _ => by simp [gridL, exZ]
  | c :: cs, x :: y :: z :: w :: f, k, v, h => by
    have ih := grid_out cs f (k + 1) v (by simp at h; omega)
    rw [grid_four, ih, if_neg (show ¬ ((2 * k + 3 : Nat) : Int) = ((2 * v + 4 : Nat) : Int) by omega), if_neg (show ¬ (2 : Int) = ((2 * v + 4 : Nat) : Int) by omega), if_neg (show ¬ ((2 * k + 3 : Nat) : Int) = ((2 * v + 4 : Nat) : Int) by omega), if_neg (show ¬ (1 : Int) = ((2 * v + 4 : Nat) : Int) by omega), if_neg (show ¬ ((2 * c.2 + 3 : Nat) : Int) = ((2 * v + 4 : Nat) : Int) by omega)]
    by_cases h1 : v = k
    · subst h1
      rw [if_pos rfl, if_pos rfl, if_pos rfl, if_neg (show ¬ v + 1 ≤ v by omega), if_pos (Nat.le_refl _), Nat.sub_self]
      simp
      omega
    · have hn : ¬ ((2 * k + 4 : Nat) : Int) = ((2 * v + 4 : Nat) : Int) := by omega
      rw [if_neg hn, if_neg hn, if_neg hn]
      by_cases h2 : k ≤ v
      · obtain ⟨d, hd⟩ : ∃ d, v = k + 1 + d := ⟨v - (k + 1), by omega⟩
        rw [if_pos (show k + 1 ≤ v by omega), if_pos h2, hd, show k + 1 + d - (k + 1) = d by omega, show k + 1 + d - k = d + 1 by omega]
        have e1 : 4 * (d + 1) + 1 = (4 * d + 1) + 1 + 1 + 1 + 1 := by omega
        have e2 : 4 * (d + 1) + 2 = (4 * d + 2) + 1 + 1 + 1 + 1 := by omega
        have e3 : 4 * (d + 1) + 3 = (4 * d + 3) + 1 + 1 + 1 + 1 := by omega
        rw [e1, e2, e3]
        simp only [List.getD_cons_succ]
        omega
      · rw [if_neg (show ¬ k + 1 ≤ v by omega), if_neg h2]; rfl
  | [], _ :: _, _, _, h => by simp at h
  | _ :: _, [], _, _, h => by simp at h
  | _ :: _, [_], _, _, h => by simp at h; omega
  | _ :: _, [_, _], _, _, h => by simp at h; omega
  | _ :: _, [_, _, _], _, _, h => by simp at h; omega
theorem grid_in : ∀ (cs : List (Int × Nat)) (f : List Int) (k v : Nat), f.length = 4 * cs.length → (∀ i, f.getD (4 * i + 3) 0 = 0) → exZ ((gridL k cs).zip f) ((2 * v + 3 : Nat) : Int) = if k ≤ v then f.getD (4 * (v - k)) 0 - f.getD (4 * (v - k) + 1) 0 else 0
  | [], [], k, v, _, _ => by simp [gridL, exZ]
  | c :: cs, x :: y :: z :: w :: f, k, v, h, hw => by
    have hw0 : w = 0 := hw 0
    have ih := grid_in cs f (k + 1) v (by simp at h; omega) fun i => by
      have := hw (i + 1)
      rw [show 4 * (i + 1) + 3 = (4 * i + 3) + 1 + 1 + 1 + 1 by omega] at this
      simpa only [List.getD_cons_succ] using this
    subst hw0
    rw [grid_four, ih, if_neg (show ¬ (2 : Int) = ((2 * v + 3 : Nat) : Int) by omega), if_neg (show ¬ ((2 * k + 4 : Nat) : Int) = ((2 * v + 3 : Nat) : Int) by omega), if_neg (show ¬ (1 : Int) = ((2 * v + 3 : Nat) : Int) by omega), if_neg (show ¬ ((2 * k + 4 : Nat) : Int) = ((2 * v + 3 : Nat) : Int) by omega), if_neg (show ¬ ((2 * k + 4 : Nat) : Int) = ((2 * v + 3 : Nat) : Int) by omega), ite_self]
    by_cases h1 : v = k
    · subst h1
      rw [if_pos rfl, if_pos rfl, if_neg (show ¬ v + 1 ≤ v by omega), if_pos (Nat.le_refl _), Nat.sub_self]
      simp
      omega
    · have hn : ¬ ((2 * k + 3 : Nat) : Int) = ((2 * v + 3 : Nat) : Int) := by omega
      rw [if_neg hn, if_neg hn]
      by_cases h2 : k ≤ v
      · obtain ⟨d, hd⟩ : ∃ d, v = k + 1 + d := ⟨v - (k + 1), by omega⟩
        rw [if_pos (show k + 1 ≤ v by omega), if_pos h2, hd, show k + 1 + d - (k + 1) = d by omega, show k + 1 + d - k = d + 1 by omega]
        have e1 : 4 * (d + 1) = (4 * d) + 1 + 1 + 1 + 1 := by omega
        have e2 : 4 * (d + 1) + 1 = (4 * d + 1) + 1 + 1 + 1 + 1 := by omega
        rw [e2, e1]
        simp only [List.getD_cons_succ]
        omega
      · rw [if_neg (show ¬ k + 1 ≤ v by omega), if_neg h2]; rfl
  | [], _ :: _, _, _, h, _ => by simp at h
  | _ :: _, [], _, _, h, _ => by simp at h
  | _ :: _, [_], _, _, h, _ => by simp at h; omega
  | _ :: _, [_, _], _, _, h, _ => by simp at h; omega
  | _ :: _, [_, _, _], _, _, h, _ => by simp at h; omega
end Go.Proofs.Ytcgcimnjknadjaa
