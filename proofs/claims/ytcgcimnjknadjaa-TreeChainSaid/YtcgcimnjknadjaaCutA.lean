
/- The arcs that cross a cut, and what they let through. -/
import Derived.Test.YtcgcimnjknadjaaCut14b
set_option linter.unusedVariables false
set_option linter.unusedSimpArgs false
namespace Go.Proofs.Ytcgcimnjknadjaa
open Go.RowKit
/-- The arcs that cross, of the first k. -/
def crossK (N : Net) (s : List Int) (k : Nat) : List Int := ((List.range k).filter fun (i : Nat) => match N.arcs[i]? with
  | some a => decide (a.fr ∈ s ∧ a.to ∉ s)
  | none => false).map fun (i : Nat) => (i : Int)
theorem crossK_succ {N : Net} {s : List Int} {k : Nat} {a : Arc} (h : N.arcs[k]? = some a) : crossK N s (k + 1) = crossK N s k ++ (if a.fr ∈ s ∧ a.to ∉ s then [(k : Int)] else []) := by
  unfold crossK
  rw [List.range_succ, List.filter_append, List.map_append]
  congr 1
  by_cases h2 : a.fr ∈ s ∧ a.to ∉ s <;> simp [h, h2]
theorem crossK_length (N : Net) (s : List Int) (k : Nat) : (crossK N s k).length ≤ k := by
  unfold crossK
  rw [List.length_map]
  exact Nat.le_trans (List.length_filter_le _ _) (by simp)
def marks (s : List Int) : List (Int × Value) := s.map fun v => (v, .bool true)
theorem lookL_marks (s : List Int) (n : Int) : (lookL (marks s) n).getD (.bool false) = .bool (cdec (n ∈ s)) := by
  induction s with
  | nil => rw [cdec_no (by simp)]; rfl
  | cons v s ih =>
    show (lookL ((v, .bool true) :: marks s) n).getD _ = _
    unfold lookL
    by_cases h : v = n
    · rw [if_pos h, cdec_yes (by simp [h])]; rfl
    · rw [if_neg h, ih]
      have : (n ∈ v :: s) ↔ n ∈ s := by simp [Ne.symm h]
      rw [cdec_iff this]
def capAt (N : Net) (i : Int) : Int := match N.arcs[i.toNat]? with
  | some a => a.cap
  | none => 0
open Classical in
/-- What a cut lets through. -/
noncomputable def capZ (s : List Int) (l : List Arc) : Int := (l.map fun a => if a.fr ∈ s ∧ a.to ∉ s then a.cap else 0).sum
theorem cap_cross (N : Net) (s : List Int) : ∀ k, k ≤ N.arcs.length → ((crossK N s k).map (capAt N)).sum = capZ s (N.arcs.take k)
  | 0, _ => by simp [crossK, capZ]
  | k + 1, h => by
    obtain ⟨a, ha⟩ : ∃ a, N.arcs[k]? = some a := ⟨N.arcs[k], List.getElem?_eq_getElem (by omega)⟩
    have ih := cap_cross N s k (by omega)
    rw [crossK_succ ha, List.take_add_one, ha, List.map_append, List.sum_append, ih]
    unfold capZ
    rw [List.map_append, List.sum_append]
    congr 1
    by_cases h2 : a.fr ∈ s ∧ a.to ∉ s
    · simp only [if_pos h2, List.map_cons, List.map_nil, List.sum_cons, List.sum_nil, Option.toList_some]
      show capAt N (k : Int) + 0 = a.cap + 0
      unfold capAt; rw [Int.toNat_natCast, ha]
    · simp only [if_neg h2, List.map_cons, List.map_nil, List.sum_cons, List.sum_nil, Option.toList_some]
      rfl
theorem sum_nonneg : ∀ (l : List Int), (∀ x ∈ l, 0 ≤ x) → 0 ≤ l.sum
  | [], _ => by simp
  | x :: l, h => by
    have := sum_nonneg l fun y hy => h y (by simp [hy])
    have := h x (by simp)
    simp only [List.sum_cons]; omega
theorem capZ_in {N : Net} (hR : N.Right) (s : List Int) : 0 ≤ capZ s N.arcs ∧ capZ s N.arcs ≤ 4611686018427387903 := by
  have h1 : ∀ (l : List Arc), (∀ a ∈ l, 0 ≤ a.cap) → 0 ≤ capZ s l ∧ capZ s l ≤ (l.map (·.cap)).sum := by
    intro l
    induction l with
    | nil => intro _; simp [capZ]
    | cons a l ih =>
      intro h
      have h2 := ih fun x hx => h x (by simp [hx])
      have h3 := h a (by simp)
      unfold capZ at h2 ⊢
      simp only [List.map_cons, List.sum_cons]
      split <;> omega
  have := h1 N.arcs fun a ha => (hR.arc a ha).2.2
  have := hR.sum
  omega
end Go.Proofs.Ytcgcimnjknadjaa
