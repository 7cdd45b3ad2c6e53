
/- Nodes beside one another, between source and sink, in plain terms. -/
import Derived.Test.YtcgcimnjknadjaaChainP
set_option linter.unusedVariables false
set_option linter.unusedSimpArgs false
namespace Go.Proofs.Ytcgcimnjknadjaa
open Go.RowKit
/-- Two arcs for each node: from the source and to the sink. -/
def fanL : Nat → List (Int × Int) → List Arc
  | _, [] => []
  | k, c :: cs => ⟨1, ((k + 3 : Nat) : Int), c.1⟩ :: ⟨((k + 3 : Nat) : Int), 2, c.2⟩ :: fanL (k + 1) cs
theorem fanL_length : ∀ (cs : List (Int × Int)) (k : Nat), (fanL k cs).length = 2 * cs.length
  | [], _ => rfl
  | _ :: cs, k => by simp [fanL, fanL_length cs (k + 1)]; omega
theorem fanL_app (c : Int × Int) : ∀ (cs : List (Int × Int)) (k : Nat), fanL k (cs ++ [c]) = fanL k cs ++ [⟨1, ((k + cs.length + 3 : Nat) : Int), c.1⟩, ⟨((k + cs.length + 3 : Nat) : Int), 2, c.2⟩]
  | [], k => by simp [fanL]
  | d :: cs, k => by
    simp only [List.cons_append, fanL, fanL_app c cs (k + 1), List.length_cons]
    rw [show k + 1 + cs.length = k + (cs.length + 1) by omega]
theorem fanL_get : ∀ (cs : List (Int × Int)) (k i : Nat) (c : Int × Int), cs[i]? = some c → (fanL k cs)[2 * i]? = some ⟨1, ((k + i + 3 : Nat) : Int), c.1⟩ ∧ (fanL k cs)[2 * i + 1]? = some ⟨((k + i + 3 : Nat) : Int), 2, c.2⟩
  | [], _, _, _, h => by simp at h
  | d :: cs, k, 0, c, h => by
    simp only [List.getElem?_cons_zero, Option.some.injEq] at h
    subst h; exact ⟨rfl, rfl⟩
  | d :: cs, k, i + 1, c, h => by
    have := fanL_get cs (k + 1) i c (by simpa using h)
    rw [show 2 * (i + 1) = 2 * i + 1 + 1 by omega, show 2 * i + 1 + 1 + 1 = (2 * i + 1) + 1 + 1 by omega]
    simp only [fanL, List.getElem?_cons_succ]
    rw [show k + (i + 1) + 3 = k + 1 + i + 3 by omega]
    exact this
theorem fanL_mem {cs : List (Int × Int)} : ∀ {k : Nat} {a : Arc}, a ∈ fanL k cs → ∃ (i : Nat) (c : Int × Int), i < cs.length ∧ c ∈ cs ∧ (a = ⟨1, ((k + i + 3 : Nat) : Int), c.1⟩ ∨ a = ⟨((k + i + 3 : Nat) : Int), 2, c.2⟩) := by
  induction cs with
  | nil => intro k a h; cases h
  | cons d cs ih =>
    intro k a h
    simp only [fanL, List.mem_cons] at h
    rcases h with h | h | h
    · exact ⟨0, d, by simp, by simp, .inl h⟩
    · exact ⟨0, d, by simp, by simp, .inr h⟩
    · obtain ⟨i, c, hi, hc, h⟩ := ih h
      refine ⟨i + 1, c, by simp; omega, by simp [hc], ?_⟩
      rw [show k + (i + 1) + 3 = k + 1 + i + 3 by omega]
      exact h
/-- What leaves the nodes. -/
def oddS : List Int → Int
  | _ :: y :: l => y + oddS l
  | _ => 0
theorem fan_snk : ∀ (cs : List (Int × Int)) (f : List Int) (k : Nat), f.length = 2 * cs.length → exZ ((fanL k cs).zip f) 2 = oddS f
  | [], [], k, _ => rfl
  | c :: cs, x :: y :: f, k, h => by
    have ih := fan_snk cs f (k + 1) (by simp at h; omega)
    have e : exZ ((fanL k (c :: cs)).zip (x :: y :: f)) 2 = ((if ((k + 3 : Nat) : Int) = 2 then x else 0) - (if (1 : Int) = 2 then x else 0)) + (((if (2 : Int) = 2 then y else 0) - (if ((k + 3 : Nat) : Int) = 2 then y else 0)) + exZ ((fanL (k + 1) cs).zip f) 2) := by
      simp [fanL, exZ]
    rw [e, ih, if_neg (by omega), if_neg (by omega), if_pos rfl, if_neg (by omega)]
    simp only [oddS]
    omega
  | [], _ :: _, _, h => by simp at h
  | _ :: _, [], _, h => by simp at h
  | _ :: _, [_], _, h => by simp at h; omega
theorem fan_mid : ∀ (cs : List (Int × Int)) (f : List Int) (k v : Nat), f.length = 2 * cs.length → exZ ((fanL k cs).zip f) ((v + 3 : Nat) : Int) = if k ≤ v then f.getD (2 * (v - k)) 0 - f.getD (2 * (v - k) + 1) 0 else 0
  | [], [], k, v, _ => by simp [fanL, exZ]
  | c :: cs, x :: y :: f, k, v, h => by
    have ih := fan_mid cs f (k + 1) v (by simp at h; omega)
    have e : exZ ((fanL k (c :: cs)).zip (x :: y :: f)) ((v + 3 : Nat) : Int) = ((if ((k + 3 : Nat) : Int) = ((v + 3 : Nat) : Int) then x else 0) - (if (1 : Int) = ((v + 3 : Nat) : Int) then x else 0)) + (((if (2 : Int) = ((v + 3 : Nat) : Int) then y else 0) - (if ((k + 3 : Nat) : Int) = ((v + 3 : Nat) : Int) then y else 0)) + exZ ((fanL (k + 1) cs).zip f) ((v + 3 : Nat) : Int)) := by
      simp [fanL, exZ]
    rw [e, ih, if_neg (show ¬ (1 : Int) = ((v + 3 : Nat) : Int) by omega), if_neg (show ¬ (2 : Int) = ((v + 3 : Nat) : Int) by omega)]
    by_cases h1 : v = k
    · subst h1
      rw [if_pos rfl, if_pos rfl, if_neg (by omega), if_pos (Nat.le_refl _), Nat.sub_self]
      simp
      omega
    · rw [if_neg (by omega), if_neg (by omega)]
      by_cases h2 : k ≤ v
      · obtain ⟨d, hd⟩ : ∃ d, v = k + 1 + d := ⟨v - (k + 1), by omega⟩
        rw [if_pos (by omega), if_pos h2, hd, show k + 1 + d - (k + 1) = d by omega, show 2 * (k + 1 + d - k) = 2 * d + 1 + 1 by omega]
        simp
      · rw [if_neg (by omega), if_neg h2]; rfl
  | [], _ :: _, _, _, h => by simp at h
  | _ :: _, [], _, _, h => by simp at h
  | _ :: _, [_], _, _, h => by simp at h; omega
/-- The network of nodes beside one another. -/
def wideN (cs : List (Int × Int)) : Net := ⟨((2 + cs.length : Nat) : Int), 1, 2, fanL 0 cs⟩
theorem wide_right {cs : List (Int × Int)} (h2 : cs.length ≤ 60) (hc : ∀ c ∈ cs, (0 ≤ c.1 ∧ c.1 ≤ 9) ∧ 0 ≤ c.2 ∧ c.2 ≤ 9) : (wideN cs).Right := by
  refine ⟨by show 2 ≤ ((2 + cs.length : Nat) : Int) ∧ ((2 + cs.length : Nat) : Int) ≤ 500; omega, by show (1 : Int) ≤ 1 ∧ (1 : Int) ≤ ((2 + cs.length : Nat) : Int); omega, by show (1 : Int) ≤ 2 ∧ (2 : Int) ≤ ((2 + cs.length : Nat) : Int); omega, by show (1 : Int) ≠ 2; omega, by show (fanL 0 cs).length ≤ 2000; rw [fanL_length]; omega, fun a ha => ?_, ?_⟩
  · obtain ⟨i, c, hi, hg, h⟩ := fanL_mem ha
    have := hc c hg
    rcases h with rfl | rfl
    · show (1 ≤ (1 : Int) ∧ (1 : Int) ≤ ((2 + cs.length : Nat) : Int)) ∧ (1 ≤ ((0 + i + 3 : Nat) : Int) ∧ ((0 + i + 3 : Nat) : Int) ≤ ((2 + cs.length : Nat) : Int)) ∧ 0 ≤ c.1
      omega
    · show (1 ≤ ((0 + i + 3 : Nat) : Int) ∧ ((0 + i + 3 : Nat) : Int) ≤ ((2 + cs.length : Nat) : Int)) ∧ (1 ≤ (2 : Int) ∧ (2 : Int) ≤ ((2 + cs.length : Nat) : Int)) ∧ 0 ≤ c.2
      omega
  · have key : ∀ (cs : List (Int × Int)) (k : Nat), (∀ c ∈ cs, (0 ≤ c.1 ∧ c.1 ≤ 9) ∧ 0 ≤ c.2 ∧ c.2 ≤ 9) → ((fanL k cs).map (·.cap)).sum ≤ 18 * cs.length := by
      intro cs
      induction cs with
      | nil => intro _ _; exact Int.le_refl _
      | cons c cs ih =>
        intro k h
        have h3 := ih (k + 1) fun d hd => h d (by simp [hd])
        have h4 := h c (by simp)
        simp only [fanL, List.map_cons, List.sum_cons, List.length_cons]
        omega
    have := key cs 0 hc
    show ((fanL 0 cs).map (·.cap)).sum ≤ _
    omega
/-- What goes into a node goes out of it. -/
theorem wide_flow {cs : List (Int × Int)} {f : List Int} (hf : IsFlow (wideN cs) f) : ∀ i, i < cs.length → f.getD (2 * i) 0 = f.getD (2 * i + 1) 0 := by
  intro i hi
  have hl : f.length = 2 * cs.length := by have := hf.len; rwa [show (wideN cs).arcs = fanL 0 cs from rfl, fanL_length] at this
  have h1 := hf.kept ((i + 3 : Nat) : Int) (by show 1 ≤ ((i + 3 : Nat) : Int) ∧ ((i + 3 : Nat) : Int) ≤ ((2 + cs.length : Nat) : Int); omega) (by show ((i + 3 : Nat) : Int) ≠ 1; omega) (by show ((i + 3 : Nat) : Int) ≠ 2; omega)
  rw [show (wideN cs).arcs = fanL 0 cs from rfl, fan_mid cs f 0 i hl, if_pos (by omega), Nat.sub_zero] at h1
  omega
theorem wide_value {cs : List (Int × Int)} {f : List Int} (hf : IsFlow (wideN cs) f) : exZ ((wideN cs).arcs.zip f) (wideN cs).snk = oddS f := by
  have hl : f.length = 2 * cs.length := by have := hf.len; rwa [show (wideN cs).arcs = fanL 0 cs from rfl, fanL_length] at this
  exact fan_snk cs f 0 hl
end Go.Proofs.Ytcgcimnjknadjaa
