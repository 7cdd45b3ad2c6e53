
/- Nodes beside one another, each parted in two, with arcs back: in plain terms. -/
import Derived.Test.YtcgcimnjknadjaaSh12P
set_option linter.unusedVariables false
set_option linter.unusedSimpArgs false
namespace Go.Proofs.Ytcgcimnjknadjaa
open Go.RowKit
/-- Four arcs for each node: from the source, within, to the sink, and to another's first half. -/
def gridL : Nat → List (Int × Nat) → List Arc
  | _, [] => []
  | k, c :: cs => ⟨2, ((2 * k + 3 : Nat) : Int), 100⟩ :: ⟨((2 * k + 3 : Nat) : Int), ((2 * k + 4 : Nat) : Int), c.1⟩ :: ⟨((2 * k + 4 : Nat) : Int), 1, 100⟩ :: ⟨((2 * k + 4 : Nat) : Int), ((2 * c.2 + 3 : Nat) : Int), 100⟩ :: gridL (k + 1) cs
theorem gridL_length : ∀ (cs : List (Int × Nat)) (k : Nat), (gridL k cs).length = 4 * cs.length
  | [], _ => rfl
  | _ :: cs, k => by simp [gridL, gridL_length cs (k + 1)]; omega
theorem gridL_app (c : Int × Nat) : ∀ (cs : List (Int × Nat)) (k : Nat), gridL k (cs ++ [c]) = gridL k cs ++ [⟨2, ((2 * (k + cs.length) + 3 : Nat) : Int), 100⟩, ⟨((2 * (k + cs.length) + 3 : Nat) : Int), ((2 * (k + cs.length) + 4 : Nat) : Int), c.1⟩, ⟨((2 * (k + cs.length) + 4 : Nat) : Int), 1, 100⟩, ⟨((2 * (k + cs.length) + 4 : Nat) : Int), ((2 * c.2 + 3 : Nat) : Int), 100⟩]
  | [], k => by simp [gridL]
  | d :: cs, k => by
    simp only [List.cons_append, gridL, gridL_app c cs (k + 1), List.length_cons]
    rw [show k + 1 + cs.length = k + (cs.length + 1) by omega]
theorem gridL_get : ∀ (cs : List (Int × Nat)) (k i : Nat) (c : Int × Nat), cs[i]? = some c → (gridL k cs)[4 * i]? = some ⟨2, ((2 * (k + i) + 3 : Nat) : Int), 100⟩ ∧ (gridL k cs)[4 * i + 1]? = some ⟨((2 * (k + i) + 3 : Nat) : Int), ((2 * (k + i) + 4 : Nat) : Int), c.1⟩ ∧ (gridL k cs)[4 * i + 2]? = some ⟨((2 * (k + i) + 4 : Nat) : Int), 1, 100⟩ ∧ (gridL k cs)[4 * i + 3]? = some ⟨((2 * (k + i) + 4 : Nat) : Int), ((2 * c.2 + 3 : Nat) : Int), 100⟩
  | [], _, _, _, h => by simp at h
  | d :: cs, k, 0, c, h => by
    simp only [List.getElem?_cons_zero, Option.some.injEq] at h
    subst h; exact ⟨rfl, rfl, rfl, rfl⟩
  | d :: cs, k, i + 1, c, h => by
    have := gridL_get cs (k + 1) i c (by simpa using h)
    rw [show k + 1 + i = k + (i + 1) by omega] at this
    exact this
/-- What leaves the nodes. -/
def outS : List Int → Int
  | _ :: _ :: z :: _ :: l => z + outS l
  | _ => 0
theorem grid_snk : ∀ (cs : List (Int × Nat)) (f : List Int) (k : Nat), f.length = 4 * cs.length → exZ ((gridL k cs).zip f) 1 = outS f
  | [], [], k, _ => rfl
  | c :: cs, x :: y :: z :: w :: f, k, h => by
    have ih := grid_snk cs f (k + 1) (by simp at h; omega)
    have e : exZ ((gridL k (c :: cs)).zip (x :: y :: z :: w :: f)) 1 = ((if ((2 * k + 3 : Nat) : Int) = 1 then x else 0) - (if (2 : Int) = 1 then x else 0)) + (((if ((2 * k + 4 : Nat) : Int) = 1 then y else 0) - (if ((2 * k + 3 : Nat) : Int) = 1 then y else 0)) + (((if (1 : Int) = 1 then z else 0) - (if ((2 * k + 4 : Nat) : Int) = 1 then z else 0)) + (((if ((2 * c.2 + 3 : Nat) : Int) = 1 then w else 0) - (if ((2 * k + 4 : Nat) : Int) = 1 then w else 0)) + exZ ((gridL (k + 1) cs).zip f) 1))) := by
      simp [gridL, exZ]
    rw [e, ih, if_neg (show ¬ ((2 * k + 3 : Nat) : Int) = 1 by omega), if_neg (show ¬ (2 : Int) = 1 by omega), if_neg (show ¬ ((2 * k + 4 : Nat) : Int) = 1 by omega), if_neg (show ¬ ((2 * k + 3 : Nat) : Int) = 1 by omega), if_pos rfl, if_neg (show ¬ ((2 * k + 4 : Nat) : Int) = 1 by omega), if_neg (show ¬ ((2 * c.2 + 3 : Nat) : Int) = 1 by omega), if_neg (show ¬ ((2 * k + 4 : Nat) : Int) = 1 by omega)]
    simp only [outS]
    omega
  | [], _ :: _, _, h => by simp at h
  | _ :: _, [], _, h => by simp at h
  | _ :: _, [_], _, h => by simp at h; omega
  | _ :: _, [_, _], _, h => by simp at h; omega
  | _ :: _, [_, _, _], _, h => by simp at h; omega
/-- The network of nodes parted in two. -/
def gridN (cs : List (Int × Nat)) : Net := ⟨((2 + 2 * cs.length : Nat) : Int), 2, 1, gridL 0 cs⟩
theorem grid_len {cs : List (Int × Nat)} : (gridN cs).arcs.length = 4 * cs.length := gridL_length cs 0
theorem grid_value {cs : List (Int × Nat)} {f : List Int} (hf : IsFlow (gridN cs) f) : exZ ((gridN cs).arcs.zip f) (gridN cs).snk = outS f := by
  have hl : f.length = 4 * cs.length := by have := hf.len; rwa [grid_len] at this
  exact grid_snk cs f 0 hl
end Go.Proofs.Ytcgcimnjknadjaa
