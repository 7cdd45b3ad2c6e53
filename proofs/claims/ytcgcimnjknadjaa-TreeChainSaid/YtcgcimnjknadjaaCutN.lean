
/- Cuts. -/
import Derived.Test.YtcgcimnjknadjaaQC
set_option linter.unusedVariables false
set_option linter.unusedSimpArgs false
namespace Go.Proofs.Ytcgcimnjknadjaa
open Go.RowKit
/-- The numbers from 1 on, up to k, that are marked so. -/
def whereK (l : List Bool) (is : Bool) (k : Nat) : List Int := ((List.range k).filter fun (v : Nat) => decide (0 < v ∧ l[v]? = some is)).map fun (v : Nat) => (v : Int)
theorem whereK_succ (l : List Bool) (is : Bool) (k : Nat) : whereK l is (k + 1) = whereK l is k ++ (if 0 < k ∧ l[k]? = some is then [(k : Int)] else []) := by
  unfold whereK
  rw [List.range_succ, List.filter_append, List.map_append]
  congr 1
  by_cases h : 0 < k ∧ l[k]? = some is <;> simp [h]
theorem whereK_length (l : List Bool) (is : Bool) (k : Nat) : (whereK l is k).length ≤ k := by
  unfold whereK
  rw [List.length_map]
  exact Nat.le_trans (List.length_filter_le _ _) (by simp)
theorem mem_whereK {l : List Bool} {is : Bool} {k : Nat} {x : Int} : x ∈ whereK l is k ↔ ∃ v : Nat, v < k ∧ 0 < v ∧ l[v]? = some is ∧ x = v := by
  unfold whereK
  simp only [List.mem_map, List.mem_filter, List.mem_range, decide_eq_true_eq]
  constructor
  · rintro ⟨v, ⟨h1, h2, h3⟩, rfl⟩; exact ⟨v, h1, h2, h3, rfl⟩
  · rintro ⟨v, h1, h2, h3, rfl⟩; exact ⟨v, ⟨h1, h2, h3⟩, rfl⟩
/-- What 'First' tells. -/
def firstR (N : Net) (f : List Int) (n : Nat) (v : Value) (H' : Heap) : Prop :=
  (IsFlow N f ∧ ¬ Rch N (roomL (N.arcs.zip f)) 1 N.snk ∧ ∃ (l : List Bool) (A' : Option Addr) (c' : Nat), l.length = n + 1 ∧ (∀ v : Nat, l[v]? = some true ↔ v ≤ n ∧ Rch N (roomL (N.arcs.zip f)) 1 v) ∧ v = .tuple #[.slice A' (whereK l true (n + 1)).length c', .int .i64 0] ∧
    H' = [.own (.slice A' (whereK l true (n + 1)).length c') 3 1 (whereK l true (n + 1)).length (ints (whereK l true (n + 1)))]) ∨
  (¬ IsFlow N f ∧ v = .tuple #[.slice none 0 0, .int .i64 (flowZ N f)] ∧ H' = []) ∨ (IsFlow N f ∧ Rch N (roomL (N.arcs.zip f)) 1 N.snk ∧ v = .tuple #[.slice none 0 0, .int .i64 8] ∧ H' = [])
end Go.Proofs.Ytcgcimnjknadjaa
