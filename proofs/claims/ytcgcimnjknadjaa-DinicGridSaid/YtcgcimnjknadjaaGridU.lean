
/- Nodes parted in two: the phases. -/
import Derived.Test.YtcgcimnjknadjaaGridT
set_option linter.unusedVariables false
set_option linter.unusedSimpArgs false
namespace Go.Proofs.Ytcgcimnjknadjaa
open Go.RowKit
theorem grid_law {cs : List (Int × Nat)} (hR : (gridN cs).Right) (hc : ∀ c ∈ cs, (0 ≤ c.1 ∧ c.1 ≤ 29) ∧ c.2 < cs.length) {f' : List Int} {p k : Nat} (hD : Dn (gridN cs) 1 (List.replicate (4 * cs.length) 0) p k f') :
    exZ ((gridN cs).arcs.zip f') (gridN cs).snk = capS cs ∧ p ≤ 1 := by
  have hz : IsFlow (gridN cs) (List.replicate (4 * cs.length) 0) := by have := zeroFlow _ hR; rwa [grid_len] at this
  cases hD with
  | stop h1 h2 =>
    refine ⟨?_, by omega⟩
    have hbnd := grid_le hz
    by_cases hp : ∃ i, ∃ h : i < cs.length, 1 ≤ cs[i].1
    · exfalso
      obtain ⟨i, hi, hci⟩ := hp
      have hz0 : ∀ j, (List.replicate (4 * cs.length) (0 : Int)).getD j 0 = 0 := by
        intro j
        rw [List.getD_eq_getElem?_getD, List.getElem?_replicate]
        split <;> rfl
      obtain ⟨r1, r2, r3, _⟩ := grid_room (f := List.replicate (4 * cs.length) 0) hi (by simp)
      rw [hz0] at r1 r2 r3
      obtain ⟨e0, _, e2, _, e4, _⟩ := grid_ends hi
      have hs := h1.src
      rw [show (gridN cs).src.toNat = 2 from rfl] at hs
      have s1 := h1.step (8 * i) (by rw [grid_len]; omega) (by rw [r1]; omega) (by rw [e0.1]; omega)
      have s2 := h1.step (8 * i + 2) (by rw [grid_len]; omega) (by rw [r2]; omega) (by rw [e2.1, ← e0.2]; omega)
      have s3 := h1.step (8 * i + 4) (by rw [grid_len]; omega) (by rw [r3]; omega) (by rw [e4.1, ← e2.2]; omega)
      rw [e4.2] at s3
      rw [show (gridN cs).snk.toNat = 1 from rfl] at h2
      omega
    · have hl : (List.replicate (4 * cs.length) (0 : Int)).length = 4 * cs.length := by simp
      rw [grid_value hz]
      refine outS_eq cs _ hl fun i c hcc => ?_
      obtain ⟨hi, rfl⟩ := List.getElem?_eq_some_iff.1 hcc
      have h0 := (hc _ (List.getElem_mem hi)).1
      have h3 : ¬ 1 ≤ cs[i].1 := fun h => hp ⟨i, hi, h⟩
      rw [List.getD_eq_getElem?_getD, List.getElem?_replicate, if_pos (by omega)]
      show (0 : Int) = _
      omega
  | @step _ f1 _ _ ws p k h1 h2 h3 h4 =>
    have hv := grid_blk hR hc h3
    have hf1 := (h3.gain hR (Int.le_refl 1) hz).1
    have hk := h4.keeps hR (Int.le_refl 1) hf1
    have hle := grid_le hk.1
    obtain ⟨_, k2, k3, _⟩ := hk
    refine ⟨?_, ?_⟩ <;> omega
end Go.Proofs.Ytcgcimnjknadjaa
