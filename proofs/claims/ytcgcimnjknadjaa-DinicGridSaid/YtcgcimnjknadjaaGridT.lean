
/- Nodes parted in two: what one phase leads. -/
import Derived.Test.YtcgcimnjknadjaaGridS
set_option linter.unusedVariables false
set_option linter.unusedSimpArgs false
namespace Go.Proofs.Ytcgcimnjknadjaa
open Go.RowKit
section
variable {cs : List (Int × Nat)}
theorem grid_blk (hR : (gridN cs).Right) (hc : ∀ c ∈ cs, (0 ≤ c.1 ∧ c.1 ≤ 29) ∧ c.2 < cs.length) {f' : List Int} {ws : List (List Nat × Int)} (hB : BlkOf (gridN cs) 1 (List.replicate (4 * cs.length) 0) ws f') :
    exZ ((gridN cs).arcs.zip f') (gridN cs).snk = capS cs := by
  have hz : IsFlow (gridN cs) (List.replicate (4 * cs.length) 0) := by have := zeroFlow _ hR; rwa [grid_len] at this
  have hf' := (hB.gain hR (Int.le_refl 1) hz).1
  have hl : f'.length = 4 * cs.length := by rw [hf'.len, grid_len]
  obtain ⟨rm, hrm⟩ : ∃ rm, rm = roomL ((gridN cs).arcs.zip (List.replicate (4 * cs.length) 0)) := ⟨_, rfl⟩
  have hz0 : ∀ j, (List.replicate (4 * cs.length) (0 : Int)).getD j 0 = 0 := by
    intro j
    rw [List.getD_eq_getElem?_getD, List.getElem?_replicate]
    split <;> rfl
  have hr0 : ∀ i (h : i < cs.length), rm.getD (8 * i) 0 = 100 ∧ rm.getD (8 * i + 2) 0 = cs[i].1 ∧ rm.getD (8 * i + 4) 0 = 100 ∧ rm.getD (8 * i + 7) 0 = 0 := by
    intro i h
    obtain ⟨e1, e2, e3, e4⟩ := grid_room (f := List.replicate (4 * cs.length) 0) h (by simp)
    rw [hrm, e1, e2, e3, e4, hz0, hz0, hz0, hz0]
    exact ⟨rfl, Int.sub_zero _, rfl, rfl⟩
  obtain ⟨lv, h1, h2, h3⟩ := hB
  have hG := graded_leads h1
  have hs : lvZ lv 2 = 0 := h1.src
  rw [← hrm] at h1 h3 hG
  obtain ⟨f2, _, q2, _, q4, _, q6⟩ := h3.keeps hR hG (Int.le_refl 1) _ hz hrm PI.start
  have hin : ∀ i, i < cs.length → lvZ lv (2 * i + 3) = 1 := by
    intro i hi
    obtain ⟨⟨a1, a2⟩, _⟩ := grid_ends hi
    have s1 := h1.step (8 * i) (by rw [grid_len]; omega) (by rw [(hr0 i hi).1]; omega) (by rw [a1]; omega)
    rw [a1, a2, hs] at s1
    have z1 : lvZ lv (2 * i + 3) ≠ 0 := fun h => by
      have : 2 * i + 3 = 2 := h1.zero _ h
      omega
    omega
  have hone : ∀ v, lvZ lv v = 1 → ∃ k, v = 2 * k + 3 := by
    intro v h
    obtain ⟨r, hr, _, ht, hf⟩ := h1.back v (by omega)
    have hfr : frN (gridN cs) r = 2 := h1.zero _ (by omega)
    rw [grid_len] at hr
    obtain ⟨k, j, hj, rfl⟩ : ∃ i j, j < 8 ∧ r = 8 * i + j := ⟨r / 8, r % 8, by omega, by omega⟩
    obtain ⟨e0, e1, e2, e3, e4, e5, e6, e7⟩ := grid_ends (cs := cs) (i := k) (by omega)
    rcases (show j = 0 ∨ j = 1 ∨ j = 2 ∨ j = 3 ∨ j = 4 ∨ j = 5 ∨ j = 6 ∨ j = 7 by omega) with rfl | rfl | rfl | rfl | rfl | rfl | rfl | rfl
    · rw [Nat.add_zero, e0.2] at ht; exact ⟨k, ht.symm⟩
    · rw [e1.1] at hfr; omega
    · rw [e2.1] at hfr; omega
    · rw [e3.1] at hfr; omega
    · rw [e4.1] at hfr; omega
    · rw [e5.1] at hfr; omega
    · rw [e6.1] at hfr; omega
    · rw [e7.1] at hfr; omega
  have hw : ∀ i, f'.getD (4 * i + 3) 0 = 0 := by
    intro i
    by_cases hi : i < cs.length
    · have hge := (grid_cells hf' hi).2.2.2.1
      obtain ⟨_, _, _, g4⟩ := grid_room hi hl
      obtain ⟨_, _, _, _, _, _, e6, _⟩ := grid_ends hi
      by_cases hp : 0 < f'.getD (4 * i + 3) 0
      · exfalso
        have hm := q6 (8 * i + 7) (by rw [grid_len]; omega) (by rw [(hr0 i hi).2.2.2, g4]; exact hp)
        have hfl : flipT (8 * i + 7) = 8 * i + 6 := by unfold flipT; split <;> omega
        rw [hfl] at hm
        have := mem_leads.1 (mem_ldAt.1 hm).1
        obtain ⟨_, _, _, m4⟩ := this
        rw [e6.1, e6.2, hin _ (hc _ (List.getElem_mem hi)).2] at m4
        have : 2 * i + 4 = 2 := h1.zero _ (by omega)
        omega
      · omega
    · rw [List.getD_eq_getElem?_getD, List.getElem?_eq_none (by omega)]; rfl
  rw [grid_value hf']
  refine outS_eq cs f' hl fun i c hcc => ?_
  obtain ⟨hi, rfl⟩ := List.getElem?_eq_some_iff.1 hcc
  obtain ⟨c1, c2, c3, _, c5⟩ := grid_cells hf' hi
  rw [hw i] at c5
  have hb := (hc _ (List.getElem_mem hi)).1
  have hk := hf'.kept ((2 * i + 3 : Nat) : Int) (by show 1 ≤ ((2 * i + 3 : Nat) : Int) ∧ ((2 * i + 3 : Nat) : Int) ≤ ((2 + 2 * cs.length : Nat) : Int); omega) (by show ((2 * i + 3 : Nat) : Int) ≠ 2; omega) (by show ((2 * i + 3 : Nat) : Int) ≠ 1; omega)
  rw [show (gridN cs).arcs = gridL 0 cs from rfl, grid_in cs f' 0 i hl hw, if_pos (by omega), Nat.sub_zero] at hk
  by_cases hlt : f'.getD (4 * i + 1) 0 < cs[i].1
  · exfalso
    obtain ⟨r1, r2, r3, _⟩ := hr0 i hi
    obtain ⟨g1, g2, g3, _⟩ := grid_room hi hl
    obtain ⟨e0, _, e2, _, e4, _⟩ := grid_ends hi
    have hi1 := hin i hi
    have s2 := h1.step (8 * i + 2) (by rw [grid_len]; omega) (by rw [r2]; omega) (by rw [e2.1]; omega)
    rw [e2.1, e2.2, hi1] at s2
    have z1 : lvZ lv (2 * i + 4) ≠ 0 := fun h => by
      have : 2 * i + 4 = 2 := h1.zero _ h
      omega
    have z2 : lvZ lv (2 * i + 4) ≠ 1 := fun h => by
      obtain ⟨k, hk⟩ := hone _ h
      omega
    have s3 := h1.step (8 * i + 4) (by rw [grid_len]; omega) (by rw [r3]; omega) (by rw [e4.1]; omega)
    rw [e4.1, e4.2] at s3
    have y0 : lvZ lv 1 ≠ 0 := fun h => by
      have : 1 = 2 := h1.zero _ h
      omega
    have y1 : lvZ lv 1 ≠ 1 := fun h => by
      obtain ⟨k, hk⟩ := hone _ h
      omega
    have y2 : lvZ lv 1 ≠ 2 := fun h => by
      obtain ⟨r, hr, _, ht, hf⟩ := h1.back 1 (by omega)
      obtain ⟨k', hk'⟩ := hone _ (by omega : lvZ lv (frN (gridN cs) r) = 1)
      rw [grid_len] at hr
      obtain ⟨k, j, hj, rfl⟩ : ∃ i j, j < 8 ∧ r = 8 * i + j := ⟨r / 8, r % 8, by omega, by omega⟩
      obtain ⟨e0, e1, e2, e3, e4, e5, e6, e7⟩ := grid_ends (cs := cs) (i := k) (by omega)
      rcases (show j = 0 ∨ j = 1 ∨ j = 2 ∨ j = 3 ∨ j = 4 ∨ j = 5 ∨ j = 6 ∨ j = 7 by omega) with rfl | rfl | rfl | rfl | rfl | rfl | rfl | rfl
      · rw [Nat.add_zero, e0.2] at ht; omega
      · rw [e1.2] at ht; omega
      · rw [e2.2] at ht; omega
      · rw [e3.2] at ht; omega
      · rw [e4.1] at hk'; omega
      · rw [e5.2] at ht; omega
      · rw [e6.2] at ht; omega
      · rw [e7.2] at ht; omega
    have p0 : LP (gridN cs) (ldAt (gridN cs) (leadsL (gridN cs) rm 1 lv (2 * (gridN cs).arcs.length))) 1 (roomL ((gridN cs).arcs.zip f')) (frN (gridN cs) (8 * i)) := by rw [e0.1]; exact LP.src
    have p1 := LP.step p0 (mem_ldAt.2 ⟨mem_leads.2 ⟨by rw [grid_len]; omega, by rw [r1]; omega, by rw [e0.1]; omega, by rw [e0.1, e0.2]; omega⟩, rfl⟩) (by rw [g1]; omega)
    rw [e0.2, ← e2.1] at p1
    have p2 := LP.step p1 (mem_ldAt.2 ⟨mem_leads.2 ⟨by rw [grid_len]; omega, by rw [r2]; omega, by rw [e2.1]; omega, by rw [e2.1, e2.2]; omega⟩, rfl⟩) (by rw [g2]; omega)
    rw [e2.2, ← e4.1] at p2
    have p3 := LP.step p2 (mem_ldAt.2 ⟨mem_leads.2 ⟨by rw [grid_len]; omega, by rw [r3]; omega, by rw [e4.1]; omega, by rw [e4.1, e4.2]; omega⟩, rfl⟩) (by rw [g3]; omega)
    rw [e4.2] at p3
    exact q4 1 p3 rfl
  · omega
end
end Go.Proofs.Ytcgcimnjknadjaa
