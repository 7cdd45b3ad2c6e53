
/- Nodes beside one another: what goes through. -/
import Derived.Test.YtcgcimnjknadjaaWideQ
set_option linter.unusedVariables false
set_option linter.unusedSimpArgs false
namespace Go.Proofs.Ytcgcimnjknadjaa
open Go.RowKit
def minP (c : Int × Int) : Int := if c.2 < c.1 then c.2 else c.1
def sumM (cs : List (Int × Int)) : Int := (cs.map minP).sum
def manyM (cs : List (Int × Int)) : Nat := (cs.filter fun c => decide (0 < minP c)).length
theorem sumM_app (c : Int × Int) (cs : List (Int × Int)) : sumM (cs ++ [c]) = sumM cs + minP c := by simp [sumM]
theorem manyM_app (c : Int × Int) (cs : List (Int × Int)) : manyM (cs ++ [c]) = manyM cs + if 0 < minP c then 1 else 0 := by
  unfold manyM
  rw [List.filter_append, List.length_append, List.filter_cons]
  by_cases h : 0 < minP c
  · rw [if_pos h, if_pos (decide_eq_true h)]; rfl
  · rw [if_neg h, if_neg (by rw [decide_eq_true_eq]; exact h)]; rfl
theorem oddS_eq : ∀ (cs : List (Int × Int)) (f : List Int), f.length = 2 * cs.length → (∀ i c, cs[i]? = some c → f.getD (2 * i + 1) 0 = minP c) → oddS f = sumM cs
  | [], [], _, _ => rfl
  | c :: cs, x :: y :: f, h, hm => by
    have ih := oddS_eq cs f (by simp at h; omega) fun i d hd => by
      have := hm (i + 1) d (by simpa using hd)
      rw [show 2 * (i + 1) + 1 = (2 * i + 1) + 1 + 1 by omega, List.getD_cons_succ, List.getD_cons_succ] at this
      exact this
    have h0 : y = minP c := hm 0 c rfl
    simp only [oddS, ih, h0, sumM, List.map_cons, List.sum_cons]
  | [], _ :: _, h, _ => by simp at h
  | _ :: _, [], h, _ => by simp at h
  | _ :: _, [_], h, _ => by simp at h; omega
section
variable {cs : List (Int × Int)}
theorem wide_room {f : List Int} {i : Nat} (h : i < cs.length) (hl : f.length = 2 * cs.length) : (roomL ((wideN cs).arcs.zip f)).getD (4 * i) 0 = cs[i].1 - f.getD (2 * i) 0 ∧ (roomL ((wideN cs).arcs.zip f)).getD (4 * i + 2) 0 = cs[i].2 - f.getD (2 * i + 1) 0 := by
  obtain ⟨h1, h2⟩ := fanL_get cs 0 i _ (List.getElem?_eq_getElem h)
  have e1 : f[2 * i]? = some (f.getD (2 * i) 0) := by rw [List.getD_eq_getElem?_getD, List.getElem?_eq_getElem (by omega)]; rfl
  have e2 : f[2 * i + 1]? = some (f.getD (2 * i + 1) 0) := by rw [List.getD_eq_getElem?_getD, List.getElem?_eq_getElem (by omega)]; rfl
  obtain ⟨g1, _⟩ := roomL_get (zip_some (l := (wideN cs).arcs) h1 e1)
  obtain ⟨g2, _⟩ := roomL_get (zip_some (l := (wideN cs).arcs) h2 e2)
  rw [show 2 * (2 * i) = 4 * i by omega] at g1
  rw [show 2 * (2 * i + 1) = 4 * i + 2 by omega] at g2
  exact ⟨by rw [List.getD_eq_getElem?_getD, g1]; rfl, by rw [List.getD_eq_getElem?_getD, g2]; rfl⟩
theorem wide_law (hR : (wideN cs).Right) {f' : List Int} {ws : List (List Nat × Int)} (hB : BlkOf (wideN cs) 1 (List.replicate (2 * cs.length) 0) ws f') :
    exZ ((wideN cs).arcs.zip f') (wideN cs).snk = sumM cs ∧ ws.length = manyM cs := by
  have hz : IsFlow (wideN cs) (List.replicate (2 * cs.length) 0) := by have := zeroFlow _ hR; rwa [wide_len] at this
  have hf' := (hB.gain hR (Int.le_refl 1) hz).1
  obtain ⟨rm, hrm⟩ : ∃ rm, rm = roomL ((wideN cs).arcs.zip (List.replicate (2 * cs.length) 0)) := ⟨_, rfl⟩
  have hr0 : ∀ i (h : i < cs.length), rm.getD (4 * i) 0 = cs[i].1 ∧ rm.getD (4 * i + 2) 0 = cs[i].2 := by
    intro i h
    obtain ⟨e1, e2⟩ := wide_room (f := List.replicate (2 * cs.length) 0) h (by simp)
    rw [hrm, e1, e2, List.getD_eq_getElem?_getD, List.getD_eq_getElem?_getD, List.getElem?_replicate, List.getElem?_replicate, if_pos (by omega), if_pos (by omega)]
    exact ⟨Int.sub_zero _, Int.sub_zero _⟩
  obtain ⟨lv, h1, h2, h3⟩ := hB
  have hG := graded_leads h1
  have hs : lvZ lv 1 = 0 := h1.src
  rw [← hrm] at h1 h3 hG
  obtain ⟨k1, k2⟩ := wide_bl hR hG h3 _ hz hrm PI.start fun i hi c1 c2 => by
    obtain ⟨⟨a1, a2⟩, _, ⟨b1, b2⟩, _⟩ := wide_ends hi
    have s1 := h1.step (4 * i) (by rw [wide_len]; omega) c1 (by rw [a1]; omega)
    rw [a1, a2, hs] at s1
    have z1 : lvZ lv (i + 3) ≠ 0 := fun h => by
      have : i + 3 = 1 := h1.zero _ h
      omega
    have s2 := h1.step (4 * i + 2) (by rw [wide_len]; omega) c2 (by rw [b1]; omega)
    rw [b1, b2] at s2
    have z2 : lvZ lv 2 ≠ 0 := fun h => by
      have : 2 = 1 := h1.zero _ h
      omega
    have z3 : lvZ lv 2 ≠ 1 := fun h => by
      obtain ⟨r, hr, _, ht, hf⟩ := h1.back 2 (by omega)
      have hfr : frN (wideN cs) r = 1 := h1.zero _ (by omega)
      rw [wide_len] at hr
      obtain ⟨k, j, hj, rfl⟩ : ∃ i j, j < 4 ∧ r = 4 * i + j := ⟨r / 4, r % 4, by omega, by omega⟩
      obtain ⟨⟨e1, e2⟩, ⟨f1, f2⟩, ⟨g1, g2⟩, k1, k2⟩ := wide_ends (cs := cs) (i := k) (by omega)
      rcases (show j = 0 ∨ j = 1 ∨ j = 2 ∨ j = 3 by omega) with rfl | rfl | rfl | rfl
      · rw [Nat.add_zero, e2] at ht; omega
      · rw [f2] at ht; omega
      · rw [g1] at hfr; omega
      · rw [k2] at ht; omega
    exact ⟨mem_ldAt.2 ⟨mem_leads.2 ⟨by rw [wide_len]; omega, c1, by rw [a1]; omega, by rw [a1, a2]; omega⟩, a1⟩, mem_ldAt.2 ⟨mem_leads.2 ⟨by rw [wide_len]; omega, c2, by rw [b1]; omega, by rw [b1, b2]; omega⟩, b1⟩⟩
  have hl : f'.length = 2 * cs.length := by rw [hf'.len, wide_len]
  refine ⟨?_, ?_⟩
  · rw [wide_value hf']
    refine oddS_eq cs f' hl fun i c hc => ?_
    obtain ⟨hi, rfl⟩ := List.getElem?_eq_some_iff.1 hc
    have hno := (openC_zero _).2 k2 i hi
    obtain ⟨e1, e2⟩ := wide_room hi hl
    rw [e1, e2] at hno
    have hkp := wide_flow hf' i hi
    obtain ⟨h1, h2⟩ := fanL_get cs 0 i _ (List.getElem?_eq_getElem hi)
    have e1 : f'[2 * i]? = some (f'.getD (2 * i) 0) := by rw [List.getD_eq_getElem?_getD, List.getElem?_eq_getElem (by omega)]; rfl
    have e2 : f'[2 * i + 1]? = some (f'.getD (2 * i + 1) 0) := by rw [List.getD_eq_getElem?_getD, List.getElem?_eq_getElem (by omega)]; rfl
    have b1 := (hf'.all _ (List.mem_of_getElem? (zip_some (l := (wideN cs).arcs) h1 e1))).2
    have b2 := (hf'.all _ (List.mem_of_getElem? (zip_some (l := (wideN cs).arcs) h2 e2))).2
    simp only at b1 b2
    unfold minP
    split <;> omega
  · rw [k1]
    have key : ∀ n, n ≤ cs.length → openC rm n = manyM (cs.take n) := by
      intro n
      induction n with
      | zero => intro _; rfl
      | succ n ih =>
        intro hn
        have hn' : n < cs.length := by omega
        obtain ⟨e1, e2⟩ := hr0 n hn'
        rw [List.take_add_one, List.getElem?_eq_getElem hn', Option.toList_some, manyM_app, ← ih (by omega)]
        simp only [openC]
        rw [e1, e2]
        congr 1
        unfold minP
        split <;> split <;> split <;> first | rfl | omega
    rw [key _ (Nat.le_refl _), List.take_length]
end
end Go.Proofs.Ytcgcimnjknadjaa
