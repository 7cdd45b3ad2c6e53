
/- Nodes parted in two: one phase leads all that the middle arcs let through. -/
import Derived.Test.YtcgcimnjknadjaaGridR
set_option linter.unusedVariables false
set_option linter.unusedSimpArgs false
namespace Go.Proofs.Ytcgcimnjknadjaa
open Go.RowKit
def capS (cs : List (Int × Nat)) : Int := (cs.map (·.1)).sum
theorem outS_le : ∀ (cs : List (Int × Nat)) (f : List Int), f.length = 4 * cs.length → (∀ i c, cs[i]? = some c → f.getD (4 * i + 2) 0 ≤ c.1) → outS f ≤ capS cs
  | [], [], _, _ => Int.le_refl _
  | c :: cs, x :: y :: z :: w :: f, h, hm => by
    have ih := outS_le cs f (by simp at h; omega) fun i d hd => by
      have := hm (i + 1) d (by simpa using hd)
      rw [show 4 * (i + 1) + 2 = (4 * i + 2) + 1 + 1 + 1 + 1 by omega] at this
      simpa only [List.getD_cons_succ] using this
    have h0 : z ≤ c.1 := hm 0 c rfl
    simp only [capS] at ih
    simp only [outS, capS, List.map_cons, List.sum_cons]
    omega
  | [], _ :: _, h, _ => by simp at h
  | _ :: _, [], h, _ => by simp at h
  | _ :: _, [_], h, _ => by simp at h; omega
  | _ :: _, [_, _], h, _ => by simp at h; omega
  | _ :: _, [_, _, _], h, _ => by simp at h; omega
theorem outS_eq : ∀ (cs : List (Int × Nat)) (f : List Int), f.length = 4 * cs.length → (∀ i c, cs[i]? = some c → f.getD (4 * i + 2) 0 = c.1) → outS f = capS cs
  | [], [], _, _ => rfl
  | c :: cs, x :: y :: z :: w :: f, h, hm => by
    have ih := outS_eq cs f (by simp at h; omega) fun i d hd => by
      have := hm (i + 1) d (by simpa using hd)
      rw [show 4 * (i + 1) + 2 = (4 * i + 2) + 1 + 1 + 1 + 1 by omega] at this
      simpa only [List.getD_cons_succ] using this
    have h0 : z = c.1 := hm 0 c rfl
    simp only [capS] at ih
    simp only [outS, capS, List.map_cons, List.sum_cons]
    omega
  | [], _ :: _, h, _ => by simp at h
  | _ :: _, [], h, _ => by simp at h
  | _ :: _, [_], h, _ => by simp at h; omega
  | _ :: _, [_, _], h, _ => by simp at h; omega
  | _ :: _, [_, _, _], h, _ => by simp at h; omega
section
variable {cs : List (Int × Nat)}
theorem grid_cells {f : List Int} (hf : IsFlow (gridN cs) f) {i : Nat} (hi : i < cs.length) : (0 ≤ f.getD (4 * i) 0 ∧ f.getD (4 * i) 0 ≤ 100) ∧ (0 ≤ f.getD (4 * i + 1) 0 ∧ f.getD (4 * i + 1) 0 ≤ cs[i].1) ∧ (0 ≤ f.getD (4 * i + 2) 0 ∧ f.getD (4 * i + 2) 0 ≤ 100) ∧ 0 ≤ f.getD (4 * i + 3) 0 ∧
    f.getD (4 * i + 1) 0 = f.getD (4 * i + 2) 0 + f.getD (4 * i + 3) 0 := by
  have hl : f.length = 4 * cs.length := by have := hf.len; rwa [grid_len] at this
  obtain ⟨h1, h2, h3, h4⟩ := gridL_get cs 0 i _ (List.getElem?_eq_getElem hi)
  have e : ∀ j, j < 4 * cs.length → f[j]? = some (f.getD j 0) := fun j hj => by rw [List.getD_eq_getElem?_getD, List.getElem?_eq_getElem (by omega)]; rfl
  have b1 := (hf.all _ (List.mem_of_getElem? (zip_some (l := (gridN cs).arcs) h1 (e _ (by omega)))))
  have b2 := (hf.all _ (List.mem_of_getElem? (zip_some (l := (gridN cs).arcs) h2 (e _ (by omega)))))
  have b3 := (hf.all _ (List.mem_of_getElem? (zip_some (l := (gridN cs).arcs) h3 (e _ (by omega)))))
  have b4 := (hf.all _ (List.mem_of_getElem? (zip_some (l := (gridN cs).arcs) h4 (e _ (by omega)))))
  simp only at b1 b2 b3 b4
  have hk := hf.kept ((2 * i + 4 : Nat) : Int) (by show 1 ≤ ((2 * i + 4 : Nat) : Int) ∧ ((2 * i + 4 : Nat) : Int) ≤ ((2 + 2 * cs.length : Nat) : Int); omega) (by show ((2 * i + 4 : Nat) : Int) ≠ 2; omega) (by show ((2 * i + 4 : Nat) : Int) ≠ 1; omega)
  rw [show (gridN cs).arcs = gridL 0 cs from rfl, grid_out cs f 0 i hl, if_pos (by omega), Nat.sub_zero] at hk
  omega
theorem grid_le {f : List Int} (hf : IsFlow (gridN cs) f) : exZ ((gridN cs).arcs.zip f) (gridN cs).snk ≤ capS cs := by
  have hl : f.length = 4 * cs.length := by have := hf.len; rwa [grid_len] at this
  rw [grid_value hf]
  refine outS_le cs f hl fun i c hc => ?_
  obtain ⟨hi, rfl⟩ := List.getElem?_eq_some_iff.1 hc
  have := grid_cells hf hi
  omega
theorem grid_room {f : List Int} {i : Nat} (h : i < cs.length) (hl : f.length = 4 * cs.length) : (roomL ((gridN cs).arcs.zip f)).getD (8 * i) 0 = 100 - f.getD (4 * i) 0 ∧ (roomL ((gridN cs).arcs.zip f)).getD (8 * i + 2) 0 = cs[i].1 - f.getD (4 * i + 1) 0 ∧ (roomL ((gridN cs).arcs.zip f)).getD (8 * i + 4) 0 = 100 - f.getD (4 * i + 2) 0 ∧ (roomL ((gridN cs).arcs.zip f)).getD (8 * i + 7) 0 = f.getD (4 * i + 3) 0 := by
  obtain ⟨h1, h2, h3, h4⟩ := gridL_get cs 0 i _ (List.getElem?_eq_getElem h)
  have e : ∀ j, j < 4 * cs.length → f[j]? = some (f.getD j 0) := fun j hj => by rw [List.getD_eq_getElem?_getD, List.getElem?_eq_getElem (by omega)]; rfl
  have g1 := (roomL_get (zip_some (l := (gridN cs).arcs) h1 (e _ (by omega)))).1
  have g2 := (roomL_get (zip_some (l := (gridN cs).arcs) h2 (e _ (by omega)))).1
  have g3 := (roomL_get (zip_some (l := (gridN cs).arcs) h3 (e _ (by omega)))).1
  have g4 := (roomL_get (zip_some (l := (gridN cs).arcs) h4 (e _ (by omega)))).2
  rw [show 2 * (4 * i) = 8 * i by omega] at g1
  rw [show 2 * (4 * i + 1) = 8 * i + 2 by omega] at g2
  rw [show 2 * (4 * i + 2) = 8 * i + 4 by omega] at g3
  rw [show 2 * (4 * i + 3) + 1 = 8 * i + 7 by omega] at g4
  exact ⟨by rw [List.getD_eq_getElem?_getD, g1]; rfl, by rw [List.getD_eq_getElem?_getD, g2]; rfl, by rw [List.getD_eq_getElem?_getD, g3]; rfl, by rw [List.getD_eq_getElem?_getD, g4]; rfl⟩
end
end Go.Proofs.Ytcgcimnjknadjaa
