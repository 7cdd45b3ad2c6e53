
/- Chapter 11's example, in plain terms. -/
import Derived.Test.YtcgcimnjknadjaaUniP
set_option linter.unusedVariables false
set_option linter.unusedSimpArgs false
namespace Go.Proofs.Ytcgcimnjknadjaa
open Go.RowKit
def exN : Net := ⟨2, 1, 2, [⟨1, 2, 5⟩, ⟨1, 2, 3⟩]⟩
theorem exN_right : exN.Right := ⟨by decide, by decide, by decide, by decide, by decide, by
  intro a ha
  simp only [exN, List.mem_cons, List.not_mem_nil, or_false] at ha
  rcases ha with rfl | rfl <;> decide, by decide⟩
theorem ex_nx1 : Nx exN (ldAt exN [0, 2]) 1 [5, 0, 3, 0] [0, 0, 0] [] true [0, 0, 0] [0] := .go (r := 0) (p := 0) (by decide) rfl (by decide) (by decide) (.hit (by decide))
theorem ex_nx2 : Nx exN (ldAt exN [0, 2]) 1 [0, 5, 3, 0] [0, 0, 0] [] true [0, 1, 0] [2] := .skip (r := 0) (p := 0) (by decide) rfl (by decide) (by decide) (.go (r := 2) (p := 1) (by decide) rfl (by decide) (by decide) (.hit (by decide)))
theorem ex_nx3 : Nx exN (ldAt exN [0, 2]) 1 [0, 5, 0, 3] [0, 1, 0] [] false [0, 2, 0] [] := .skip (r := 2) (p := 1) (by decide) rfl (by decide) (by decide) (.stop (p := 2) (by decide) rfl (by decide))
theorem ex_bl : Bl exN (ldAt exN [0, 2]) 1 [5, 0, 3, 0] [0, 0, 0] [] [([0], 5), ([2], 3)] [0, 5, 0, 3] := by
  refine Bl.walk (ws := [([2], 3)]) ex_nx1 ?_
  show Bl exN (ldAt exN [0, 2]) 1 [0, 5, 3, 0] [0, 0, 0] [] [([2], 3)] [0, 5, 0, 3]
  refine Bl.walk (ws := []) ex_nx2 ?_
  show Bl exN (ldAt exN [0, 2]) 1 [0, 5, 0, 3] [0, 1, 0] [] [] [0, 5, 0, 3]
  exact Bl.stop ex_nx3
theorem ex_lev {lv : List Int} (h : IsLev exN [5, 0, 3, 0] 1 lv) : lv = [-1, 0, 1] := by
  have hl := h.len
  have h0 := h.nil
  have h1 := h.src
  have h2 := h.step 0 (by decide) (by decide) (by rw [show frN exN 0 = 1 by decide]; rw [show exN.src.toNat = 1 by decide] at h1; omega)
  have h3 := h.zero 2
  rw [show toN exN 0 = 2 by decide, show frN exN 0 = 1 by decide] at h2
  rw [show exN.src.toNat = 1 by decide] at h1 h3
  have h4 : lvZ lv 2 ≠ 0 := fun e => by have := h3 e; omega
  have h5 : lvZ lv 2 = 1 := by omega
  match lv, hl with
  | [a, b, c], _ =>
    have e0 : a = -1 := h0
    have e1 : b = 0 := h1
    have e2 : c = 1 := h5
    rw [e0, e1, e2]
theorem ex_blk {ws : List (List Nat × Int)} {f : List Int} (h : BlkOf exN 1 [0, 0] ws f) : f = [5, 3] ∧ ws.length = 2 := by
  obtain ⟨lv, h1, h2, h3⟩ := h
  obtain rfl := ex_lev h1
  obtain ⟨e1, e2⟩ := ex_bl.uniq (by decide) h3
  refine ⟨room_inj (N := exN) h2.len rfl (e2.symm.trans (by decide)), by rw [← e1]; rfl⟩
end Go.Proofs.Ytcgcimnjknadjaa
