
/- Networks turned, and the greatest cut of a flow. -/
import Derived.Test.YtdhenmmmkdhonaaQF
import Derived.Test.YtdhenmmmkdhonaaQB
set_option linter.unusedVariables false
set_option linter.unusedSimpArgs false
namespace Go.Proofs.Ytdhenmmmkdhonaa
open Go.RowKit
def turnA (a : Arc) : Arc := ⟨a.to, a.fr, a.cap⟩
def turnN (N : Net) : Net := ⟨N.nodes, N.snk, N.src, N.arcs.map turnA⟩
theorem turn_right {N : Net} (h : N.Right) : (turnN N).Right := by
  refine ⟨h.nodes, h.snk, h.src, h.diff.symm, by simp [turnN]; exact h.len, fun a ha => ?_, ?_⟩
  · obtain ⟨x, hx, rfl⟩ := List.mem_map.1 ha
    obtain ⟨h1, h2, h3⟩ := h.arc x hx
    exact ⟨h2, h1, h3⟩
  · have : (turnN N).arcs.map (·.cap) = N.arcs.map (·.cap) := by simp only [turnN, List.map_map]; rfl
    rw [this]; exact h.sum
theorem turn_fits {N : Net} (h : N.Fits) : (turnN N).Fits := by
  refine ⟨h.nodes, h.snk, h.src, by simp [turnN]; have := h.len; omega, fun a ha => ?_⟩
  obtain ⟨x, hx, rfl⟩ := List.mem_map.1 ha
  obtain ⟨h1, h2, h3⟩ := h.arc x hx
  exact ⟨h2, h1, h3⟩
theorem turn_ex : ∀ (l : List Arc) (f : List Int) (v : Int), exZ ((l.map turnA).zip f) v = - exZ (l.zip f) v
  | [], _, _ => by simp [exZ]
  | a :: l, [], _ => by simp [exZ]
  | a :: l, x :: f, v => by
    have ih := turn_ex l f v
    simp only [exZ] at ih
    simp only [exZ, List.map_cons, List.zip_cons_cons, List.sum_cons, turnA]
    omega
theorem turn_room : ∀ (l : List Arc) (f : List Int), roomL ((l.map turnA).zip f) = roomL (l.zip f)
  | [], _ => by simp [roomL]
  | a :: l, [] => by simp [roomL]
  | a :: l, x :: f => by
    have ih := turn_room l f
    unfold roomL at *
    simp only [List.map_cons, List.zip_cons_cons, List.flatMap_cons, ih, turnA]
theorem turn_flow {N : Net} {f : List Int} (h : IsFlow N f) : IsFlow (turnN N) f := by
  refine ⟨⟨by simp [turnN]; exact h.len, fun p hp => ?_⟩, fun v hv h1 h2 => ?_⟩
  · obtain ⟨i, hi, hip⟩ := List.mem_iff_getElem.1 hp
    have hz : ((turnN N).arcs.zip f)[i]? = some p := by rw [List.getElem?_eq_getElem hi, hip]
    change ((N.arcs.map turnA).zip f)[i]? = some p at hz
    obtain ⟨g1, g2⟩ := List.getElem?_zip_eq_some.1 hz
    rw [List.getElem?_map] at g1
    cases ha : N.arcs[i]? with
    | none => rw [ha] at g1; simp at g1
    | some a =>
      rw [ha] at g1
      have e : turnA a = p.1 := by simpa using g1
      have := h.all (a, p.2) (List.mem_of_getElem? (List.getElem?_zip_eq_some.2 ⟨ha, g2⟩))
      rw [← e]; exact this
  · show exZ ((N.arcs.map turnA).zip f) v = 0
    rw [turn_ex, h.kept v hv h2 h1]; rfl
theorem turn_ends (N : Net) (r : Nat) : endsZ (turnN N) r = ((endsZ N r).2, (endsZ N r).1) := by
  unfold endsZ
  simp only [turnN, List.getElem?_map]
  cases N.arcs[r / 2]? with
  | none => rfl
  | some a =>
    show endsOf (turnA a) r = ((endsOf a r).2, (endsOf a r).1)
    unfold endsOf turnA
    split <;> rfl
theorem arcs_set : ∀ (l : List Arc) (k : Nat) (a : Arc) (x : Int), l[k]? = some a → (arcs l).set (k * 3) (.int .i64 x) = arcs (l.set k ⟨x, a.to, a.cap⟩) ∧ (arcs l).set (k * 3 + 1) (.int .i64 x) = arcs (l.set k ⟨a.fr, x, a.cap⟩)
  | [], _, _, _, h => by simp at h
  | b :: l, 0, a, x, h => by
    simp only [List.getElem?_cons_zero, Option.some.injEq] at h
    subst h
    exact ⟨rfl, rfl⟩
  | b :: l, k + 1, a, x, h => by
    obtain ⟨h1, h2⟩ := arcs_set l k a x (by simpa using h)
    have e : ∀ (c : Arc) (m : List Arc), arcs (c :: m) = .int .i64 c.fr :: .int .i64 c.to :: .int .i64 c.cap :: arcs m := fun c m => by simp [arcs]
    refine ⟨?_, ?_⟩
    · rw [show (b :: l).set (k + 1) ⟨x, a.to, a.cap⟩ = b :: l.set k ⟨x, a.to, a.cap⟩ from rfl, e, e, ← h1, show (k + 1) * 3 = k * 3 + 1 + 1 + 1 by omega]; rfl
    · rw [show (b :: l).set (k + 1) ⟨a.fr, x, a.cap⟩ = b :: l.set k ⟨a.fr, x, a.cap⟩ from rfl, e, e, ← h2, show (k + 1) * 3 + 1 = k * 3 + 1 + 1 + 1 + 1 by omega]; rfl
end Go.Proofs.Ytdhenmmmkdhonaa
