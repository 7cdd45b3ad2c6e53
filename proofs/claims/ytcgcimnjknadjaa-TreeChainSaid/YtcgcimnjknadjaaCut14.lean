
/- Chapter 14's words: rows that hold a number, that are the same, and the example. -/
import Derived.Test.YtcgcimnjknadjaaCutN
import Derived.Test.YtcgcimnjknadjaaMade14
set_option linter.unusedVariables false
set_option linter.unusedSimpArgs false
namespace Go.Proofs.Ytcgcimnjknadjaa
open Go.RowKit
def ex14 : Net := ⟨3, 1, 3, [⟨1, 2, 5⟩, ⟨2, 3, 3⟩]⟩
theorem ex14_right : ex14.Right := ⟨by decide, by decide, by decide, by decide, by decide, fun a ha => (by
  simp only [ex14, List.mem_cons, List.not_mem_nil, or_false] at ha
  rcases ha with rfl | rfl <;> decide), by decide⟩
theorem ex14_fits : ex14.Fits := ⟨by decide, by decide, by decide, by decide, fun a ha => (by
  simp only [ex14, List.mem_cons, List.not_mem_nil, or_false] at ha
  rcases ha with rfl | rfl <;> decide)⟩
theorem ex14_flow : IsFlow ex14 [3, 3] := by
  refine ⟨⟨rfl, fun p hp => ?_⟩, fun v hv h1 h2 => ?_⟩
  · simp only [ex14, List.zip_cons_cons, List.zip_nil_right, List.mem_cons, List.not_mem_nil, or_false] at hp
    rcases hp with rfl | rfl <;> decide
  · have e1 : ex14.src = 1 := rfl
    have e2 : ex14.snk = 3 := rfl
    have e3 : ex14.nodes = 3 := rfl
    rw [e1] at h1; rw [e2] at h2; rw [e3] at hv
    obtain rfl : v = 2 := by omega
    decide
theorem ex14_rch {x : Int} (h : Rch ex14 (roomL (ex14.arcs.zip [3, 3])) 1 x) : x = 1 ∨ x = 2 := by
  induction h with
  | src => exact .inl rfl
  | step u r _ hr hu hge ih =>
    have hr4 : r < 4 := hr
    have h4 : r = 0 ∨ r = 1 ∨ r = 2 ∨ r = 3 := by omega
    rcases h4 with rfl | rfl | rfl | rfl
    · exact .inr rfl
    · exact .inl rfl
    · exact absurd hge (by decide)
    · have : (3 : Int) = u := hu
      omega
theorem ex14_rch1 : Rch ex14 (roomL (ex14.arcs.zip [3, 3])) 1 1 := Rch.src
theorem ex14_rch2 : Rch ex14 (roomL (ex14.arcs.zip [3, 3])) 1 2 := Rch.step (N := ex14) 1 0 Rch.src (by decide) rfl (by decide)
theorem ex14_where {l : List Bool} (hl : l.length = 4) (h : ∀ v : Nat, l[v]? = some true ↔ v ≤ 3 ∧ Rch ex14 (roomL (ex14.arcs.zip [3, 3])) 1 v) : whereK l true 4 = [1, 2] := by
  match l, hl with
  | [a, b, c, d], _ =>
    have h0 := h 0
    have h1 := (h 1).2 ⟨by omega, ex14_rch1⟩
    have h2 := (h 2).2 ⟨by omega, ex14_rch2⟩
    have h3 := h 3
    simp only [List.getElem?_cons_zero, List.getElem?_cons_succ, Option.some.injEq] at h0 h1 h2 h3
    have a0 : a = false := by
      cases a with
      | false => rfl
      | true => have := ex14_rch (h0.1 rfl).2; simp at this
    have d0 : d = false := by
      cases d with
      | false => rfl
      | true => have := ex14_rch (h3.1 rfl).2; simp at this
    subst a0 h1 h2 d0
    decide
end Go.Proofs.Ytcgcimnjknadjaa
