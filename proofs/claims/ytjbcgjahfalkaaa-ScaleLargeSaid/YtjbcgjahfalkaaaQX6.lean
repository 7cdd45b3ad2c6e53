/- The engine and the words that all chapters share: several texts in one. -/
import Derived.Test.YtjbcgjahfalkaaaQX1
import Derived.Test.YtjbcgjahfalkaaaMade13
import Derived.Test.YtjbcgjahfalkaaaMoreP

/- What the laws of the halves need of turns. -/
set_option linter.unusedVariables false
set_option linter.unusedSimpArgs false
namespace Go.Proofs.Ytjbcgjahfalkaaa
open Go.RowKit
theorem turns_get : ∀ {l : List Turn} {i : Nat} {t : Turn}, l[i]? = some t → (turns l)[i * 4]? = some (.int .i64 t.least) ∧ (turns l)[i * 4 + 1]? = some (.int .i64 t.p) ∧ (turns l)[i * 4 + 2]? = some (.int .i64 t.w) ∧ (turns l)[i * 4 + 3]? = some (.int .i64 t.v)
  | [], _, _, h => by simp at h
  | a :: l, 0, t, h => by
    obtain rfl : a = t := by simpa using h
    exact ⟨rfl, rfl, rfl, rfl⟩
  | a :: l, i + 1, t, h => by
    have ih := turns_get (l := l) (i := i) (t := t) (by simpa using h)
    rw [show (i + 1) * 4 = i * 4 + 1 + 1 + 1 + 1 by omega]
    exact ih
theorem Sc.lev {N : Net} (hR : N.Right) {nr : Nat} {f : List Int} {ts : List Turn} (h : Sc N nr nr f ts) (hcap : nr = 0 → ∀ a ∈ N.arcs, a.cap = 0) (h0 : ∃ lv, IsLev N (roomL (N.arcs.zip (List.replicate N.arcs.length 0))) 1 lv) : ∃ lv, IsLev N (roomL (N.arcs.zip f)) 1 lv ∧ lvZ lv N.snk.toNat < 0 := by
  obtain ⟨_, _, _, _, _, _, hlast⟩ := h.all hR
  have h' := h
  rcases Nat.eq_zero_or_pos nr with e | e
  · subst e
    obtain ⟨lv, hlv⟩ := h0
    cases h with
    | nil => exact ⟨lv, hlv, h'.stop hR hcap hlv⟩
  · obtain ⟨lv, g1, g2⟩ := hlast e
    obtain ⟨j, rfl⟩ : ∃ j, nr = j + 1 := ⟨nr - 1, by omega⟩
    rw [show j + 1 - 1 = j by omega, halfZ_last] at g1
    exact ⟨lv, g1, g2⟩
end Go.Proofs.Ytjbcgjahfalkaaa


/- Two networks beside one another, from one source to one sink, in plain terms. -/
set_option linter.unusedVariables false
set_option linter.unusedSimpArgs false
namespace Go.Proofs.Ytjbcgjahfalkaaa
open Go.RowKit
theorem right_small {M : Net} (h1 : 2 ≤ M.nodes ∧ M.nodes ≤ 500) (h2 : 1 ≤ M.src ∧ M.src ≤ M.nodes) (h3 : 1 ≤ M.snk ∧ M.snk ≤ M.nodes) (h4 : M.src ≠ M.snk) (hl : M.arcs.length ≤ 2000) (ha : ∀ a ∈ M.arcs, ((1 ≤ a.fr ∧ a.fr ≤ M.nodes) ∧ (1 ≤ a.to ∧ a.to ≤ M.nodes)) ∧ 0 ≤ a.cap ∧ a.cap ≤ 2000000000000000) : M.Right := by
  refine ⟨h1, h2, h3, h4, hl, fun a h => ?_, ?_⟩
  · have := ha a h
    exact ⟨this.1.1, this.1.2, this.2.1⟩
  · have key : ∀ l : List Arc, (∀ a ∈ l, a.cap ≤ 2000000000000000) → (l.map (·.cap)).sum ≤ 2000000000000000 * l.length := by
      intro l
      induction l with
      | nil => intro _; exact Int.le_refl _
      | cons a l ih =>
        intro h
        have e1 := ih fun b hb => h b (by simp [hb])
        have e2 := h a (by simp)
        simp only [List.map_cons, List.sum_cons, List.length_cons]
        omega
    have := key M.arcs fun a h => (ha a h).2.2
    omega
section
variable {N M : Net} (hN : N.Right) (hM : M.Right)
end
end Go.Proofs.Ytjbcgjahfalkaaa
