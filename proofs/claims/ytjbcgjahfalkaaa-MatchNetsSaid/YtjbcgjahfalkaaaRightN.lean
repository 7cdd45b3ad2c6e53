
/- Whether edges are a matching. -/
import Derived.Test.YtjbcgjahfalkaaaMatchG
set_option linter.unusedVariables false
set_option linter.unusedSimpArgs false
namespace Go.Proofs.Ytjbcgjahfalkaaa
open Go.RowKit
structure IsMatch (g : Gr) (l : List Int) : Prop where
  rise : l.Pairwise (· < ·)
  rng : ∀ x ∈ l, 0 ≤ x ∧ x < g.edges.length
  apart : l.Pairwise fun x y => ∀ a b, g.edges[x.toNat]? = some a → g.edges[y.toNat]? = some b → a.l ≠ b.l ∧ a.r ≠ b.r
theorem IsMatch.snoc {g : Gr} {l : List Int} {x : Int} {e : Edg} (he : g.edges[x.toNat]? = some e) : IsMatch g (l ++ [x]) ↔ IsMatch g l ∧ (∀ y ∈ l, y < x) ∧ 0 ≤ x ∧ x < g.edges.length ∧ ∀ y ∈ l, ∀ a, g.edges[y.toNat]? = some a → a.l ≠ e.l ∧ a.r ≠ e.r := by
  constructor
  · intro h
    obtain ⟨h1, _, h3⟩ := List.pairwise_append.1 h.rise
    obtain ⟨k1, _, k3⟩ := List.pairwise_append.1 h.apart
    have hx := h.rng x (by simp)
    exact ⟨⟨h1, fun y hy => h.rng y (by simp [hy]), k1⟩, fun y hy => h3 y hy x (by simp), hx.1, hx.2, fun y hy a ha => k3 y hy x (by simp) a e ha he⟩
  · rintro ⟨h, h1, h2, h3, h4⟩
    refine ⟨rise_app h.rise h1, fun y hy => ?_, ?_⟩
    · rcases List.mem_append.1 hy with hy | hy
      · exact h.rng y hy
      · rw [List.mem_singleton.1 hy]; exact ⟨h2, h3⟩
    · rw [List.pairwise_append]
      refine ⟨h.apart, List.pairwise_singleton _ _, fun y hy z hz a b ha hb => ?_⟩
      rw [List.mem_singleton.1 hz, he] at hb
      simp only [Option.some.injEq] at hb
      rw [← hb]
      exact h4 y hy a ha
theorem IsMatch.pre {g : Gr} {l m : List Int} (h : IsMatch g (l ++ m)) : IsMatch g l :=
  ⟨(List.pairwise_append.1 h.rise).1, fun y hy => h.rng y (by simp [hy]), (List.pairwise_append.1 h.apart).1⟩
end Go.Proofs.Ytjbcgjahfalkaaa
