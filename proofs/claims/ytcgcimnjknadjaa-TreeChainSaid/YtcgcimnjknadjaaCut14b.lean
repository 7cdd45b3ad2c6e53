
/- Chapter 14's cuts of raw numbers. -/
import Derived.Test.YtcgcimnjknadjaaCut14
set_option linter.unusedVariables false
set_option linter.unusedSimpArgs false
namespace Go.Proofs.Ytcgcimnjknadjaa
open Go.RowKit
/-- A cut: nodes that rise, the source among them, the sink not. -/
structure IsCut (N : Net) (s : List Int) : Prop where
  rise : s.Pairwise (· < ·)
  rng : ∀ x ∈ s, 1 ≤ x ∧ x ≤ N.nodes
  src : N.src ∈ s
  snk : N.snk ∉ s
theorem rise_app {s : List Int} {v : Int} (h : s.Pairwise (· < ·)) (hl : ∀ x ∈ s, x < v) : (s ++ [v]).Pairwise (· < ·) := by
  rw [List.pairwise_append]
  exact ⟨h, List.pairwise_singleton _ _, fun a ha b hb => by rw [List.mem_singleton.1 hb]; exact hl a ha⟩
end Go.Proofs.Ytcgcimnjknadjaa
