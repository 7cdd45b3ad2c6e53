
/- The least and the greatest cut of a flow that no track leads on, in plain terms. -/
import Derived.Test.YtjbcgjahfalkaaaTurnN
import Derived.Test.YtjbcgjahfalkaaaQX4
import Derived.Test.YtjbcgjahfalkaaaQF
set_option linter.unusedVariables false
set_option linter.unusedSimpArgs false
namespace Go.Proofs.Ytjbcgjahfalkaaa
open Go.RowKit
open Classical in
noncomputable def slackL (s : List Int) (ps : List (Arc × Int)) : List Int := ps.map fun p => (if p.1.fr ∈ s ∧ p.1.to ∉ s then p.1.cap - p.2 else 0) + (if p.1.fr ∉ s ∧ p.1.to ∈ s then p.2 else 0)
theorem slack_sum (s : List Int) : ∀ ps : List (Arc × Int), (slackL s ps).sum = capZ s (ps.map (·.1)) - outIn s ps
  | [] => by simp [slackL, capZ, outIn]
  | p :: ps => by
    have ih := slack_sum s ps
    unfold slackL capZ outIn at *
    simp only [List.map_cons, List.sum_cons]
    by_cases h1 : p.1.fr ∈ s <;> by_cases h2 : p.1.to ∈ s <;> simp only [h1, h2, if_true, if_false, and_true, and_false, not_true, not_false_iff] <;> omega
section
variable {N : Net} {f : List Int} {n : Nat} {l : List Bool}
end
theorem weak_cut {N : Net} (hR : N.Right) {f s : List Int} (hf : IsFlow N f) (hs : IsCut N s) : exZ (N.arcs.zip f) N.snk ≤ capZ s N.arcs := by
  have h1 := slack_sum s (N.arcs.zip f)
  rw [← value_cut hR hf hs, show (N.arcs.zip f).map (·.1) = N.arcs from List.map_fst_zip (by have := hf.len; omega)] at h1
  have h2 := sum_nonneg (slackL s (N.arcs.zip f)) fun x hx => by
    obtain ⟨p, hp, rfl⟩ := List.mem_map.1 hx
    have hr := hf.all p hp
    split <;> split <;> omega
  omega
end Go.Proofs.Ytjbcgjahfalkaaa
