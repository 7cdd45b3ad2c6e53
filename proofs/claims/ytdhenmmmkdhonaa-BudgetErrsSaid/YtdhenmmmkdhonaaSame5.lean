
/- Two rows that are the same. -/
import Derived.Test.YtdhenmmmkdhonaaQF
set_option linter.unusedVariables false
set_option linter.unusedSimpArgs false
namespace Go.Proofs.Ytdhenmmmkdhonaa
open Go.RowKit
theorem Net.Right.fits2 {N : Net} (h : N.Right) : N.Fits := by
  have h1 := h.nodes
  have h2 := h.src
  have h3 := h.snk
  have h4 := h.len
  refine ⟨by unfold inB; omega, by unfold inB; omega, by unfold inB; omega, by omega, fun a ha => ?_⟩
  have := h.arc a ha
  have := h.cap ha
  unfold inB
  omega
end Go.Proofs.Ytdhenmmmkdhonaa
