
/- Networks with arcs more, and with more capacity, in plain terms. -/
import Derived.Test.YtjbcgjahfalkaaaRiseP
set_option linter.unusedVariables false
set_option linter.unusedSimpArgs false
namespace Go.Proofs.Ytjbcgjahfalkaaa
open Go.RowKit
theorem arcs_cap {l : List Arc} {k : Nat} {a : Arc} (h : l[k]? = some a) : (arcs l)[k * 3 + 2]? = some (.int .i64 a.cap) := by
  induction l generalizing k with
  | nil => simp at h
  | cons b l ih =>
    cases k with
    | zero =>
      simp only [List.getElem?_cons_zero, Option.some.injEq] at h
      subst h; rfl
    | succ k =>
      have := ih (by simpa using h)
      show (Value.int .i64 b.fr :: .int .i64 b.to :: .int .i64 b.cap :: arcs l)[(k + 1) * 3 + 2]? = _
      rw [show (k + 1) * 3 + 2 = (k * 3 + 2) + 1 + 1 + 1 by omega]
      simpa using this
end Go.Proofs.Ytjbcgjahfalkaaa
