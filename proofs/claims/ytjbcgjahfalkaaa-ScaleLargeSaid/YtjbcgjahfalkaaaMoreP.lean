
/- Networks with arcs more, and with more capacity, in plain terms. -/
import Derived.Test.YtjbcgjahfalkaaaQX7
set_option linter.unusedVariables false
set_option linter.unusedSimpArgs false
namespace Go.Proofs.Ytjbcgjahfalkaaa
open Go.RowKit
theorem exZ_noughts : ∀ (l : List Arc) (v : Int), exZ (l.zip (List.replicate l.length 0)) v = 0
  | [], _ => rfl
  | a :: l, v => by
    have := exZ_noughts l v
    unfold exZ at this ⊢
    simp only [List.length_cons, List.replicate_succ, List.zip_cons_cons, List.map_cons, List.sum_cons, ite_self]
    omega
end Go.Proofs.Ytjbcgjahfalkaaa
