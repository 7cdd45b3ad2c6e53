
/- Chapter 14's flows of raw numbers: the whole. -/
import Derived.Test.YtjbcgjahfalkaaaRouted
set_option linter.unusedVariables false
set_option linter.unusedSimpArgs false
namespace Go.Proofs.Ytjbcgjahfalkaaa
open Go.RowKit
theorem addW_app (m : Int) (i : Nat) : ∀ (W : List Nat) (f : List Int), addW m (W ++ [i]) f = (addW m W f).set i ((addW m W f).getD i 0 + m)
  | [], _ => rfl
  | j :: W, f => by simp only [List.cons_append, addW]; exact addW_app m i W _
end Go.Proofs.Ytjbcgjahfalkaaa
