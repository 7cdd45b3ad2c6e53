
/- Layer 1: what Sum answers: for every row of numbers; and what its closure does. -/
import Derived.Test.YtdhenmmmkdhonaaQB
set_option linter.unusedVariables false
set_option linter.unusedSimpArgs false
namespace Go.Proofs.Ytdhenmmmkdhonaa
open Go.RowKit

/-- A row's sum, or that it goes beyond. -/
def sumL : Int → List Int → Int × Int
  | n, [] => (n, 0)
  | n, x :: l => if inB (n + x) then sumL (n + x) l else (0, 3)
end Go.Proofs.Ytdhenmmmkdhonaa
