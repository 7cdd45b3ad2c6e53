
/- Networks turned, and the greatest cut of a flow. -/
import Derived.Test.YtjbcgjahfalkaaaQF
import Derived.Test.YtjbcgjahfalkaaaQB
set_option linter.unusedVariables false
set_option linter.unusedSimpArgs false
namespace Go.Proofs.Ytjbcgjahfalkaaa
open Go.RowKit
end Go.Proofs.Ytjbcgjahfalkaaa
