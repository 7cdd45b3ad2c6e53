
/- Networks with arcs more, and with more capacity, in plain terms. -/
import Derived.Test.YtjbcgjahfalkaaaRiseP
set_option linter.unusedVariables false
set_option linter.unusedSimpArgs false
namespace Go.Proofs.Ytjbcgjahfalkaaa
open Go.RowKit
end Go.Proofs.Ytjbcgjahfalkaaa
