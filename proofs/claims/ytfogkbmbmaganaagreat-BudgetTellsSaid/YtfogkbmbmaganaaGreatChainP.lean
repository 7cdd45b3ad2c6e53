
/- A path of arcs, in plain terms. -/
import Derived.Test.YtfogkbmbmaganaaGreatQX20
set_option linter.unusedVariables false
set_option linter.unusedSimpArgs false
namespace Go.Proofs.YtfogkbmbmaganaaGreat
open Go.RowKit
section
variable {cs : List Int} {mo : Int}
end
end Go.Proofs.YtfogkbmbmaganaaGreat
