
/- A path of arcs, in plain terms. -/
import Derived.Test.YtdhenmmmkdhonaaRiseP
set_option linter.unusedVariables false
set_option linter.unusedSimpArgs false
namespace Go.Proofs.Ytdhenmmmkdhonaa
open Go.RowKit
section
variable {cs : List Int} {mo : Int}
end
end Go.Proofs.Ytdhenmmmkdhonaa
