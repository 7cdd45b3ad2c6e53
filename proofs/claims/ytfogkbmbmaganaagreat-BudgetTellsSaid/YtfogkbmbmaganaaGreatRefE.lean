
/- What is wrong with a network is told by all that is handed it. -/
import Derived.Test.YtfogkbmbmaganaaGreatRefR
import Derived.Test.YtfogkbmbmaganaaGreatLeadN
import Derived.Test.YtfogkbmbmaganaaGreatTblkN
set_option linter.unusedVariables false
set_option linter.unusedSimpArgs false
namespace Go.Proofs.YtfogkbmbmaganaaGreat
open Go.RowKit
end Go.Proofs.YtfogkbmbmaganaaGreat
