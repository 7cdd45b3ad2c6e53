/- The engine and the words that all chapters share: several texts in one. -/
import Derived.Test.YtpbmihpjgjbndaaGreatDoorQC
import Derived.Test.YtpbmihpjgjbndaaGreatDoorQB
import Derived.Laws.Pointers
/- A session: its memory, and whether it has what is asked for. -/
set_option linter.unusedVariables false
set_option linter.unusedSimpArgs false
namespace Go.Proofs.YtpbmihpjgjbndaaGreatDoor
open Go.RowKit
end Go.Proofs.YtpbmihpjgjbndaaGreatDoor
/- A session that has no network yet. -/
set_option linter.unusedVariables false
set_option linter.unusedSimpArgs false
namespace Go.Proofs.YtpbmihpjgjbndaaGreatDoor
open Go.RowKit
section
variable {X:Cx} {E:Env} {H:Heap}
end
end Go.Proofs.YtpbmihpjgjbndaaGreatDoor
