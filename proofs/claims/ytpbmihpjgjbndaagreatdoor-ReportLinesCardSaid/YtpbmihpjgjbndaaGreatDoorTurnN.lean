/- Networks turned, and the greatest cut of a flow. -/
import Derived.Test.YtpbmihpjgjbndaaGreatDoorQF
import Derived.Test.YtpbmihpjgjbndaaGreatDoorQB
set_option linter.unusedVariables false
set_option linter.unusedSimpArgs false
namespace Go.Proofs.YtpbmihpjgjbndaaGreatDoor
open Go.RowKit
end Go.Proofs.YtpbmihpjgjbndaaGreatDoor
