/- Whether edges are a matching. -/
import Derived.Test.YtpbmihpjgjbndaaGreatDoorQX32
set_option linter.unusedVariables false
set_option linter.unusedSimpArgs false
namespace Go.Proofs.YtpbmihpjgjbndaaGreatDoor
open Go.RowKit
end Go.Proofs.YtpbmihpjgjbndaaGreatDoor
