/- The engine and the words that all chapters share: several texts in one. -/
import Derived.Test.YtpbmihpjgjbndaaGreatDoorQX41
import Derived.Test.YtpbmihpjgjbndaaGreatDoorQB
/- Networks read line by line: the program's words. -/
set_option linter.unusedVariables false
set_option linter.unusedSimpArgs false
namespace Go.Proofs.YtpbmihpjgjbndaaGreatDoor
open Go.RowKit
end Go.Proofs.YtpbmihpjgjbndaaGreatDoor
/- Networks read line by line: a line of the problem, of an end, of an arc. -/
set_option linter.unusedVariables false
set_option linter.unusedSimpArgs false
namespace Go.Proofs.YtpbmihpjgjbndaaGreatDoor
open Go.RowKit
end Go.Proofs.YtpbmihpjgjbndaaGreatDoor
/- Networks read line by line: a line of an end. -/
set_option linter.unusedVariables false
set_option linter.unusedSimpArgs false
namespace Go.Proofs.YtpbmihpjgjbndaaGreatDoor
open Go.RowKit
end Go.Proofs.YtpbmihpjgjbndaaGreatDoor
