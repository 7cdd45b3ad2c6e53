import Derived.Test.YtmcnpaelaieniaaGreatDoorQX112
import Derived.Test.YtmcnpaelaieniaaGreatDoorQX88
/- A part of the proof; see NOTES.md. -/
set_option linter.unusedVariables false
set_option linter.unusedSimpArgs false
namespace Go.Proofs.YtmcnpaelaieniaaGreatDoor
open Go.RowKit
open Lib
end Go.Proofs.YtmcnpaelaieniaaGreatDoor
