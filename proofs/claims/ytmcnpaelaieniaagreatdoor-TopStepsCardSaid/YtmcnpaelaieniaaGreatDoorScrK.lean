import Derived.Test.YtmcnpaelaieniaaGreatDoorQX113
/- A part of the proof; see NOTES.md. -/
set_option linter.unusedVariables false
set_option linter.unusedSimpArgs false
namespace Go.Proofs.YtmcnpaelaieniaaGreatDoor
open Go.RowKit
open Lib
section
variable {X:Cx} {ops:List Oper} {Q:dU} {Sf:Heap}
end
end Go.Proofs.YtmcnpaelaieniaaGreatDoor
