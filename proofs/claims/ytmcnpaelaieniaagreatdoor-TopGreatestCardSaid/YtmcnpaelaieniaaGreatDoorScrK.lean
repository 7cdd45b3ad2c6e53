import Derived.Test.YtmcnpaelaieniaaGreatDoorQX112
/- A part of the proof; see NOTES.md. -/
set_option linter.unusedVariables false
set_option linter.unusedSimpArgs false
namespace Go.Proofs.YtmcnpaelaieniaaGreatDoor
open Go.RowKit
open Lib
section
variable {X:Cx} {ops:List Oper} {Q:dQ} {Sf:Heap}
end
end Go.Proofs.YtmcnpaelaieniaaGreatDoor
