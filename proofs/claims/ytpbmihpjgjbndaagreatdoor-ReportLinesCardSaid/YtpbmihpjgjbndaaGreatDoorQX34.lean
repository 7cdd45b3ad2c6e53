/- The engine and the words that all chapters share: several texts in one. -/
import Derived.Test.YtpbmihpjgjbndaaGreatDoorQX32
/- The network of a graph, step by step. -/
set_option linter.unusedVariables false
set_option linter.unusedSimpArgs false
namespace Go.Proofs.YtpbmihpjgjbndaaGreatDoor
open Go.RowKit
end Go.Proofs.YtpbmihpjgjbndaaGreatDoor
/- The pairs of a graph, by walks, and whether edges are a matching. -/
set_option linter.unusedVariables false
set_option linter.unusedSimpArgs false
namespace Go.Proofs.YtpbmihpjgjbndaaGreatDoor
open Go.RowKit
section
variable {X:Cx} {E:Env} {H:Heap}
end
def kb (N:a8) (f:List Int):Prop:=aH N f∧¬ nv N (aM (N.arcs.zip f)) 1 N.snk
end Go.Proofs.YtpbmihpjgjbndaaGreatDoor
