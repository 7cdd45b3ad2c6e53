/- The engine: a range over a function whose own cell, a number, changes from round to round. -/
import Derived.Test.YtpbmihpjgjbndaaGreatDoorQD
set_option linter.unusedVariables false
set_option linter.unusedSimpArgs false
namespace Go.Proofs.YtpbmihpjgjbndaaGreatDoor
open Go.RowKit
section
variable {w0:World} {M:List Nat} {n:Nat} {E:Env} {R:Exit→Act→World→Prop}
end
section
variable {G:Nat→World→Prop} {n:Nat} {S:Heap} {E:Env} {k:Nat} {M:List Nat} {R:Exit→Act→World→Prop}
end
end Go.Proofs.YtpbmihpjgjbndaaGreatDoor
