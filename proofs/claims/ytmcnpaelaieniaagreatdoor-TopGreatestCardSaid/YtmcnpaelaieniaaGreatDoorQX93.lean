import Derived.Test.YtmcnpaelaieniaaGreatDoorQX80
import Derived.Test.YtmcnpaelaieniaaGreatDoorQX87
import Derived.Test.YtmcnpaelaieniaaGreatDoorQX73
import Derived.Test.YtmcnpaelaieniaaGreatDoorQX105
import Derived.Test.YtmcnpaelaieniaaGreatDoorQF
import Derived.Test.YtmcnpaelaieniaaGreatDoorQX101
import Derived.Test.YtmcnpaelaieniaaGreatDoorQX70
import Derived.Test.YtmcnpaelaieniaaGreatDoorQX98
import Derived.Test.YtmcnpaelaieniaaGreatDoorQX102
/- A part of the proof; see NOTES.md. -/
set_option linter.unusedVariables false
set_option linter.unusedSimpArgs false
namespace Go.Proofs.YtmcnpaelaieniaaGreatDoor
open Go.RowKit
section
variable {N:aU} {ls:LN} {least:Int} {rm:LI} {D:LB}
end
section
variable {N:aU} {ls:LN} {least:Int} {rm:LI} {D:LB}
def More(D D':LB):Prop:=∀ v:Nat,D[v]?=some true->D'[v]?=some true
end
section
variable {N:aU} {rm:LI} {least:Int} {k j:Nat} {lv:LI}
end
structure KS where
 g:LI
 acc:List (LN×Int)
 Ao:OA
 co:Nat
 Ak:OA
 ck:Nat
 xs:LV_
end Go.Proofs.YtmcnpaelaieniaaGreatDoor
