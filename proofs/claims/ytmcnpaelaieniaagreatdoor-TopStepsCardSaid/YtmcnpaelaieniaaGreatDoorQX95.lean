import Derived.Test.YtmcnpaelaieniaaGreatDoorQX82
import Derived.Test.YtmcnpaelaieniaaGreatDoorQX88
import Derived.Test.YtmcnpaelaieniaaGreatDoorQX74
import Derived.Test.YtmcnpaelaieniaaGreatDoorQX107
import Derived.Test.YtmcnpaelaieniaaGreatDoorQF
import Derived.Test.YtmcnpaelaieniaaGreatDoorQX103
import Derived.Test.YtmcnpaelaieniaaGreatDoorQX71
import Derived.Test.YtmcnpaelaieniaaGreatDoorQX100
import Derived.Test.YtmcnpaelaieniaaGreatDoorQX104
/- A part of the proof; see NOTES.md. -/
set_option linter.unusedVariables false
set_option linter.unusedSimpArgs false
namespace Go.Proofs.YtmcnpaelaieniaaGreatDoor
open Go.RowKit
section
variable {N:aO} {ls:LN} {least:Int} {rm:LI} {D:LB}
end
section
variable {N:aO} {ls:LN} {least:Int} {rm:LI} {D:LB}
def More(D D':LB):Prop:=∀ v:Nat,D[v]?=some true->D'[v]?=some true
end
section
variable {N:aO} {rm:LI} {least:Int} {k j:Nat} {lv:LI}
end
structure KS where
 g:LI
 acc:List (LN×Int)
 Ao:OA
 co:Nat
 Ak:OA
 ck:Nat
 xs:LV_
end Go.Proofs.YtmcnpaelaieniaaGreatDoor
