import Derived.Test.YtmcnpaelaieniaaGreatDoorQX91
import Derived.Test.YtmcnpaelaieniaaGreatDoorOfR
import Derived.Test.YtmcnpaelaieniaaGreatDoorQF
import Derived.Test.YtmcnpaelaieniaaGreatDoorQX80
import Derived.Test.YtmcnpaelaieniaaGreatDoorQX98
import Derived.Test.YtmcnpaelaieniaaGreatDoorQX66
import Derived.Test.YtmcnpaelaieniaaGreatDoorQX82
import Derived.Test.YtmcnpaelaieniaaGreatDoorQB
import Derived.Test.YtmcnpaelaieniaaGreatDoorQC
import Derived.Test.YtmcnpaelaieniaaGreatDoorQX102
import Derived.Test.YtmcnpaelaieniaaGreatDoorQX87
/- A part of the proof; see NOTES.md. -/
set_option linter.unusedVariables false
set_option linter.unusedSimpArgs false
namespace Go.Proofs.YtmcnpaelaieniaaGreatDoor
open Go.RowKit
section
variable {g:Gr} {l sl sr:LI}
end
section
variable {g:Gr} {nl nr:Nat} {f:LI}
end
structure FW (g:Gr) (l sl sr:LI):Prop where
 isl:fS g.left sl
 isr:fS g.right sr
 inl:∀ v:Nat,1<=v->(v:Int)<=g.left->((v:Int)∈sl↔¬ BV g l v)
 inr:∀ w:Nat,1<=w->(w:Int)<=g.right->((w:Int)∈sr↔Gf g l w)
def BL(N:aU):Int:=2+(FA N.nodes:Nat)
def Fj(N:aU):Int:=20000*(N.nodes+N.arcs.length)*BL N*BL N
def EX(N:aU):Int:=(N.nodes-1)*Fj N
end Go.Proofs.YtmcnpaelaieniaaGreatDoor
