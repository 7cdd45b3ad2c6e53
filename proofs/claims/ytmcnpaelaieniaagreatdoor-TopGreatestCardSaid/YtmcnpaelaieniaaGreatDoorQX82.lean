import Derived.Test.YtmcnpaelaieniaaGreatDoorQX80
import Derived.Test.YtmcnpaelaieniaaGreatDoorQX93
import Derived.Test.YtmcnpaelaieniaaGreatDoorQX109
import Derived.Test.YtmcnpaelaieniaaGreatDoorQX90
/- A part of the proof; see NOTES.md. -/
set_option linter.unusedVariables false
set_option linter.unusedSimpArgs false
namespace Go.Proofs.YtmcnpaelaieniaaGreatDoor
open Go.RowKit
def FM(g:Gr)(sg e:Int)(l:LI):Prop:=
 (o3 g=0/\(sg=112\/sg=116)/\e=0/\∃ (f:LI) (ph wk:Nat),gD (Es g) f/\Dn (Es g) 1 (List.replicate (Es g).arcs.length 0) ph wk f/\l=Eh f g.left.toNat g.edges.length)\/
 (o3 g=0/\¬ (sg=112\/sg=116)/\e=1/\l=[])\/
 (o3 g≠0/\e=o3 g/\l=[])
def Gn(g:Gr)(key:Fu->Int)(l:LI)(v:Int):Prop:=∃ x∈l,∃ e,g.edges[x.toNat]?=some e/\key e=v
end Go.Proofs.YtmcnpaelaieniaaGreatDoor
