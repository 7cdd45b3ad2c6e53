import Derived.Test.YtmcnpaelaieniaaGreatDoorQX82
import Derived.Test.YtmcnpaelaieniaaGreatDoorQX95
import Derived.Test.YtmcnpaelaieniaaGreatDoorQX110
import Derived.Test.YtmcnpaelaieniaaGreatDoorQX92
/- A part of the proof; see NOTES.md. -/
set_option linter.unusedVariables false
set_option linter.unusedSimpArgs false
namespace Go.Proofs.YtmcnpaelaieniaaGreatDoor
open Go.RowKit
def FR(g:Gr)(sg e:Int)(l:LI):Prop:=
 (o3 g=0/\(sg=112\/sg=116)/\e=0/\∃ (f:LI) (ph wk:Nat),iV (Ex g) f/\Dn (Ex g) 1 (List.replicate (Ex g).arcs.length 0) ph wk f/\l=EN f g.left.toNat g.edges.length)\/
 (o3 g=0/\¬ (sg=112\/sg=116)/\e=1/\l=[])\/
 (o3 g≠0/\e=o3 g/\l=[])
def Gu(g:Gr)(key:FB->Int)(l:LI)(v:Int):Prop:=∃ x∈l,∃ e,g.edges[x.toNat]?=some e/\key e=v
end Go.Proofs.YtmcnpaelaieniaaGreatDoor
