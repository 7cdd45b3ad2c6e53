import Derived.Test.YtmcnpaelaieniaaGreatDoorQX82
/- A part of the proof; see NOTES.md. -/
set_option linter.unusedVariables false
set_option linter.unusedSimpArgs false
namespace Go.Proofs.YtmcnpaelaieniaaGreatDoor
open Go.RowKit
inductive BV (g:Gr) (l:LI):Nat->Prop
 |free (v:Nat):1<=v->(v:Int)<=g.left->¬ Gn g (·.l) l v->BV g l v
 |step (e a:Fu) (x:Int):BV g l e.l.toNat->e∈g.edges->x∈l->g.edges[x.toNat]?=some a->a.r=e.r->BV g l a.l.toNat
def Gf(g:Gr)(l:LI)(w:Nat):Prop:=∃ e∈g.edges,BV g l e.l.toNat/\e.r=w
end Go.Proofs.YtmcnpaelaieniaaGreatDoor
