import Derived.Test.YtmcnpaelaieniaaGreatDoorQX84
/- A part of the proof; see NOTES.md. -/
set_option linter.unusedVariables false
set_option linter.unusedSimpArgs false
namespace Go.Proofs.YtmcnpaelaieniaaGreatDoor
open Go.RowKit
inductive Cm (g:Gr) (l:LI):Nat->Prop
 |free (v:Nat):1<=v->(v:Int)<=g.left->¬ Gu g (·.l) l v->Cm g l v
 |step (e a:FB) (x:Int):Cm g l e.l.toNat->e∈g.edges->x∈l->g.edges[x.toNat]?=some a->a.r=e.r->Cm g l a.l.toNat
def Gc(g:Gr)(l:LI)(w:Nat):Prop:=∃ e∈g.edges,Cm g l e.l.toNat/\e.r=w
end Go.Proofs.YtmcnpaelaieniaaGreatDoor
