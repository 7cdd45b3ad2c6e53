import Derived.Test.YtmcnpaelaieniaaGreatDoorQB
import Derived.RangeFuncRecord
import Derived.RangeFuncCalls
import Derived.RangeFuncIn
import Derived.RangeFuncSeq
/- A part of the proof; see NOTES.md. -/
set_option linter.unusedVariables false
set_option linter.unusedSimpArgs false
namespace Go.Proofs.YtmcnpaelaieniaaGreatDoor
open Go.RowKit
variable {X:Cx} {Q:dQ} {E E':Env} {H:Heap}
structure Nd where
 up:Option Nat
 l:Option Nat
 r:Option Nat
 size:Int
 value:Int
 least:Int
 most:Int
 add:Int
 turned:Bool
deriving Inhabited
abbrev bQ:=Nat->Nd
abbrev dc(n:Int):Int:=IntKind.i64.wrap n
def enc:Option Nat->Int
 |none=>-1
 |some x=>(x:Int)
def eh(d:Nd):LV_:=[.int .i64 (enc d.up),.int .i64 (enc d.l),.int .i64 (enc d.r),.int .i64 d.size,.int .i64 d.value,.int .i64 d.least,.int .i64 d.most,.int .i64 d.add,.bool d.turned]
def fC(N:Nat)(ns:bQ):LV_:=(List.range N).flatMap λ x=>eh (ns x)
def gy(ns:bQ)(x:Nat)(d:Nd):bQ:=λ y=>if y=x then d else ns y
theorem dg(ns:bQ)(x:Nat)(d:Nd):gy ns x d x=d:=if_pos rfl
theorem eG(ns:bQ){x y:Nat}(d:Nd)(h:y≠x):gy ns x d y=ns y:=if_neg h
theorem eP(N:Nat)(ns:bQ):(fC N ns).length=N*9:=by
 unfold fC
 induction N with
 |zero=>rfl
 |succ N ih=>rw[Ir,List.flatMap_append,Gx,ih];simp[eh];omega
theorem rd(N:Nat)(ns:bQ):fC (N+1) ns=fC N ns++eh (ns N):=by
 unfold fC;rw[Ir,List.flatMap_append];simp
theorem iC{N x f:Nat}{ns:bQ}(hx:x<N)(hf:f<9):(fC N ns)[x*9+f]?=(eh (ns x))[f]?:=by
 induction N with
 |zero=>omega
 |succ N ih=>
  rw[rd];by_cases e:x=N
  ·subst e;rw[List.getElem?_append_right (by rw[eP];omega),eP]
   congr 1;omega
  ·rw[Hi (by rw[eP];omega)];exact ih (by omega)
theorem Bp{N x f:Nat}{ns:bQ}{d:Nd}{v:Value}(hx:x<N)(hf:f<9)(hd:(eh (ns x)).set f v=eh d):(fC N ns).set (x*9+f) v=fC N (gy ns x d):=by
 apply Id
 intro i;by_cases hi:i<N*9
 ·have hy:i/9<N:=by omega
  have e:i=(i/9)*9+i%9:=by omega
  rw[e,iC (ns:=gy ns x d) hy (by omega)];by_cases c:x*9+f=i/9*9+i%9
  ·have c1:i/9=x:=by omega
   have c2:i%9=f:=by omega
   rw[c1,c2,dg,<- hd,GH (by rw[eP];omega),GH (by simp[eh];omega)]
  ·rw[List.getElem?_set_ne c,iC hy (by omega)];by_cases c1:i/9=x
   ·rw[c1,dg,<- hd,GJ (by omega)]
   ·rw[eG _ _ c1]
 ·rw[G6 (by rw[Ha,eP];omega),G6 (by rw[eP];omega)]
def ju(d:Nd)(side:Nat):Option Nat:=if side=0 then d.l else d.r
def cJ(d:Nd)(side:Nat)(c:Option Nat):Nd:=if side=0 then { d with l:=c } else { d with r:=c }
def qt(d:Nd)(add:Int)(turn:Bool):Nd:=
 { d with value:=dc (d.value+add),least:=dc (d.least+add),most:=dc (d.most+add),add:=dc (d.add+add),l:=if turn then d.r else d.l,r:=if turn then d.l else d.r,turned:=if turn then !d.turned else d.turned }
def fU(ns:bQ)(c:Option Nat)(add:Int)(turn:Bool):bQ:=match c with
 |none=>ns
 |some x=>gy ns x (qt (ns x) add turn)
def dZ(ns:bQ)(x:Nat):bQ:=
 let ns1:=fU ns (ns x).l (ns x).add (ns x).turned
 let ns2:=fU ns1 (ns x).r (ns1 x).add (ns1 x).turned
 gy ns2 x { ns2 x with add:=0,turned:=false }
def ve(a b:Int):Int:=if b<a then b else a
def xS(a b:Int):Int:=if b>a then b else a
def fR(ns:bQ)(x:Nat)(c:Option Nat):bQ:=match c with
 |none=>ns
 |some c=>gy ns x { ns x with size:=dc ((ns x).size+(ns c).size),least:=ve (ns x).least (ns c).least,most:=xS (ns x).most (ns c).most }
def fk(ns:bQ)(x:Nat):bQ:=fR (fR (gy ns x { ns x with size:=1,least:=(ns x).value,most:=(ns x).value }) x (ns x).l) x (ns x).r
def dG(ns:bQ)(x:Nat)(p:Nat):Nat:=if (ns p).r=some x then 1 else 0
def eJ(ns:bQ)(c:Option Nat)(b side:Nat):bQ:=
 let ns1:=gy ns b (cJ (ns b) side c)
 match c with
 |none=>ns1
 |some x=>gy ns1 x { ns1 x with up:=some b }
def mJ(ns:bQ)(p:Nat):Nat:=match (ns p).up with
 |none=>0
 |some g=>dG ns p g
def Bu(ns:bQ)(g:Option Nat)(top x:Nat):bQ:=match g with
 |none=>ns
 |some g=>gy ns g (cJ (ns g) top (some x))
def c9(ns:bQ)(x p:Nat):bQ:=
 let at_:=dG ns x p
 let ns1:=eJ ns (ju (ns x) (1-at_)) p at_
 let ns2:=eJ ns1 (some p) x (1-at_)
 let ns3:=gy ns2 x { ns2 x with up:=(ns p).up }
 let ns4:=Bu ns3 (ns p).up (mJ ns p) x
 fk (fk ns4 p) x
def sM(N:Nat):Option Nat->Prop
 |none=>True
 |some x=>x<N
structure dD (N:Nat) (ns:bQ):Prop where
 up:∀ x,x<N->sM N (ns x).up
 l:∀ x,x<N->sM N (ns x).l
 r:∀ x,x<N->sM N (ns x).r
theorem dD.upd{N:Nat}{ns:bQ}(h:dD N ns){x:Nat}{d:Nd}(h1:sM N d.up)(h2:sM N d.l)(h3:sM N d.r):dD N (Proofs.YtmcnpaelaieniaaGreatDoor.gy ns x d):=by
 refine⟨λ y hy=>?_,λ y hy=>?_,λ y hy=>?_⟩<;>unfold Proofs.YtmcnpaelaieniaaGreatDoor.gy<;>split<;>first|assumption|exact h.up y hy|exact h.l y hy|exact h.r y hy
theorem dD.lay{N:Nat}{ns:bQ}(h:dD N ns){c:Option Nat}(hc:sM N c)(a:Int)(t:Bool):dD N (fU ns c a t):=by
 cases c with
 |none=>exact h
 |some x=>
  refine h.upd (h.up x hc) ?_ ?_<;>cases t<;>first|exact h.l x hc|exact h.r x hc
theorem dD.push{N:Nat}{ns:bQ}(h:dD N ns){x:Nat}(hx:x<N):dD N (dZ ns x):=by
 have h1:=h.lay (h.l x hx) (ns x).add (ns x).turned;have h2:=h1.lay (h.r x hx) (fU ns (ns x).l (ns x).add (ns x).turned x).add (fU ns (ns x).l (ns x).add (ns x).turned x).turned;exact h2.upd (h2.up x hx) (h2.l x hx) (h2.r x hx)
theorem dD.pullC{N:Nat}{ns:bQ}(h:dD N ns){x:Nat}(hx:x<N)(c:Option Nat):dD N (Proofs.YtmcnpaelaieniaaGreatDoor.fR ns x c):=by
 cases c with
 |none=>exact h
 |some c=>exact h.upd (h.up x hx) (h.l x hx) (h.r x hx)
theorem dD.pull{N:Nat}{ns:bQ}(h:dD N ns){x:Nat}(hx:x<N):dD N (fk ns x):=
 dD.pullC (dD.pullC (h.upd (d:={ ns x with size:=1,least:=(ns x).value,most:=(ns x).value }) (h.up x hx) (h.l x hx) (h.r x hx)) hx _) hx _
theorem dD.down{N:Nat}{ns:bQ}(h:dD N ns){x:Nat}(hx:x<N)(s:Nat):sM N (Proofs.YtmcnpaelaieniaaGreatDoor.ju (ns x) s):=by
 unfold Proofs.YtmcnpaelaieniaaGreatDoor.ju;split
 ·exact h.l x hx
 ·exact h.r x hx
theorem dD.setDown{N:Nat}{ns:bQ}(h:dD N ns){x:Nat}(hx:x<N){c:Option Nat}(hc:sM N c)(s:Nat):dD N (Proofs.YtmcnpaelaieniaaGreatDoor.gy ns x (Proofs.YtmcnpaelaieniaaGreatDoor.cJ (ns x) s c)):=by
 unfold Proofs.YtmcnpaelaieniaaGreatDoor.cJ;split
 ·exact h.upd (h.up x hx) hc (h.r x hx)
 ·exact h.upd (h.up x hx) (h.l x hx) hc
theorem dD.hang{N:Nat}{ns:bQ}(h:dD N ns){c:Option Nat}(hc:sM N c){b:Nat}(hb:b<N)(s:Nat):dD N (eJ ns c b s):=by
 have h1:=h.setDown hb hc s
 cases c with
 |none=>exact h1
 |some x=>exact h1.upd hb (h1.l x hc) (h1.r x hc)
theorem dD.setG{N:Nat}{ns:bQ}(h:dD N ns){g:Option Nat}(hg:sM N g){x:Nat}(hx:x<N)(t:Nat):dD N (Bu ns g t x):=by
 cases g with
 |none=>exact h
 |some g=>exact h.setDown hg (c:=some x) hx t
theorem dD.rotate{N:Nat}{ns:bQ}(h:dD N ns){x p:Nat}(hx:x<N)(hp:p<N):dD N (c9 ns x p):=by
 have h1:=h.hang (h.down hx (1-dG ns x p)) hp (dG ns x p);have h2:=h1.hang (c:=some p) hp hx (1-dG ns x p);have h3:=h2.upd (x:=x) (d:={ eJ (eJ ns (Proofs.YtmcnpaelaieniaaGreatDoor.ju (ns x) (1-dG ns x p)) p (dG ns x p)) (some p) x (1-dG ns x p) x with up:=(ns p).up }) (h.up p hp) (h2.l x hx) (h2.r x hx);exact ((h3.setG (h.up p hp) hx (mJ ns p)).pull hp).pull hx
def eo(ns:bQ):LN->bQ
 |[]=>ns
 |x::l=>eo (dZ ns x) l
def Up(ns:bQ):Nat->LN->Prop
 |_,[]=>False
 |x,[y]=>x=y/\(ns x).up=none
 |x,y::z::l=>x=y/\(ns x).up=some z/\Up ns z (z::l)
inductive zL:bQ->Nat->bQ->Nat->Prop
 |done {ns:bQ} {x:Nat}:(ns x).up=none->zL ns x ns 0
 |one {ns ns':bQ} {x p k:Nat}:(ns x).up=some p->(ns p).up=none->zL (c9 ns x p) x ns' k->zL ns x ns' (k+1)
 |line {ns ns':bQ} {x p g q k:Nat}:(ns x).up=some p->(ns p).up=some g->dG ns x p=dG ns p g->((c9 ns p g) x).up=some q->zL (c9 (c9 ns p g) x q) x ns' k->zL ns x ns' (k+2)
 |bent {ns ns':bQ} {x p g q k:Nat}:(ns x).up=some p->(ns p).up=some g->dG ns x p≠dG ns p g->((c9 ns x p) x).up=some q->zL (c9 (c9 ns x p) x q) x ns' k->zL ns x ns' (k+2)
def eI(ns:bQ)(x:Nat)(ns':bQ)(k:Nat):Prop:=∃ path k1,Up ns x path/\path.length<=10000/\zL (eo ns path.reverse) x ns' k1/\k=path.length+k1
inductive Em (side:Nat):bQ->Nat->bQ->Nat->Nat->Prop
 |done {ns:bQ} {x:Nat}:ju (ns x) side=none->Em side ns x ns x 0
 |go {ns ns':bQ} {x c y k:Nat}:ju (ns x) side=some c->Em side (dZ ns c) c ns' y k->Em side ns x ns' y (k+1)
def E0(side:Nat)(ns:bQ)(x:Nat)(ns':bQ)(y k:Nat):Prop:=∃ ns1 k1 k2,Em side ns x ns1 y k1/\eI ns1 y ns' k2/\k=k1+k2
def Edge(side:Nat)(ns:bQ)(x:Nat)(ns':bQ)(y k:Nat):Prop:=∃ ns1 k1 k2,eI ns x ns1 k1/\E0 side ns1 x ns' y k2/\k=k1+k2
def ahead(ns:bQ)(x:Nat):Int:=match (ns x).l with
 |none=>0
 |some c=>(ns c).size
inductive z4:bQ->Nat->Int->bQ->Nat->Nat->Prop
 |left {ns ns':bQ} {x c y k:Nat} {p:Int}:p<ahead ns x->(ns x).l=some c->z4 (dZ ns c) c p ns' y k->z4 ns x p ns' y (k+1)
 |here {ns ns':bQ} {x k:Nat} {p:Int}:p=ahead ns x->eI ns x ns' k->z4 ns x p ns' x k
 |right {ns ns':bQ} {x c y k:Nat} {p:Int}:ahead ns x<p->(ns x).r=some c->z4 (dZ ns c) c (dc (dc (p-ahead ns x)-1)) ns' y k->z4 ns x p ns' y (k+1)
inductive BC (want:Int):bQ->Nat->bQ->Nat->Nat->Prop
 |left {ns ns':bQ} {x c y k:Nat}:(ns x).l=some c->(ns c).least=want->BC want (dZ ns c) c ns' y k->BC want ns x ns' y (k+1)
 |here {ns ns':bQ} {x k:Nat}:(∀ c,(ns x).l=some c->(ns c).least≠want)->(ns x).value=want->eI ns x ns' k->BC want ns x ns' x k
 |right {ns ns':bQ} {x c y k:Nat}:(∀ c,(ns x).l=some c->(ns c).least≠want)->(ns x).value≠want->(ns x).r=some c->BC want (dZ ns c) c ns' y k->BC want ns x ns' y (k+1)
theorem dD.rot{N:Nat}{ns ns':bQ}{x k:Nat}(h:zL ns x ns' k)(hx:x<N):dD N ns->dD N ns':=by
 induction h with
 |done _=>exact id
 |one h1 _ _ ih=>exact λ hN=>ih hx (hN.rotate hx (by have:=hN.up _ hx;rw[h1] at this;exact this))
 |line h1 h2 _ h4 _ ih=>
  intro hN;have hp:=hN.up _ hx;rw[h1] at hp;have hg:=hN.up _ hp;rw[h2] at hg;have hN2:=hN.rotate hp hg;have hq:=hN2.up _ hx;rw[h4] at hq;exact ih hx (hN2.rotate hx hq)
 |bent h1 h2 _ h4 _ ih=>
  intro hN;have hp:=hN.up _ hx;rw[h1] at hp;have hN2:=hN.rotate hx hp;have hq:=hN2.up _ hx;rw[h4] at hq;exact ih hx (hN2.rotate hx hq)
theorem Up.lt{N:Nat}{ns:bQ}(hN:dD N ns):∀ {path:LN} {x:Nat},Up ns x path->x<N->∀ y∈path,y<N
 |[],_,h,_,_,_=>h.elim
 |[z],x,⟨h1,_⟩,hx,y,hy=>by rw[Gy.1 hy,<- h1];exact hx
 |z::z'::l,x,⟨h1,h2,h3⟩,hx,y,hy=>by
  rcases GD.1 hy with rfl|hy
  ·rw[<- h1];exact hx
  ·have:sM N (some z'):=h2▸hN.up x hx;exact Up.lt hN h3 this y hy
theorem dD.pushes{N:Nat}{ns:bQ}(h:dD N ns):∀ {l:LN},(∀ y∈l,y<N)->dD N (Proofs.YtmcnpaelaieniaaGreatDoor.eo ns l)
 |[],_=>h
 |y::l,hl=>dD.pushes (h.push (hl y (by simp))) (l:=l) λ z hz=>hl z (by simp[hz])
theorem dD.splay{N:Nat}{ns ns':bQ}{x k:Nat}(hN:dD N ns)(hx:x<N)(h:eI ns x ns' k):dD N ns':=by
 obtain⟨path,k1,h1,_,h2,_⟩:=h;exact dD.rot h2 hx (hN.pushes λ y hy=>h1.lt hN hx y (by simpa using hy))
theorem dD.dwn{N side:Nat}{ns ns':bQ}{x y k:Nat}(h:Em side ns x ns' y k):x<N->dD N ns->dD N ns'/\y<N:=by
 induction h with
 |done _=>exact λ hx hN=>⟨hN,hx⟩
 |go h1 _ ih=>
  intro hx hN;have hc:=hN.down hx side;rw[h1] at hc;exact ih hc (hN.push hc)
theorem dD.end_{N side:Nat}{ns ns':bQ}{x y k:Nat}(hN:dD N ns)(hx:x<N)(h:E0 side ns x ns' y k):dD N ns'/\y<N:=by
 obtain⟨ns1,k1,k2,h1,h2,_⟩:=h;obtain⟨h3,h4⟩:=dD.dwn h1 hx hN;exact⟨h3.splay h4 h2,h4⟩
theorem dD.edge{N side:Nat}{ns ns':bQ}{x y k:Nat}(hN:dD N ns)(hx:x<N)(h:Edge side ns x ns' y k):dD N ns'/\y<N:=by
 obtain⟨ns1,k1,k2,h1,h2,_⟩:=h;exact (hN.splay hx h1).end_ hx h2
def Fq:UK->Bool
 |.struct _=>false
 |.arr _ _=>false
 |_=>true
def bC(pf gn cap N k:Nat)(ns:bQ):Heap:=
 [blk pf 331 [.slice (some ⟨gn,0,none⟩) N cap,.int .i64 (dc k)],.own (.slice (some ⟨gn,0,none⟩) N cap) 334 9 N (fC N ns)]
theorem mD(a b:Int):dc (dc a+b)=dc (a+b):=by unfold dc;simp only[IntKind.wrap_i64];omega
theorem DF{o:Oper}{t b off n e sz by_ m:Nat}{x ix:Operand}{k:IntKind}{z:Option Value}{uk:UK}{by':Nat}{z':Option Value}(ho:o.op=.indexAddr t x ix)(hx:val E x=some (.pointer (some ⟨b,off,none⟩)))
 (hi:val E ix=some (.int k (m:Int))) (ht:tab t=some ⟨.arr n e,sz,by_,z⟩) (he:tab e=some ⟨uk,1,by',z'⟩) (hm:m<n):gz X o E H (.pointer (some ⟨b,off+m,none⟩)):=by
 intro a w hA hH
 have hu:Tryz.prog.underlying t=some (.array n e):=by
  obtain⟨d,j,hd,_,hu,_⟩:=dJ ht;rw[hd];cases d<;>simp[mt] at hu ⊢;exact hu
 have hsz:=da he w;simp[execOp,ho,hA.val hx,hA.val hi,Instr.indexAt,asIntOf,run_underlying hu,Instr.sureAddr,hsz,Addr.add_at,hm]
theorem ao{o:Oper}{t b off n e sz by_ m:Nat}{x ix:Operand}{k:IntKind}{z:Option Value}{uk:UK}{by':Nat}{z':Option Value}(h:(o.op,val E x,val E ix,tab t,tab e)=(.indexAddr t x ix,some (.pointer (some ⟨b,off,none⟩)),some (.int k (m:Int)),some ⟨.arr n e,sz,by_,z⟩,some ⟨uk,1,by',z'⟩))(hm:m<n):gz X o E H (.pointer (some ⟨b,off+m,none⟩)):=by
 simp only[Hq] at h;exact DF h.1 h.2.1 h.2.2.1 h.2.2.2.1 h.2.2.2.2 hm
theorem AO{o:Oper}{t n e sz by_ m:Nat}{x ix:Operand}{k:IntKind}{z:Option Value}{uk:UK}{by':Nat}{z':Option Value}{cs:LV_}{v:Value}(ho:o.op=.index t x ix)(hx:val E x=some (.agg cs.toArray))
 (hi:val E ix=some (.int k (m:Int))) (ht:tab t=some ⟨.arr n e,sz,by_,z⟩) (he:tab e=some ⟨uk,1,by',z'⟩) (hg:Fq uk=true) (hm:m<n) (hv:cs[m]?=some v):gz X o E H v:=by
 intro a w hA hH
 have hu:Tryz.prog.underlying t=some (.array n e):=by
  obtain⟨d,j,hd,_,hu,_⟩:=dJ ht;rw[hd];cases d<;>simp[mt] at hu ⊢;exact hu
 have hsz:=da he w;have hn:=pD (pP he (λ fs (e:uk=_)=>by subst e;cases hg) (λ n e' (e:uk=_)=>by subst e;cases hg)) w;simp[execOp,ho,hA.val hx,hA.val hi,Instr.index,asIntOf,run_underlying hu,hsz,hm,part,hn,hv]
theorem aQ{o:Oper}{t g x f N cap:Nat}{xo:Operand}{ns:bQ}{v:Value}(k:Nat)(ho:o.op=.load t xo)(hx:val E xo=some (.pointer (some ⟨g,x*9+f,none⟩)))
 (hk:H[k]?=some (.own (.slice (some ⟨g,0,none⟩) N cap) 334 9 N (fC N ns))) {uk:UK} {by':Nat} {z':Option Value} (ht:tab t=some ⟨uk,1,by',z'⟩) (hg:Fq uk=true)
 (hxN:x<N) (hf:Nat.blt f 9=true) (hv:(eh (ns x))[f]?=some v):gz X o E H v:=by
 have hf':f<9:=by simpa using hf
 refine aD k ho hx hk ?_;unfold eH;rw[ht]
 cases uk<;>first|exact (iC hxN hf').trans hv|cases hg
theorem tQ{o:Oper}{g x N cap:Nat}{xo:Operand}{ns:bQ}{t e by_:Nat}{z:Option Value}(k:Nat)(ho:o.op=.load t xo)(hx:val E xo=some (.pointer (some ⟨g,x*9+1,none⟩)))
 (hk:H[k]?=some (.own (.slice (some ⟨g,0,none⟩) N cap) 334 9 N (fC N ns))) (ht:tab t=some ⟨.arr 2 e,2,by_,z⟩) (hxN:x<N):gz X o E H (.agg [Value.int .i64 (enc (ns x).l),.int .i64 (enc (ns x).r)].toArray):=by
 refine aD k ho hx hk ?_;unfold eH;rw[ht];have h1:=iC (f:=1) (ns:=ns) hxN (by decide);have h2:=iC (f:=2) (ns:=ns) hxN (by decide);have h2':(fC N ns)[x*9+1+1]?=(eh (ns x))[2]?:=h2;show (match dT (fC N ns) (x*9+1) 2 with|some l=>some (Value.agg l.toArray)|none=>none)=_;unfold dT;rw[h1];unfold dT;rw[h2'];rfl
theorem a9{o:Oper}{t g x s N cap:Nat}{xo:Operand}{ns:bQ}(k:Nat)(ho:o.op=.load t xo)(hx:val E xo=some (.pointer (some ⟨g,x*9+1+s,none⟩)))
 (hk:H[k]?=some (.own (.slice (some ⟨g,0,none⟩) N cap) 334 9 N (fC N ns))) {k':IntKind} {by':Nat} {z':Option Value} (ht:tab t=some ⟨.int k',1,by',z'⟩)
 (hxN:x<N) (hs:s<2):gz X o E H (.int .i64 (enc (ju (ns x) s))):=by
 refine aD k ho hx hk ?_;unfold eH;rw[ht];have h1:=iC (f:=1+s) (ns:=ns) hxN (by omega);show (fC N ns)[x*9+1+s]?=_;rw[He,h1];obtain rfl|rfl:s=0\/s=1:=by omega
 ·rfl
 ·rfl
theorem cQ{ops l:List Oper}{o:Oper}{t g x f N cap:Nat}{xo yo:Operand}{ns:bQ}{v:Value}(k:Nat)(d:Nd)(ho:o.op=.store t xo yo)(hx:val E xo=some (.pointer (some ⟨g,x*9+f,none⟩)))(hy:val E yo=some v)
 (hk:H[k]?=some (.own (.slice (some ⟨g,0,none⟩) N cap) 334 9 N (fC N ns))) {uk:UK} {by':Nat} {z':Option Value} (ht:tab t=some ⟨uk,1,by',z'⟩) (hc:v.cells.toList=[v]) (h1:v.oneCell'=true)
 (hxN:x<N) (hf:Nat.blt f 9=true) (hd:(eh (ns x)).set f v=eh d) (gs:LN) (hb:jH X.n ops gs E o undef=some E')
 (h:JL X ops l Q E' (H.set k (.own (.slice (some ⟨g,0,none⟩) N cap) 334 9 N (fC N (gy ns x d))))):JL X ops (o::l) Q E H:=by
 have hf':f<9:=by simpa using hf
 refine aO k ho hx hy hk (df ht hc h1 (by rw[eP];omega)) gs hb ?_;rw[Bp hxN hf' hd];exact h
theorem qH{ops l:List Oper}{o:Oper}{t g x s N cap:Nat}{xo yo:Operand}{ns:bQ}{c:Option Nat}(k:Nat)(ho:o.op=.store t xo yo)(hx:val E xo=some (.pointer (some ⟨g,x*9+1+s,none⟩)))(hy:val E yo=some (.int .i64 (enc c)))
 (hk:H[k]?=some (.own (.slice (some ⟨g,0,none⟩) N cap) 334 9 N (fC N ns))) {uk:UK} {by':Nat} {z':Option Value} (ht:tab t=some ⟨uk,1,by',z'⟩)
 (hxN:x<N) (hs:s<2) (gs:LN) (hb:jH X.n ops gs E o undef=some E')
 (h:JL X ops l Q E' (H.set k (.own (.slice (some ⟨g,0,none⟩) N cap) 334 9 N (fC N (gy ns x (cJ (ns x) s c)))))):JL X ops (o::l) Q E H:=by
 rw[He] at hx;obtain rfl|rfl:s=0\/s=1:=by omega
 ·exact cQ (f:=1) k { ns x with l:=c } ho hx hy hk ht rfl rfl hxN rfl rfl gs hb h
 ·exact cQ (f:=2) k { ns x with r:=c } ho hx hy hk ht rfl rfl hxN rfl rfl gs hb h
theorem CJ(ns:bQ)(x:Nat)(d e:Nd):gy (gy ns x d) x e=gy ns x e:=by funext y;unfold gy;split<;>rfl
theorem cW{ops l:List Oper}{o:Oper}{t g x f N cap:Nat}{xo yo:Operand}{ns:bQ}{d0:Nd}{v:Value}(k:Nat)(d:Nd)(ho:o.op=.store t xo yo)(hx:val E xo=some (.pointer (some ⟨g,x*9+f,none⟩)))(hy:val E yo=some v)
 (hk:H[k]?=some (.own (.slice (some ⟨g,0,none⟩) N cap) 334 9 N (fC N (gy ns x d0)))) {uk:UK} {by':Nat} {z':Option Value} (ht:tab t=some ⟨uk,1,by',z'⟩) (hc:v.cells.toList=[v]) (h1:v.oneCell'=true)
 (hxN:x<N) (hf:Nat.blt f 9=true) (hd:(eh d0).set f v=eh d) (gs:LN) (hb:jH X.n ops gs E o undef=some E')
 (h:JL X ops l Q E' (H.set k (.own (.slice (some ⟨g,0,none⟩) N cap) 334 9 N (fC N (gy ns x d))))):JL X ops (o::l) Q E H:=by
 refine cQ k d ho hx hy hk ht hc h1 hxN hf (by rw[dg];exact hd) gs hb ?_;rw[CJ];exact h
theorem ee{c:Option Nat}{x:Nat}(h:c=some x):enc c=(x:Int):=by rw[h];rfl
theorem Bh{c:Option Nat}{x:Nat}:enc c=(x:Int)↔c=some x:=by
 cases c with
 |none=>simp[enc]
 |some y=>simp[enc];omega
section
variable {P:Program} {ops:Array Oper} {md:Region.Mode} {S:Array Bool->World->Prop} {F:Exit->Act->World->Prop}
def nF(P:Program)(md:Region.Mode)(ops:Array Oper)(S:Array Bool->World->Prop)(n:Nat)(L:Array Bool->Act->World->Prop):Nat->Array Bool->Act->World->Prop
 |0,listed,a,w=>L listed a w
 |f+1,listed,a,w=>Region.ready md ops listed≠[]/\∀ i∈Region.ready md ops listed,i<n/\wpOp P ops mc i (λ a' w'=>S (listed.setIfInBounds i true) w'/\nF P md ops S n L f (listed.setIfInBounds i true) a' w') a w
theorem kw{n g:Nat}{L:Array Bool->Act->World->Prop}{Q':Exit->Act->World->Prop}(hL:∀ listed a w,L listed a w->wpAny P md ops Q' g listed a w):
 ∀ (f:Nat) (listed:Array Bool) (a:Act) (w:World),nF P md ops S n L f listed a w->wpAny P md ops Q' (f+g) listed a w
 |0,listed,a,w,h=>by rw[GZ];exact hL _ _ _ h
 |f+1,listed,a,w,h=>by
  rw[show f+1+g=(f+g)+1 by omega];exact⟨λ h0=>absurd h0 h.1,λ i hi=>jK (λ _ _ _ _ h=>h) (wpOp_mono (λ a' w' h'=>kw hL f _ a' w' h'.2) (h.2 i hi).2)⟩
theorem ng{n i:Nat}{oi:Oper}{v:Value}{L:Array Bool->Act->World->Prop}{C:World->Prop}(hi:ops[i]?=some oi)(hsel:∀ (j:Nat) (o:Oper) cs b,ops[j]?=some o->o.op≠.select cs b)
 (hC:∀ listed w,HeadInv md ops n listed->listed.getD i true=false->S listed w->C w) (hS:∀ listed w,HeadInv md ops n listed->S listed w->S (listed.setIfInBounds i true) w)
 (ht:mC md ops n=true) (hin:i<n) (hdone:∀ listed a w,L listed a w->∀ j∈Region.ready md ops listed,n<=j):
 ∀ (f:Nat) (listed:Array Bool) (a:Act) (w:World),HeadInv md ops n listed->
   (∀ j oj,ops[j]?=some oj->j≠i->listed.getD j true=false->(∀ e∈oj.after,Region.binds md e=true->e.on≠i)->oi.apart ops oj=true)->
   i∈Region.ready md ops listed->YS P ops C oi v a->S listed w->(∀ listed w,S (listed.setIfInBounds i true) w->listed.getD i true=false->S listed w)->
   nF P md ops S n L f (listed.setIfInBounds i true) (a.put oi.dst v) w->nF P md ops S n L (f+1) listed a w:=by
 intro f
 induction f with
 |zero=>
  intro listed a w inv _ hr hy hSw hback H;have hun:=(mem_ready.1 hr).1;refine⟨λ h=>(by rw[h] at hr;cases hr),λ j hj=>?_⟩;have hjn:=iU ht inv hin hun j hj;refine⟨hjn,?_⟩;by_cases hji:j=i
  ·subst hji;exact hy.wpOp hi (hC _ _ inv hun hSw) ⟨hS _ _ inv hSw,H⟩
  ·have:=hdone _ _ _ H j (ready_mono hj hji);omega
 |succ f ih=>
  intro listed a w inv hfree hr hy hSw hback H;have hun:=(mem_ready.1 hr).1;refine⟨λ h=>(by rw[h] at hr;cases hr),λ j hj=>?_⟩;have hjn:=iU ht inv hin hun j hj;refine⟨hjn,?_⟩;by_cases hji:j=i
  ·subst hji;exact hy.wpOp hi (hC _ _ inv hun hSw) ⟨hS _ _ inv hSw,H⟩
  ·have h1:=(H.2 j (ready_mono hj hji)).2;obtain⟨hjun,oj,hoj,hall⟩:=mem_ready.1 hj
   have hnot:∀ e∈oj.after,Region.binds md e=true->e.on≠i:=λ e he hb heq=>by
    have h1:=hall e he hb;rw[heq,getD_both hun] at h1
    cases h1
   have h2:=ut hoj (hfree j oj hoj hji hjun hnot) (λ cs b=>hsel i oi cs b hi) (λ cs b=>hsel j oj cs b hoj) hy h1
   have hfree':∀ k ok,ops[k]?=some ok->k≠i->(listed.setIfInBounds j true).getD k true=false->
    (∀ e∈ok.after,Region.binds md e=true->e.on≠i)->oi.apart ops ok=true:=λ k ok hk hki hun hno=>by
    refine hfree k ok hk hki ?_ hno;by_cases hjk:j=k
    ·subst hjk;exact hjun
    ·rw[getD_set_ne true hjk] at hun;exact hun
   have hi2:(listed.setIfInBounds j true).getD i true=false:=by rw[getD_set_ne true hji];exact hun
   refine wpOp_mono (λ a' w' h3=>?_) h2;have hSj:S (listed.setIfInBounds j true) w':=hback _ _ (by rw[Array.setIfInBounds_comm _ _ hji];exact h3.2.1) hi2;refine⟨hSj,ih (listed.setIfInBounds j true) a' w' (inv.set hj hjn) hfree' (ready_mono hr (Ne.symm hji)) h3.1 hSj hback ?_⟩;rw[Array.setIfInBounds_comm _ _ hji];exact h3.2.2
def Fe(P:Program)(ops:Array Oper)(S1 S2:World->Prop)(cov:Nat->Bool)(Q:Act->World->Prop):LN->Nat->List (Nat×Bool)->Act->World->Prop
 |[],k0,rest,a,w=>wpOp P ops mc k0 (λ a' w'=>S2 w'/\th P ops S2 Q rest a' w') a w
 |k::l,k0,rest,a,w=>∃ o v,ops[k]?=some o/\YS P ops (if cov k=true then S1 else S2) o v a/\Fe P ops S1 S2 cov Q l k0 rest (a.put o.dst v) w
def jO(md:Region.Mode)(ops:Array Oper)(k0 i:Nat):Bool:=match ops[k0]? with
 |some o=>o.after.toList.any λ e=>Region.binds md e&&Nat.beq e.on i
 |none=>false
def xL(S1 S2:World->Prop)(k0:Nat)(listed:Array Bool)(w:World):Prop:=if listed.getD k0 false=true then S2 w else S1 w
def Bq(l:LN)(k0:Nat):Bool:=l.all λ k=>!(Nat.beq k k0)
theorem kv{n g:Nat}{S1 S2:World->Prop}(h12:∀ w,S1 w->S2 w){k0:Nat}{Lq:Act->World->Prop}(hsel:Region.noSelect ops=true)(ht:mC md ops n=true):∀ (l:List (Nat×Bool)) (listed:Array Bool) (a:Act) (w:World),HeadInv md ops n listed->listed.getD k0 false=true->S2 w->
 ky md ops n g l listed=true->th P ops S2 Lq l a w->nF P md ops (xL S1 S2 k0) n (λ listed' a' w'=>Region.seqB md ops g n listed'=true/\Lq a' w') l.length listed a w
 |[],listed,a,w,_,_,_,hB,h=>⟨hB,h⟩
 |(k,true)::l,listed,a,w,inv,hk0,hS,hB,h=>by
  simp only[ky,Hh,G3] at hB;obtain⟨⟨hkn,hr,hf⟩,hB'⟩:=hB;obtain⟨o,v,h0,hy,hK⟩:=h;have hr':k∈Region.ready md ops listed:=by simpa using hr
  have hun:=(mem_ready.1 hr').1;have hne:k≠k0:=by rintro rfl;rw[getD_both hun] at hk0;cases hk0
  have hset:∀ (li:Array Bool),(li.setIfInBounds k true).getD k0 false=li.getD k0 false:=λ li=>getD_set_ne false hne
  refine ng (C:=S2) h0 (Region.noSelect_spec hsel) (λ li w _ _ hs=>?_) (λ li w _ hs=>?_) ht hkn (λ listed' a' w' hL=>seqB_ready hL.1) l.length listed a w inv (Region.free_spec h0 hf) hr' hy ?_ (λ li w hs _=>?_)
   (kv h12 hsel ht l _ _ w (inv.set hr' hkn) (by rw[hset];exact hk0) hS hB' hK)
  ·unfold xL at hs;split at hs
   ·exact hs
   ·exact h12 _ hs
  ·unfold xL at*;rw[hset];exact hs
  ·unfold xL;rw[if_pos hk0];exact hS
  ·unfold xL at*;rw[hset] at hs;exact hs
 |(k,false)::l,listed,a,w,inv,hk0,hS,hB,h=>by
  simp only[ky,Hh,G3] at hB;obtain⟨⟨hkn,hr⟩,hB'⟩:=hB;refine⟨by rw[hr];simp,λ i hi=>?_⟩;have hr':k∈Region.ready md ops listed:=by rw[hr];simp
  have hun:=(mem_ready.1 hr').1;have hne:k≠k0:=by rintro rfl;rw[getD_both hun] at hk0;cases hk0
  rw[hr] at hi;obtain rfl:i=k:=by simpa using hi
  have hk1:(listed.setIfInBounds i true).getD k0 false=true:=by rw[getD_set_ne false hne];exact hk0
  exact⟨hkn,wpOp_mono (λ a' w' h'=>⟨by unfold xL;rw[if_pos hk1];exact h'.1,kv h12 hsel ht l _ _ _ (inv.set hr' hkn) hk1 h'.1 hB' h'.2⟩) h⟩
theorem vd{k0 i:Nat}(h:jO md ops k0 i=true){n:Nat}{listed:Array Bool}(inv:HeadInv md ops n listed)(hun:listed.getD i true=false):listed.getD k0 false=false:=by
 unfold jO at h;split at h
 ·rename_i o ho;obtain⟨e,he,hb⟩:=List.any_eq_true.1 h;simp only[Hh] at hb;have e1:=Hv hb.2
  cases hc:listed.getD k0 false with
  |false=>rfl
  |true=>
   have:=inv.closed k0 o ho hc e (by simpa using he) hb.1;rw[e1,getD_both hun] at this
   cases this
 ·cases h
theorem oC{n g:Nat}{S1 S2:World->Prop}(h12:∀ w,S1 w->S2 w){k0:Nat}{Lq:Act->World->Prop}(hsel:Region.noSelect ops=true)(ht:mC md ops n=true){rest:List (Nat×Bool)}:∀ (l:LN) (listed:Array Bool) (a:Act) (w:World),HeadInv md ops n listed->Bq l k0=true->listed.getD k0 false=false->S1 w->
 ky md ops n g (l.map (λ k=>(k,true))++(k0,false)::rest) listed=true->Fe P ops S1 S2 (jO md ops k0) Lq l k0 rest a w->
  nF P md ops (xL S1 S2 k0) n (λ listed' a' w'=>Region.seqB md ops g n listed'=true/\Lq a' w') (l.length+1+rest.length) listed a w
 |[],listed,a,w,inv,_,hk0,hS,hB,h=>by
  simp only[Hy,Hz,ky,Hh,G3] at hB;obtain⟨⟨hkn,hr⟩,hB'⟩:=hB;rw[show ([]:LN).length+1+rest.length=rest.length+1 by simp;omega];refine⟨by rw[hr];simp,λ i hi=>?_⟩;have hr':k0∈Region.ready md ops listed:=by rw[hr];simp
  rw[hr] at hi;obtain rfl:i=k0:=by simpa using hi
  have hk1:(listed.setIfInBounds i true).getD i false=true:=by
   obtain⟨_,o,ho,_⟩:=mem_ready.1 hr';have:=(HP.1 ho).1;rw[<- inv.size] at this;simp[this]
  exact⟨hkn,wpOp_mono (λ a' w' h'=>⟨by unfold xL;rw[if_pos hk1];exact h'.1,kv h12 hsel ht rest _ _ _ (inv.set hr' hkn) hk1 h'.1 hB' h'.2⟩) h⟩
 |k::l,listed,a,w,inv,hal,hk0,hS,hB,h=>by
  simp only[GG,Hp,ky,Hh,G3] at hB;obtain⟨⟨hkn,hr,hf⟩,hB'⟩:=hB;obtain⟨o,v,h0,hy,hK⟩:=h;simp only[Bq,Iw,Hh,Bool.not_eq_true'] at hal;have hne:k≠k0:=λ e=>by rw[e,Nat.beq_refl] at hal;cases hal.1
  have hr':k∈Region.ready md ops listed:=by simpa using hr
  have hset:∀ (li:Array Bool),(li.setIfInBounds k true).getD k0 false=li.getD k0 false:=λ li=>getD_set_ne false hne;rw[show (k::l).length+1+rest.length=(l.length+1+rest.length)+1 by simp;omega]
  refine ng (C:=if jO md ops k0 k=true then S1 else S2) h0 (Region.noSelect_spec hsel) (λ li w inv' hun' hs=>?_) (λ li w _ hs=>?_) ht hkn (λ listed' a' w' hL=>seqB_ready hL.1) _ listed a w inv (Region.free_spec h0 hf) hr' hy ?_ (λ li w hs _=>?_)
   (oC h12 hsel ht l _ _ w (inv.set hr' hkn) (by simpa [Bq] using hal.2) (by rw[hset];exact hk0) hS hB' hK)
  ·split
   ·rename_i hc;have:=vd hc inv' hun';unfold xL at hs;rw[this] at hs;simpa using hs
   ·unfold xL at hs;split at hs
    ·exact hs
    ·exact h12 _ hs
  ·unfold xL at*;rw[hset];exact hs
  ·unfold xL;rw[hk0];simpa using hS
  ·unfold xL at*;rw[hset] at hs;exact hs
theorem uT{id:Nat}{Q:Exit->Act->World->Prop}{S1 S2:World->Prop}(h12:∀ w,S1 w->S2 w){a:Act}{w:World}{ol:List Oper}(n:Nat)(l:LN)(k0:Nat)(rest:List (Nat×Bool))(hm:P.follows .mixedOrders=true)
 (hB:(qh ol.toArray n (l.map (λ k=>(k,true))++(k0,false)::rest)&&Bq l k0)=true) (hS:S1 { w with drawn:=w.drawn+1 })
 (h:Fe P ol.toArray S1 S2 (jO .any ol.toArray k0) (λ a' w'=>wpList P ol.toArray Q (ol.drop n) a' w') l k0 rest a { w with drawn:=w.drawn+1 }):(Code.region id ol.toArray true).wp P Q a w:=by
 simp only[qh,Hh,G3] at hB;obtain⟨⟨⟨⟨⟨hsel,ht⟩,hlen⟩,hn⟩,hwk⟩,hal⟩:=hB
 have inv0:HeadInv .any ol.toArray n (Array.replicate ol.toArray.size false):=
  ⟨by simp,λ j oj _ hl=>(by rw[getD_replicate_false] at hl;cases hl),λ t _ ht=>getD_in (by simpa using ht) (getD_replicate_false _ _)⟩
 have hdl:(ol.drop n).length=ol.toArray.size-n:=by simp
 have H:=oC (md:=.any) (g:=ol.toArray.size-n) h12 hsel ht l _ a _ inv0 hal (getD_replicate_false _ _) hS hwk h;refine wp_region_any hm ?_
 have:=kw (Q':=Q) (g:=ol.toArray.size-n) (λ listed a' w' hL=>by
  have:=wpAny_of_seq (md:=.any) (Q':=Q) (ol.drop n) n listed a' w' (λ j=>by simp[Hu]) (by rw[hdl];exact hL.1) hL.2
  rwa [hdl] at this) _ _ _ _ H
 have hl2:l.length+1+rest.length=n:=by rw[<- hlen];simp;omega
 rw[hl2,show n+(ol.toArray.size-n)=ol.toArray.size by omega] at this;exact this
end
section
variable {X:Cx} {Q:dQ} {E E':Env} {H Sf:Heap} {K:Env->Heap->Prop}
def JE(X:Cx)(ops:List Oper)(l:LN)(k0:Nat)(rest:List (Nat×Bool))(Sf:Heap)(K:Env->Heap->Prop)(E:Env)(H:Heap):Prop:=
 ∀ a w,eR X.n a E->cO X.w0 X.M w H->Fe Tryz.prog ops.toArray (λ w=>cO X.w0 X.M w Sf) (λ w=>cO X.w0 X.M w []) (jO .any ops.toArray k0) (λ a' w'=>∃ E' H',eR X.n a' E'/\cO X.w0 X.M w' H'/\K E' H') l k0 rest a w
theorem pH{P:Program}{ops:Array Oper}{S:World->Prop}{Q1 Q2:Act->World->Prop}(hq:∀ a w,Q1 a w->Q2 a w):∀ l a w,th P ops S Q1 l a w->th P ops S Q2 l a w
 |[],a,w,h=>hq a w h
 |(k,true)::l,a,w,⟨o,v,h1,h2,h3⟩=>⟨o,v,h1,h2,pH hq l _ _ h3⟩
 |(k,false)::l,a,w,h=>wpOp_mono (λ a' w' h'=>⟨h'.1,pH hq l _ _ h'.2⟩) h
theorem ua{P:Program}{ops:Array Oper}{S1 S2:World->Prop}{cov:Nat->Bool}{Q1 Q2:Act->World->Prop}(hq:∀ a w,Q1 a w->Q2 a w){k0:Nat}{rest:List (Nat×Bool)}:∀ l a w,Fe P ops S1 S2 cov Q1 l k0 rest a w->Fe P ops S1 S2 cov Q2 l k0 rest a w
 |[],a,w,h=>wpOp_mono (λ a' w' h'=>⟨h'.1,pH hq rest _ _ h'.2⟩) h
 |k::l,a,w,⟨o,v,h1,h2,h3⟩=>⟨o,v,h1,h2,ua hq l _ _ h3⟩
theorem eK{id:Nat}{ol:List Oper}(n:Nat)(l:LN)(k0:Nat)(rest:List (Nat×Bool))(hB:(qh ol.toArray n (l.map (λ k=>(k,true))++(k0,false)::rest)&&Bq l k0)=true)
 (h:JE X ol l k0 rest H (λ E' H'=>JL X ol (ol.drop n) Q E' H') E H):J X (.region id ol.toArray true) Q E H:=by
 intro a w hA hH;refine uT (S1:=λ w=>cO X.w0 X.M w H) (S2:=λ w=>cO X.w0 X.M w []) (λ w h=>h.mono (λ c hc=>by cases hc) List.Pairwise.nil) n l k0 rest zo hB hH.drew ?_;refine ua ?_ _ _ _ (h a _ hA hH.drew);rintro a w ⟨E',H',hA',hH',hq⟩;exact hq a w hA' hH'
theorem bA{ops:List Oper}{l:LN}{k0 k:Nat}{rest:List (Nat×Bool)}{o:Oper}{v:Value}(gs:LN)(ho:ops[k]?=some o)(hc:jO .any ops.toArray k0 k=true)(hv:gz X o E Sf v)(hb:jH X.n ops gs E o v=some E')(h:JE X ops l k0 rest Sf K E' H):JE X ops (k::l) k0 rest Sf K E H:=by
 intro a w hA hH;obtain⟨hg,hp⟩:=db hb;refine⟨o,v,by simpa using ho,.inl ⟨ce hA hg,λ w' hw'=>hv a w' hA ?_⟩,h _ w (hA.putE hp) hH⟩;rw[if_pos hc] at hw';exact hw'
theorem ev{ops:List Oper}{l:LN}{k0 k:Nat}{rest:List (Nat×Bool)}{o:Oper}{gs:LN}(ho:ops[k]?=some o)(he:Cu X.n ops gs E o=some E')(h:JE X ops l k0 rest Sf K E' H):JE X ops (k::l) k0 rest Sf K E H:=by
 unfold Cu at he;intro a w hA hH;split at he
 ·rename_i hg;split at he
  ·rename_i v hv;have:=hA.putE he;exact⟨o,v,by simpa using ho,.inl ⟨ce hA hg,λ w' _=>jE (X:=⟨w',[],X.n⟩) (H:=[]) hv a w' hA ⟨rfl,rfl,rfl,GF _,λ _ _ _=>rfl,λ _ h=>(by cases h),λ _ h=>(by cases h),List.Pairwise.nil⟩⟩,h _ w this hH⟩
  ·cases he
 ·rename_i hg;exact⟨o,undef,by simpa using ho,.inr ⟨ce hA hg,rfl⟩,h _ w (hA.putE he) hH⟩
 ·cases he
theorem cE{ops:List Oper}{l:LN}{k0 k:Nat}{rest:List (Nat×Bool)}{o:Oper}{v:Value}(gs:LN)(ho:ops[k]?=some o)(hv:gz X o E [] v)(hb:jH X.n ops gs E o v=some E')(h:JE X ops l k0 rest Sf K E' H):JE X ops (k::l) k0 rest Sf K E H:=by
 intro a w hA hH;obtain⟨hg,hp⟩:=db hb;refine⟨o,v,by simpa using ho,.inl ⟨ce hA hg,λ w' hw'=>hv a w' hA ?_⟩,h _ w (hA.putE hp) hH⟩;split at hw'
 ·exact hw'.mono (λ c hc=>by cases hc) List.Pairwise.nil
 ·exact hw'
theorem d6{ops:List Oper}{k0:Nat}{rest:List (Nat×Bool)}{o:Oper}(ho:ops[k0]?=some o)(h:JL X ops [o] (Dg X ops rest [] K) E H):JE X ops [] k0 rest Sf K E H:=by
 intro a w hA hH;exact bg ho h a w hA hH
end
variable {pf gn cap N:Nat}
theorem pa(k:Nat)(ns:bQ)(c:Option Nat)(hc:sM N c)(a:Int)(t:Bool):Fn 281 [.pointer (some ⟨pf,0,none⟩),.int .i64 (enc c),.int .i64 a,.bool t] (aL (bC pf gn cap N k ns)) ([]++bC pf gn cap N k ns)
 λ _ H'=>H'=bC pf gn cap N k (fU ns c a t):=by
 generalize hM:aL _=M
 refine aJ Tryz.func281 rfl rfl λ w0=>?_;refine ad (ad (aa (ae [] rfl ?_)))
 cases c with
 |none=>
  refine fd 10 rfl rfl ?_;refine bi rfl ?_;exact ay ⟨_,rfl,rfl⟩
 |some x=>
  have hx:x<N:=hc;refine eE 10 rfl (by show ¬ ((x:Int)=-1);omega) ?_;refine bG rfl (aq ?_);refine ad (aa ?_)
  (repeat' (first|refine ai ?_|refine am (gs:=[999]) rfl ?_|refine ab [999] (af 0 rfl) rfl ?_|refine ab [999] (aN rfl (by first|assumption|omega)) rfl ?_|refine ab [999] (ao (m:=0) rfl (by decide)) rfl ?_|refine ab [999] (ao (m:=1) rfl (by decide)) rfl ?_|refine ab [999] (a9 1 rfl rfl rfl rfl (by first|assumption|omega) (by first|assumption|omega)) rfl ?_|refine ab [999] (aQ 1 rfl rfl rfl rfl rfl (by first|assumption|omega) rfl rfl) rfl ?_))
  refine ad ?_;refine eK 40 [0,1,2,3,4,5,6,7,8,9,10,11,12,13,14,15,16,17,18,19,20,21,22,23,24,25,26,27,28,29] 30 (cZ [31,32]++[(33,false)]++cZ [34,35]++[(36,false)]++cZ [37,38]++[(39,false)]) (by kernel_rfl) ?_
  (repeat' (first|refine ev (gs:=[999]) rfl rfl ?_|refine bA [999] rfl rfl (af 0 rfl) rfl ?_|refine cE [999] rfl (aN rfl (by first|assumption|omega)) rfl ?_|refine cE [999] rfl (ao (m:=0) rfl (by decide)) rfl ?_|refine cE [999] rfl (ao (m:=1) rfl (by decide)) rfl ?_|refine bA [999] rfl rfl (a9 1 rfl rfl rfl rfl (by first|assumption|omega) (by first|assumption|omega)) rfl ?_|refine bA [999] rfl rfl (aQ 1 rfl rfl rfl rfl rfl (by first|assumption|omega) rfl rfl) rfl ?_))
  refine d6 rfl ?_
  (first|refine cW 1 { ns x with value:=dc ((ns x).value+a) } rfl rfl rfl rfl rfl rfl rfl (by first|assumption|omega) rfl rfl [] rfl ?_|refine cQ 1 { ns x with value:=dc ((ns x).value+a) } rfl rfl rfl rfl rfl rfl rfl (by first|assumption|omega) rfl rfl [] rfl ?_)
  refine ai ⟨⟨[],by decide,rfl⟩,?_⟩
  (repeat' (refine bB (gs:=[999]) rfl rfl ?_))
  refine bg rfl ?_
  (first|refine cW 1 { ns x with value:=dc ((ns x).value+a),least:=dc ((ns x).least+a) } rfl rfl rfl rfl rfl rfl rfl (by first|assumption|omega) rfl rfl [] rfl ?_|refine cQ 1 { ns x with value:=dc ((ns x).value+a),least:=dc ((ns x).least+a) } rfl rfl rfl rfl rfl rfl rfl (by first|assumption|omega) rfl rfl [] rfl ?_)
  refine ai ⟨⟨[],by decide,rfl⟩,?_⟩
  (repeat' (refine bB (gs:=[999]) rfl rfl ?_))
  refine bg rfl ?_
  (first|refine cW 1 { ns x with value:=dc ((ns x).value+a),least:=dc ((ns x).least+a),most:=dc ((ns x).most+a) } rfl rfl rfl rfl rfl rfl rfl (by first|assumption|omega) rfl rfl [] rfl ?_|refine cQ 1 { ns x with value:=dc ((ns x).value+a),least:=dc ((ns x).least+a),most:=dc ((ns x).most+a) } rfl rfl rfl rfl rfl rfl rfl (by first|assumption|omega) rfl rfl [] rfl ?_)
  refine ai ⟨⟨[],by decide,rfl⟩,?_⟩
  (repeat' (refine bB (gs:=[999]) rfl rfl ?_))
  refine bg rfl ?_
  (first|refine cW 1 { ns x with value:=dc ((ns x).value+a),least:=dc ((ns x).least+a),most:=dc ((ns x).most+a),add:=dc ((ns x).add+a) } rfl rfl rfl rfl rfl rfl rfl (by first|assumption|omega) rfl rfl [] rfl ?_|refine cQ 1 { ns x with value:=dc ((ns x).value+a),least:=dc ((ns x).least+a),most:=dc ((ns x).most+a),add:=dc ((ns x).add+a) } rfl rfl rfl rfl rfl rfl rfl (by first|assumption|omega) rfl rfl [] rfl ?_)
  refine ai ⟨⟨[],by decide,rfl⟩,?_⟩;refine bq ?_;refine ai ?_;show J _ _ _ _ (bC pf gn cap N k (gy ns x { ns x with value:=dc ((ns x).value+a),least:=dc ((ns x).least+a),most:=dc ((ns x).most+a),add:=dc ((ns x).add+a) }));refine ad (aa (ae [] rfl ?_))
  cases t with
  |false=>
   refine bG rfl (aq ⟨_,rfl,?_⟩);rfl
  |true=>
   refine bi rfl ?_;refine eK 29 [0,1,2,3,4,5,6,7,8,9,10,11,12,13,14,15,16,17,18,19,20,22,23] 21 (cZ [24]++[(25,false)]++cZ [26,27]++[(28,false)]) (by kernel_rfl) ?_
   (repeat' (first|refine ev (gs:=[999]) rfl rfl ?_|refine cE [999] rfl (ao (m:=0) rfl (by decide)) rfl ?_|refine cE [999] rfl (ao (m:=1) rfl (by decide)) rfl ?_|refine bA [999] rfl rfl (aQ (v:=.int .i64 (enc (ns x).l)) (f:=1) 1 rfl rfl rfl rfl rfl hx rfl (by rw[dg];rfl)) rfl ?_|refine bA [999] rfl rfl (aQ (v:=.int .i64 (enc (ns x).r)) (f:=2) 1 rfl rfl rfl rfl rfl hx rfl (by rw[dg];rfl)) rfl ?_|refine bA [999] rfl rfl (aQ (v:=.bool (ns x).turned) (f:=8) 1 rfl rfl rfl rfl rfl hx rfl (by rw[dg];rfl)) rfl ?_))
   refine d6 rfl ?_
   (first|refine cW 1 { ns x with value:=dc ((ns x).value+a),least:=dc ((ns x).least+a),most:=dc ((ns x).most+a),add:=dc ((ns x).add+a),l:=(ns x).r } rfl rfl rfl rfl rfl rfl rfl (by first|assumption|omega) rfl rfl [] rfl ?_|refine cQ 1 { ns x with value:=dc ((ns x).value+a),least:=dc ((ns x).least+a),most:=dc ((ns x).most+a),add:=dc ((ns x).add+a),l:=(ns x).r } rfl rfl rfl rfl rfl rfl rfl (by first|assumption|omega) rfl rfl [] rfl ?_)
   refine ai ⟨⟨[],by decide,rfl⟩,?_⟩
   (repeat' (refine bB (gs:=[999]) rfl rfl ?_))
   refine aj [999] rfl (ao (m:=1) rfl (by decide)) rfl ?_
   (repeat' (refine bB (gs:=[999]) rfl rfl ?_))
   refine bg rfl ?_
   (first|refine cW (f:=2) 1 { ns x with value:=dc ((ns x).value+a),least:=dc ((ns x).least+a),most:=dc ((ns x).most+a),add:=dc ((ns x).add+a),l:=(ns x).r,r:=(ns x).l } rfl rfl rfl rfl rfl rfl rfl (by first|assumption|omega) rfl rfl [] rfl ?_|refine cQ (f:=2) 1 { ns x with value:=dc ((ns x).value+a),least:=dc ((ns x).least+a),most:=dc ((ns x).most+a),add:=dc ((ns x).add+a),l:=(ns x).r,r:=(ns x).l } rfl rfl rfl rfl rfl rfl rfl (by first|assumption|omega) rfl rfl [] rfl ?_)
   refine ai ⟨⟨[],by decide,rfl⟩,?_⟩
   (repeat' (refine bB (gs:=[999]) rfl rfl ?_))
   refine bg rfl ?_
   (first|refine cW 1 { ns x with value:=dc ((ns x).value+a),least:=dc ((ns x).least+a),most:=dc ((ns x).most+a),add:=dc ((ns x).add+a),l:=(ns x).r,r:=(ns x).l,turned:=!(ns x).turned } rfl rfl rfl rfl rfl rfl rfl (by first|assumption|omega) rfl rfl [] rfl ?_|refine cQ 1 { ns x with value:=dc ((ns x).value+a),least:=dc ((ns x).least+a),most:=dc ((ns x).most+a),add:=dc ((ns x).add+a),l:=(ns x).r,r:=(ns x).l,turned:=!(ns x).turned } rfl rfl rfl rfl rfl rfl rfl (by first|assumption|omega) rfl rfl [] rfl ?_)
   refine ai ⟨⟨[],by decide,rfl⟩,?_⟩;refine bq ?_;exact ai ⟨_,rfl,rfl⟩
variable {pf gn cap N:Nat}
def mY(ns:bQ)(x:Nat):Nat->bQ
 |0=>ns
 |1=>fU ns (ns x).l (ns x).add (ns x).turned
 |_=>fU (fU ns (ns x).l (ns x).add (ns x).turned) (ns x).r (fU ns (ns x).l (ns x).add (ns x).turned x).add (fU ns (ns x).l (ns x).add (ns x).turned x).turned
def sR(d:Nd)(i:Nat):Option Nat:=if i=0 then d.l else d.r
theorem jw(k:Nat)(ns:bQ)(hN:dD N ns)(x:Nat)(hx:x<N):Fn 278 [.pointer (some ⟨pf,0,none⟩),.int .i64 (x:Int)] (aL (bC pf gn cap N k ns)) ([]++bC pf gn cap N k ns)
 λ _ H'=>H'=bC pf gn cap N (k+1) (dZ ns x):=by
 generalize hM:aL _=M
 refine aJ Tryz.func278 rfl rfl λ w0=>?_;refine ad (aa ?_)
 (repeat' (first|refine ai ?_|refine am (gs:=[999]) rfl ?_|refine ab [999] (af 0 rfl) rfl ?_|refine ab [999] (aN rfl (by first|assumption|omega)) rfl ?_|refine ab [999] (ao (m:=0) rfl (by decide)) rfl ?_|refine ab [999] (ao (m:=1) rfl (by decide)) rfl ?_|refine ab [999] (a9 1 rfl rfl rfl rfl (by first|assumption|omega) (by first|assumption|omega)) rfl ?_|refine ab [999] (aQ 1 rfl rfl rfl rfl rfl (by first|assumption|omega) rfl rfl) rfl ?_))
 refine aI 11 (v':=.int .i64 (dc ((k+1:Nat):Int))) rfl (Gt (Value.int .i64) (mD _ _)) ?_
 (repeat' (first|refine ai ?_|refine am (gs:=[999]) rfl ?_|refine ab [999] (af 0 rfl) rfl ?_|refine ab [999] (aN rfl (by first|assumption|omega)) rfl ?_|refine ab [999] (ao (m:=0) rfl (by decide)) rfl ?_|refine ab [999] (ao (m:=1) rfl (by decide)) rfl ?_|refine ab [999] (a9 1 rfl rfl rfl rfl (by first|assumption|omega) (by first|assumption|omega)) rfl ?_|refine ab [999] (aQ 1 rfl rfl rfl rfl rfl (by first|assumption|omega) rfl rfl) rfl ?_))
 refine aA 0 rfl [] rfl ?_;refine ai ?_;show J _ _ _ _ (bC pf gn cap N (k+1) ns);refine ad (aa ?_)
 (repeat' (first|refine ai ?_|refine am (gs:=[999]) rfl ?_|refine ab [999] (af 0 rfl) rfl ?_|refine ab [999] (aN rfl (by first|assumption|omega)) rfl ?_|refine ab [999] (ao (m:=0) rfl (by decide)) rfl ?_|refine ab [999] (ao (m:=1) rfl (by decide)) rfl ?_|refine ab [999] (a9 1 rfl rfl rfl rfl (by first|assumption|omega) (by first|assumption|omega)) rfl ?_|refine ab [999] (aQ 1 rfl rfl rfl rfl rfl (by first|assumption|omega) rfl rfl) rfl ?_))
 refine ad (ad (aa ?_))
 (repeat' (first|refine ai ?_|refine am (gs:=[999]) rfl ?_|refine ab [999] (af 0 rfl) rfl ?_|refine ab [999] (aN rfl (by first|assumption|omega)) rfl ?_|refine ab [999] (ao (m:=0) rfl (by decide)) rfl ?_|refine ab [999] (ao (m:=1) rfl (by decide)) rfl ?_|refine ab [999] (a9 1 rfl rfl rfl rfl (by first|assumption|omega) (by first|assumption|omega)) rfl ?_|refine ab [999] (aQ 1 rfl rfl rfl rfl rfl (by first|assumption|omega) rfl rfl) rfl ?_))
 refine ab [] (tQ 1 rfl rfl rfl rfl hx) rfl ?_
 (repeat' (first|refine ai ?_|refine am (gs:=[999]) rfl ?_|refine ab [999] (af 0 rfl) rfl ?_|refine ab [999] (aN rfl (by first|assumption|omega)) rfl ?_|refine ab [999] (ao (m:=0) rfl (by decide)) rfl ?_|refine ab [999] (ao (m:=1) rfl (by decide)) rfl ?_|refine ab [999] (a9 1 rfl rfl rfl rfl (by first|assumption|omega) (by first|assumption|omega)) rfl ?_|refine ab [999] (aQ 1 rfl rfl rfl rfl rfl (by first|assumption|omega) rfl rfl) rfl ?_))
 refine au ?_
 refine bO (σ:=Nat) (λ i=>[(24,.int .i64 (i:Int)),(23,.agg [Value.int .i64 (enc (ns x).l),.int .i64 (enc (ns x).r)].toArray),(4,.pointer (some ⟨gn,x*9,none⟩)),(1,.int .i64 (x:Int)),(0,.pointer (some ⟨pf,0,none⟩))])
  (λ i=>bC pf gn cap N (k+1) (mY ns x i)) (λ i=>i<=2) (λ i=>2-i) 0 [0,1] ⟨rfl,rfl,rfl,rfl,rfl,an⟩ (by decide) rfl (by omega) ?_
 intro i hi;refine ad (aa (ae [] rfl ?_));refine ad (aC rfl (λ hlt=>aq ?_) (λ hge=>bc ?_))
 ·have hlt:i<2:=by omega
  have hokI:dD N (mY ns x i):=by
   obtain rfl|rfl:i=0\/i=1:=by omega
   ·exact hN
   ·exact hN.lay (hN.l x hx) _ _
  refine ad (au ?_);refine ad (aa ?_)
  have hix:[Value.int .i64 (enc (ns x).l),.int .i64 (enc (ns x).r)][i]?=some (.int .i64 (enc (sR (ns x) i))):=by
   obtain rfl|rfl:i=0\/i=1:=by omega
   ·rfl
   ·rfl
  refine ab [] (AO rfl rfl rfl rfl rfl (by rfl) hlt hix) rfl ?_
  (repeat' (first|refine ai ?_|refine am (gs:=[999]) rfl ?_|refine ab [999] (af 0 rfl) rfl ?_|refine ab [999] (aN rfl (by first|assumption|omega)) rfl ?_|refine ab [999] (ao (m:=0) rfl (by decide)) rfl ?_|refine ab [999] (ao (m:=1) rfl (by decide)) rfl ?_|refine ab [999] (a9 1 rfl rfl rfl rfl (by first|assumption|omega) (by first|assumption|omega)) rfl ?_|refine ab [999] (aQ 1 rfl rfl rfl rfl rfl (by first|assumption|omega) rfl rfl) rfl ?_))
  refine eK 11 [0,1,2,3,4,5,6,7,8,9] 10 [] (by kernel_rfl) ?_
  (repeat' (first|refine ev (gs:=[999]) rfl rfl ?_|refine bA [999] rfl rfl (af 0 rfl) rfl ?_|refine cE [999] rfl (aN rfl (by first|assumption|omega)) rfl ?_|refine cE [999] rfl (ao (m:=0) rfl (by decide)) rfl ?_|refine cE [999] rfl (ao (m:=1) rfl (by decide)) rfl ?_|refine bA [999] rfl rfl (a9 1 rfl rfl rfl rfl (by first|assumption|omega) (by first|assumption|omega)) rfl ?_|refine bA [999] rfl rfl (aQ 1 rfl rfl rfl rfl rfl (by first|assumption|omega) rfl rfl) rfl ?_))
  refine d6 rfl ?_;refine aw [] (pa (k+1) (mY ns x i) (sR (ns x) i) (by unfold sR;split;exact hN.l x hx;exact hN.r x hx) (mY ns x i x).add (mY ns x i x).turned) rfl rfl rfl rfl (by kernel_rfl) aH.refl an (λ _=>rfl) ?_;rintro v H' rfl;refine⟨rfl,?_⟩;refine ai ⟨⟨[],by decide,rfl⟩,?_⟩;refine bq ?_;refine ai ?_;refine aa (ae [] rfl ?_);refine⟨i+1,[0,1],⟨?_,rfl,rfl,rfl,rfl,an⟩,by decide,?_,by omega,by omega⟩
  ·show some (Value.int .i64 (IntKind.i64.wrap ((i:Int)+1)))=_;rw[cv (by omega)];rfl
  ·obtain rfl|rfl:i=0∨i=1:=by omega
   ·rfl
   ·rfl
 ·obtain rfl:i=2:=by omega
  refine aa ?_
  (repeat' (first|refine ai ?_|refine am (gs:=[999]) rfl ?_|refine ab [999] (af 0 rfl) rfl ?_|refine ab [999] (aN rfl (by first|assumption|omega)) rfl ?_|refine ab [999] (ao (m:=0) rfl (by decide)) rfl ?_|refine ab [999] (ao (m:=1) rfl (by decide)) rfl ?_|refine ab [999] (a9 1 rfl rfl rfl rfl (by first|assumption|omega) (by first|assumption|omega)) rfl ?_|refine ab [999] (aQ 1 rfl rfl rfl rfl rfl (by first|assumption|omega) rfl rfl) rfl ?_))
  (first|refine cW 1 { mY ns x 2 x with add:=0 } rfl rfl rfl rfl rfl rfl rfl (by first|assumption|omega) rfl rfl [] rfl ?_|refine cQ 1 { mY ns x 2 x with add:=0 } rfl rfl rfl rfl rfl rfl rfl (by first|assumption|omega) rfl rfl [] rfl ?_)
  (repeat' (first|refine ai ?_|refine am (gs:=[999]) rfl ?_|refine ab [999] (af 0 rfl) rfl ?_|refine ab [999] (aN rfl (by first|assumption|omega)) rfl ?_|refine ab [999] (ao (m:=0) rfl (by decide)) rfl ?_|refine ab [999] (ao (m:=1) rfl (by decide)) rfl ?_|refine ab [999] (a9 1 rfl rfl rfl rfl (by first|assumption|omega) (by first|assumption|omega)) rfl ?_|refine ab [999] (aQ 1 rfl rfl rfl rfl rfl (by first|assumption|omega) rfl rfl) rfl ?_))
  (first|refine cW 1 { mY ns x 2 x with add:=0,turned:=false } rfl rfl rfl rfl rfl rfl rfl (by first|assumption|omega) rfl rfl [] rfl ?_|refine cQ 1 { mY ns x 2 x with add:=0,turned:=false } rfl rfl rfl rfl rfl rfl rfl (by first|assumption|omega) rfl rfl [] rfl ?_)
  exact ai ⟨_,rfl,rfl⟩
variable {pf gn cap N:Nat}
def dm(ns:bQ)(x:Nat):Nat->bQ
 |0=>gy ns x { ns x with size:=1,least:=(ns x).value,most:=(ns x).value }
 |1=>fR (gy ns x { ns x with size:=1,least:=(ns x).value,most:=(ns x).value }) x (ns x).l
 |_=>fk ns x
theorem o9(k:Nat)(ns:bQ)(hN:dD N ns)(x:Nat)(hx:x<N):Fn 276 [.pointer (some ⟨pf,0,none⟩),.int .i64 (x:Int)] (aL (bC pf gn cap N k ns)) ([]++bC pf gn cap N k ns)
 λ _ H'=>H'=bC pf gn cap N k (fk ns x):=by
 generalize hM:aL _=M
 refine aJ Tryz.func276 rfl rfl λ w0=>?_;refine ad (aa ?_)
 (repeat' (first|refine ai ?_|refine am (gs:=[999]) rfl ?_|refine ab [999] (af 0 rfl) rfl ?_|refine ab [999] (aN rfl (by first|assumption|omega)) rfl ?_|refine ab [999] (ao (m:=0) rfl (by decide)) rfl ?_|refine ab [999] (ao (m:=1) rfl (by decide)) rfl ?_|refine ab [999] (a9 1 rfl rfl rfl rfl (by first|assumption|omega) (by first|assumption|omega)) rfl ?_|refine ab [999] (aQ 1 rfl rfl rfl rfl rfl (by first|assumption|omega) rfl rfl) rfl ?_))
 refine ad ?_;refine eK 20 [0,1,2,3,4,5,6,7,8,9,10,11,12] 13 (cZ [14,15]++[(16,false)]++cZ [17,18]++[(19,false)]) (by kernel_rfl) ?_
 (repeat' (first|refine ev (gs:=[999]) rfl rfl ?_|refine bA [999] rfl rfl (af 0 rfl) rfl ?_|refine cE [999] rfl (aN rfl (by first|assumption|omega)) rfl ?_|refine cE [999] rfl (ao (m:=0) rfl (by decide)) rfl ?_|refine cE [999] rfl (ao (m:=1) rfl (by decide)) rfl ?_|refine bA [999] rfl rfl (a9 1 rfl rfl rfl rfl (by first|assumption|omega) (by first|assumption|omega)) rfl ?_|refine bA [999] rfl rfl (aQ 1 rfl rfl rfl rfl rfl (by first|assumption|omega) rfl rfl) rfl ?_))
 refine d6 rfl ?_
 (first|refine cW 1 { ns x with size:=1 } rfl rfl rfl rfl rfl rfl rfl (by first|assumption|omega) rfl rfl [] rfl ?_|refine cQ 1 { ns x with size:=1 } rfl rfl rfl rfl rfl rfl rfl (by first|assumption|omega) rfl rfl [] rfl ?_)
 refine ai ⟨⟨[],by decide,rfl⟩,?_⟩
 (repeat' (refine bB (gs:=[999]) rfl rfl ?_))
 refine bg rfl ?_
 (first|refine cW 1 { ns x with size:=1,least:=(ns x).value } rfl rfl rfl rfl rfl rfl rfl (by first|assumption|omega) rfl rfl [] rfl ?_|refine cQ 1 { ns x with size:=1,least:=(ns x).value } rfl rfl rfl rfl rfl rfl rfl (by first|assumption|omega) rfl rfl [] rfl ?_)
 refine ai ⟨⟨[],by decide,rfl⟩,?_⟩
 (repeat' (refine bB (gs:=[999]) rfl rfl ?_))
 refine bg rfl ?_
 (first|refine cW 1 { ns x with size:=1,least:=(ns x).value,most:=(ns x).value } rfl rfl rfl rfl rfl rfl rfl (by first|assumption|omega) rfl rfl [] rfl ?_|refine cQ 1 { ns x with size:=1,least:=(ns x).value,most:=(ns x).value } rfl rfl rfl rfl rfl rfl rfl (by first|assumption|omega) rfl rfl [] rfl ?_)
 refine ai ⟨⟨[],by decide,rfl⟩,?_⟩;refine bq ?_;refine ai ?_;show J _ _ _ _ (bC pf gn cap N k (dm ns x 0));refine ad (aa ?_)
 (repeat' (first|refine ai ?_|refine am (gs:=[999]) rfl ?_|refine ab [999] (af 0 rfl) rfl ?_|refine ab [999] (aN rfl (by first|assumption|omega)) rfl ?_|refine ab [999] (ao (m:=0) rfl (by decide)) rfl ?_|refine ab [999] (ao (m:=1) rfl (by decide)) rfl ?_|refine ab [999] (a9 1 rfl rfl rfl rfl (by first|assumption|omega) (by first|assumption|omega)) rfl ?_|refine ab [999] (aQ 1 rfl rfl rfl rfl rfl (by first|assumption|omega) rfl rfl) rfl ?_))
 have e0:(dm ns x 0 x).l=(ns x).l/\(dm ns x 0 x).r=(ns x).r:=by
  show (gy ns x _ x).l=_/\(gy ns x _ x).r=_;rw[dg];exact⟨rfl,rfl⟩
 refine ab [] (tQ 1 rfl rfl rfl rfl hx) rfl ?_;rw[e0.1,e0.2]
 (repeat' (first|refine ai ?_|refine am (gs:=[999]) rfl ?_|refine ab [999] (af 0 rfl) rfl ?_|refine ab [999] (aN rfl (by first|assumption|omega)) rfl ?_|refine ab [999] (ao (m:=0) rfl (by decide)) rfl ?_|refine ab [999] (ao (m:=1) rfl (by decide)) rfl ?_|refine ab [999] (a9 1 rfl rfl rfl rfl (by first|assumption|omega) (by first|assumption|omega)) rfl ?_|refine ab [999] (aQ 1 rfl rfl rfl rfl rfl (by first|assumption|omega) rfl rfl) rfl ?_))
 refine au ?_
 refine bO (σ:=Nat) (λ i=>[(35,.int .i64 (i:Int)),(34,.agg [Value.int .i64 (enc (ns x).l),.int .i64 (enc (ns x).r)].toArray),(4,.pointer (some ⟨gn,x*9,none⟩)),(1,.int .i64 (x:Int)),(0,.pointer (some ⟨pf,0,none⟩))])
  (λ i=>bC pf gn cap N k (dm ns x i)) (λ i=>i<=2) (λ i=>2-i) 0 [0,1] ⟨rfl,rfl,rfl,rfl,rfl,an⟩ (by decide) rfl (by omega) ?_
 intro i hi;refine ad (aa (ae [] rfl ?_));refine ad (aC rfl (λ hlt=>aq ?_) (λ hge=>bc ?_))
 ·have hlt:i<2:=by omega
  have hix:[Value.int .i64 (enc (ns x).l),.int .i64 (enc (ns x).r)][i]?=some (.int .i64 (enc (sR (ns x) i))):=by
   obtain rfl|rfl:i=0\/i=1:=by omega
   ·rfl
   ·rfl
  have hok:sM N (sR (ns x) i):=by unfold sR;split;exact hN.l x hx;exact hN.r x hx
  have hstep:dm ns x (i+1)=fR (dm ns x i) x (sR (ns x) i):=by
   obtain rfl|rfl:i=0\/i=1:=by omega
   ·rfl
   ·rfl
  refine ad (au ?_);refine ad (aa ?_);refine ab [] (AO rfl rfl rfl rfl rfl (by rfl) hlt hix) rfl ?_
  (repeat' (first|refine ai ?_|refine am (gs:=[999]) rfl ?_|refine ab [999] (af 0 rfl) rfl ?_|refine ab [999] (aN rfl (by first|assumption|omega)) rfl ?_|refine ab [999] (ao (m:=0) rfl (by decide)) rfl ?_|refine ab [999] (ao (m:=1) rfl (by decide)) rfl ?_|refine ab [999] (a9 1 rfl rfl rfl rfl (by first|assumption|omega) (by first|assumption|omega)) rfl ?_|refine ab [999] (aQ 1 rfl rfl rfl rfl rfl (by first|assumption|omega) rfl rfl) rfl ?_))
  refine ad (aa (ae [] rfl ?_))
  cases hc:sR (ns x) i with
  |none=>
   rw[hc] at hstep;refine eE 39 rfl (by simp[enc]) ?_;refine bG rfl (aq ?_);refine aa (ae [] rfl ?_);refine⟨i+1,[0,1],⟨?_,rfl,rfl,rfl,rfl,an⟩,by decide,?_,by omega,by omega⟩
   ·show some (Value.int .i64 (IntKind.i64.wrap ((i:Int)+1)))=_;rw[cv (by omega)];rfl
   ·rw[hstep];rfl
  |some c=>
   rw[hc] at hstep hok;have hcN:c<N:=hok;refine fd 39 rfl (by simp[enc]) ?_;refine bi rfl ?_;refine ad (aa ?_)
   (repeat' (first|refine ai ?_|refine am (gs:=[999]) rfl ?_|refine ab [999] (af 0 rfl) rfl ?_|refine ab [999] (aN rfl (by first|assumption|omega)) rfl ?_|refine ab [999] (ao (m:=0) rfl (by decide)) rfl ?_|refine ab [999] (ao (m:=1) rfl (by decide)) rfl ?_|refine ab [999] (a9 1 rfl rfl rfl rfl (by first|assumption|omega) (by first|assumption|omega)) rfl ?_|refine ab [999] (aQ 1 rfl rfl rfl rfl rfl (by first|assumption|omega) rfl rfl) rfl ?_))
   refine eK 39 [0,1,2,3,4,5,6,7,8,9,10,11,12,13,14,15,16,17,18,19,20,21,22,23,24,25,26,27,28,29,30,31] 32 (cZ [33,34]++[(35,false)]++cZ [36,37]++[(38,false)]) (by kernel_rfl) ?_
   (repeat' (first|refine ev (gs:=[999]) rfl rfl ?_|refine bA [999] rfl rfl (af 0 rfl) rfl ?_|refine cE [999] rfl (aN rfl (by first|assumption|omega)) rfl ?_|refine cE [999] rfl (ao (m:=0) rfl (by decide)) rfl ?_|refine cE [999] rfl (ao (m:=1) rfl (by decide)) rfl ?_|refine bA [999] rfl rfl (a9 1 rfl rfl rfl rfl (by first|assumption|omega) (by first|assumption|omega)) rfl ?_|refine bA [999] rfl rfl (aQ 1 rfl rfl rfl rfl rfl (by first|assumption|omega) rfl rfl) rfl ?_))
   refine d6 rfl ?_
   (first|refine cW 1 { dm ns x i x with size:=dc ((dm ns x i x).size+(dm ns x i c).size) } rfl rfl rfl rfl rfl rfl rfl (by first|assumption|omega) rfl rfl [] rfl ?_|refine cQ 1 { dm ns x i x with size:=dc ((dm ns x i x).size+(dm ns x i c).size) } rfl rfl rfl rfl rfl rfl rfl (by first|assumption|omega) rfl rfl [] rfl ?_)
   refine ai ⟨⟨[],by decide,rfl⟩,?_⟩
   (repeat' (refine bB (gs:=[999]) rfl rfl ?_))
   refine bg rfl ?_
   (first|refine cW 1 { dm ns x i x with size:=dc ((dm ns x i x).size+(dm ns x i c).size),least:=ve (dm ns x i x).least (dm ns x i c).least } rfl rfl rfl rfl rfl rfl rfl (by first|assumption|omega) rfl rfl [] rfl ?_|refine cQ 1 { dm ns x i x with size:=dc ((dm ns x i x).size+(dm ns x i c).size),least:=ve (dm ns x i x).least (dm ns x i c).least } rfl rfl rfl rfl rfl rfl rfl (by first|assumption|omega) rfl rfl [] rfl ?_)
   refine ai ⟨⟨[],by decide,rfl⟩,?_⟩
   (repeat' (refine bB (gs:=[999]) rfl rfl ?_))
   refine bg rfl ?_
   (first|refine cW 1 { dm ns x i x with size:=dc ((dm ns x i x).size+(dm ns x i c).size),least:=ve (dm ns x i x).least (dm ns x i c).least,most:=xS (dm ns x i x).most (dm ns x i c).most } rfl rfl rfl rfl rfl rfl rfl (by first|assumption|omega) rfl rfl [] rfl ?_|refine cQ 1 { dm ns x i x with size:=dc ((dm ns x i x).size+(dm ns x i c).size),least:=ve (dm ns x i x).least (dm ns x i c).least,most:=xS (dm ns x i x).most (dm ns x i c).most } rfl rfl rfl rfl rfl rfl rfl (by first|assumption|omega) rfl rfl [] rfl ?_)
   refine ai ⟨⟨[],by decide,rfl⟩,?_⟩;refine bq ?_;refine ai ?_;refine aa (ae [] rfl ?_);refine⟨i+1,[0,1],⟨?_,rfl,rfl,rfl,rfl,an⟩,by decide,?_,by omega,by omega⟩
   ·show some (Value.int .i64 (IntKind.i64.wrap ((i:Int)+1)))=_;rw[cv (by omega)];rfl
   ·rw[hstep];rfl
 ·obtain rfl:i=2:=by omega
  exact⟨_,rfl,rfl⟩
theorem lj(k:Nat)(ns:bQ)(hN:dD N ns)(x p:Nat)(hx:x<N)(hp:(ns x).up=some p):Fn 279 [.pointer (some ⟨pf,0,none⟩),.int .i64 (x:Int)] (aL (bC pf gn cap N k ns)) ([]++bC pf gn cap N k ns)
 λ v H'=>v=.int .i64 (dG ns x p:Nat)/\H'=bC pf gn cap N k ns:=by
 have hpN:p<N:=by have:=hN.up x hx;rw[hp] at this;exact this
 generalize hM:aL _=M
 refine aJ Tryz.func279 rfl rfl λ w0=>?_;refine ad (aa (ae [] rfl ?_));refine ad (ad ?_);refine bu 18 (cZ [0,1,2,3,4,5,6,7,8,9,10,11,12,13,14,15,16,17]) [0,1] (by kernel_rfl) (by decide) rfl ?_
 (repeat' (first|refine bB (gs:=[999]) rfl rfl ?_|refine aj [999] rfl (af 0 rfl) rfl ?_|refine aj [999] rfl (aN rfl (by first|assumption|omega)) rfl ?_|refine aj [999] rfl (ao (m:=0) rfl (by decide)) rfl ?_|refine aj [999] rfl (ao (m:=1) rfl (by decide)) rfl ?_|refine aj [999] rfl (a9 1 rfl rfl rfl rfl (by first|assumption|omega) (by first|assumption|omega)) rfl ?_))
 refine aj [999] rfl (aQ (v:=.int .i64 (p:Int)) (f:=0) 1 rfl rfl rfl rfl rfl hx rfl (by show some (Value.int .i64 (enc (ns x).up))=_;rw[hp];rfl)) rfl ?_
 (repeat' (first|refine bB (gs:=[999]) rfl rfl ?_|refine aj [999] rfl (af 0 rfl) rfl ?_|refine aj [999] rfl (aN rfl (by first|assumption|omega)) rfl ?_|refine aj [999] rfl (ao (m:=0) rfl (by decide)) rfl ?_|refine aj [999] rfl (ao (m:=1) rfl (by decide)) rfl ?_|refine aj [999] rfl (a9 1 rfl rfl rfl rfl (by first|assumption|omega) (by first|assumption|omega)) rfl ?_))
 refine bq ?_;refine ai ?_;unfold dG;by_cases hr:(ns p).r=some x
 ·rw[if_pos hr];refine fd 22 rfl (Bh.2 hr) ?_;refine bi rfl ?_;refine ad (aa (ae [] rfl ?_));exact ay ⟨_,rfl,rfl,rfl⟩
 ·rw[if_neg hr];refine eE 22 rfl (λ h=>hr (Bh.1 h)) ?_;refine bG rfl ?_;refine aq (ad (aa (ae [] rfl ?_)));exact ay ⟨_,rfl,rfl,rfl⟩
theorem r8(k:Nat)(ns:bQ)(hN:dD N ns)(c:Option Nat)(hc:sM N c)(b:Nat)(hb:b<N)(s:Nat)(hs:s<2):Fn 275 [.pointer (some ⟨pf,0,none⟩),.int .i64 (enc c),.int .i64 (b:Int),.int .i64 (s:Int)] (aL (bC pf gn cap N k ns)) ([]++bC pf gn cap N k ns)
 λ _ H'=>H'=bC pf gn cap N k (eJ ns c b s):=by
 generalize hM:aL _=M
 refine aJ Tryz.func275 rfl rfl λ w0=>?_;refine ad (aa ?_)
 (repeat' (first|refine ai ?_|refine am (gs:=[999]) rfl ?_|refine ab [999] (af 0 rfl) rfl ?_|refine ab [999] (aN rfl (by first|assumption|omega)) rfl ?_|refine ab [999] (ao (m:=0) rfl (by decide)) rfl ?_|refine ab [999] (ao (m:=1) rfl (by decide)) rfl ?_|refine ab [999] (a9 1 rfl rfl rfl rfl (by first|assumption|omega) (by first|assumption|omega)) rfl ?_|refine ab [999] (aQ 1 rfl rfl rfl rfl rfl (by first|assumption|omega) rfl rfl) rfl ?_))
 refine ab [] (ao rfl hs) rfl ?_;refine qH 1 rfl rfl rfl rfl rfl hb hs [] rfl ?_;refine ai ?_;show J _ _ _ _ (bC pf gn cap N k (gy ns b (cJ (ns b) s c)));refine ad (aa (ae [] rfl ?_))
 cases c with
 |none=>
  refine eE 19 rfl (by simp[enc]) ?_;exact bG rfl (aq ⟨_,rfl,rfl⟩)
 |some x=>
  have hx:x<N:=hc;refine fd 19 rfl (by simp[enc]) ?_;refine bi rfl ?_;refine aa ?_
  (repeat' (first|refine ai ?_|refine am (gs:=[999]) rfl ?_|refine ab [999] (af 0 rfl) rfl ?_|refine ab [999] (aN rfl (by first|assumption|omega)) rfl ?_|refine ab [999] (ao (m:=0) rfl (by decide)) rfl ?_|refine ab [999] (ao (m:=1) rfl (by decide)) rfl ?_|refine ab [999] (a9 1 rfl rfl rfl rfl (by first|assumption|omega) (by first|assumption|omega)) rfl ?_|refine ab [999] (aQ 1 rfl rfl rfl rfl rfl (by first|assumption|omega) rfl rfl) rfl ?_))
  (first|refine cW 1 { gy ns b (cJ (ns b) s (some x)) x with up:=some b } rfl rfl rfl rfl rfl rfl rfl (by first|assumption|omega) rfl rfl [] rfl ?_|refine cQ 1 { gy ns b (cJ (ns b) s (some x)) x with up:=some b } rfl rfl rfl rfl rfl rfl rfl (by first|assumption|omega) rfl rfl [] rfl ?_)
  exact ai ⟨_,rfl,rfl⟩
variable {pf gn cap N:Nat}
theorem tY(ns:bQ)(x p:Nat):dG ns x p<2:=by unfold dG;split<;>omega
theorem CW(ns:bQ)(p:Nat):mJ ns p<2:=by
 unfold mJ;split
 ·omega
 ·exact tY _ _ _
theorem jB(k:Nat)(ns:bQ)(hN:dD N ns)(x p:Nat)(hx:x<N)(hp:(ns x).up=some p):Fn 280 [.pointer (some ⟨pf,0,none⟩),.int .i64 (x:Int)] (aL (bC pf gn cap N k ns)) ([]++bC pf gn cap N k ns)
 λ _ H'=>H'=bC pf gn cap N (k+1) (c9 ns x p):=by
 have hpN:p<N:=by have:=hN.up x hx;rw[hp] at this;exact this
 have hgN:sM N (ns p).up:=hN.up p hpN;have hs:=tY ns x p;have ht:=CW ns p
 generalize hM:aL _=M
 refine aJ Tryz.func280 rfl rfl λ w0=>?_;refine ad (aa ?_)
 (repeat' (first|refine ai ?_|refine am (gs:=[999]) rfl ?_|refine ab [999] (af 0 rfl) rfl ?_|refine ab [999] (aN rfl (by first|assumption|omega)) rfl ?_|refine ab [999] (ao (m:=0) rfl (by decide)) rfl ?_|refine ab [999] (ao (m:=1) rfl (by decide)) rfl ?_|refine ab [999] (a9 1 rfl rfl rfl rfl (by first|assumption|omega) (by first|assumption|omega)) rfl ?_|refine ab [999] (aQ 1 rfl rfl rfl rfl rfl (by first|assumption|omega) rfl rfl) rfl ?_))
 refine aI 12 (v':=.int .i64 (dc ((k+1:Nat):Int))) rfl (Gt (Value.int .i64) (mD _ _)) ?_
 (repeat' (first|refine ai ?_|refine am (gs:=[999]) rfl ?_|refine ab [999] (af 0 rfl) rfl ?_|refine ab [999] (aN rfl (by first|assumption|omega)) rfl ?_|refine ab [999] (ao (m:=0) rfl (by decide)) rfl ?_|refine ab [999] (ao (m:=1) rfl (by decide)) rfl ?_|refine ab [999] (a9 1 rfl rfl rfl rfl (by first|assumption|omega) (by first|assumption|omega)) rfl ?_|refine ab [999] (aQ 1 rfl rfl rfl rfl rfl (by first|assumption|omega) rfl rfl) rfl ?_))
 refine aA 0 rfl [] rfl ?_;refine ai ?_;show J _ _ _ _ (bC pf gn cap N (k+1) ns);refine ad (aa ?_)
 (repeat' (first|refine ai ?_|refine am (gs:=[999]) rfl ?_|refine ab [999] (af 0 rfl) rfl ?_|refine ab [999] (aN rfl (by first|assumption|omega)) rfl ?_|refine ab [999] (ao (m:=0) rfl (by decide)) rfl ?_|refine ab [999] (ao (m:=1) rfl (by decide)) rfl ?_|refine ab [999] (a9 1 rfl rfl rfl rfl (by first|assumption|omega) (by first|assumption|omega)) rfl ?_|refine ab [999] (aQ 1 rfl rfl rfl rfl rfl (by first|assumption|omega) rfl rfl) rfl ?_))
 refine a7 4 (v':=.int .i64 (p:Int)) rfl (Gt (Value.int .i64) (ee hp)) ?_;refine ad ?_;refine bu 13 (cZ [0,1,2,3,4,5,6,7,8,9]++[(10,false)]++cZ [11,12]) [0,1] (by kernel_rfl) (by decide) rfl ?_
 (repeat' (first|refine bB (gs:=[999]) rfl rfl ?_|refine aj [999] rfl (af 0 rfl) rfl ?_|refine aj [999] rfl (aN rfl (by first|assumption|omega)) rfl ?_|refine aj [999] rfl (ao (m:=0) rfl (by decide)) rfl ?_|refine aj [999] rfl (ao (m:=1) rfl (by decide)) rfl ?_|refine aj [999] rfl (a9 1 rfl rfl rfl rfl (by first|assumption|omega) (by first|assumption|omega)) rfl ?_))
 refine aj [999] rfl (aQ (f:=0) 1 rfl rfl rfl rfl rfl hpN rfl rfl) rfl ?_
 (repeat' (first|refine bB (gs:=[999]) rfl rfl ?_|refine aj [999] rfl (af 0 rfl) rfl ?_|refine aj [999] rfl (aN rfl (by first|assumption|omega)) rfl ?_|refine aj [999] rfl (ao (m:=0) rfl (by decide)) rfl ?_|refine aj [999] rfl (ao (m:=1) rfl (by decide)) rfl ?_|refine aj [999] rfl (a9 1 rfl rfl rfl rfl (by first|assumption|omega) (by first|assumption|omega)) rfl ?_))
 refine bg rfl ?_;refine aw [] (lj (k+1) ns hN x p hx hp) rfl rfl rfl rfl (by kernel_rfl) aH.refl an (λ _=>rfl) ?_;rintro v H' ⟨rfl,rfl⟩;refine⟨rfl,?_⟩;refine ai ⟨⟨[0,1],by decide,rfl⟩,?_⟩
 (repeat' (refine bB (gs:=[999]) rfl rfl ?_))
 refine bq ?_;refine ai ?_;show J _ _ _ _ (bC pf gn cap N (k+1) ns);refine ad (aa (ae [] rfl ?_));refine fj [(7,.int .i64 (mJ ns p:Nat)),(6,.int .i64 (dG ns x p:Nat)),(5,.int .i64 (enc (ns p).up)),(4,.int .i64 (p:Int)),(1,.int .i64 (x:Int)),(0,.pointer (some ⟨pf,0,none⟩))] (bC pf gn cap N (k+1) ns) ?_ ?_
 ·refine ad (aa (ae [] rfl ?_))
  cases hg:(ns p).up with
  |none=>
   have e:mJ ns p=0:=by unfold mJ;rw[hg]
   refine eE 35 rfl (by simp[enc]) ?_;refine bG rfl (aq ⟨[0,1],⟨?_,rfl,rfl,rfl,rfl,rfl,an⟩,by decide,rfl⟩);rw[e];rfl
  |some g=>
   have e:mJ ns p=dG ns p g:=by unfold mJ;rw[hg]
   refine fd 35 rfl (by simp[enc]) ?_;refine bi rfl ?_;refine aa ?_
   (repeat' (first|refine ai ?_|refine am (gs:=[999]) rfl ?_|refine ab [999] (af 0 rfl) rfl ?_|refine ab [999] (aN rfl (by first|assumption|omega)) rfl ?_|refine ab [999] (ao (m:=0) rfl (by decide)) rfl ?_|refine ab [999] (ao (m:=1) rfl (by decide)) rfl ?_|refine ab [999] (a9 1 rfl rfl rfl rfl (by first|assumption|omega) (by first|assumption|omega)) rfl ?_|refine ab [999] (aQ 1 rfl rfl rfl rfl rfl (by first|assumption|omega) rfl rfl) rfl ?_))
   refine aw [] (lj (k+1) ns hN p g hpN hg) rfl rfl rfl rfl (by kernel_rfl) aH.refl an (λ _=>rfl) ?_;rintro v H' ⟨rfl,rfl⟩;refine⟨rfl,?_⟩
   (repeat' (first|refine ai ?_|refine am (gs:=[999]) rfl ?_|refine ab [999] (af 0 rfl) rfl ?_|refine ab [999] (aN rfl (by first|assumption|omega)) rfl ?_|refine ab [999] (ao (m:=0) rfl (by decide)) rfl ?_|refine ab [999] (ao (m:=1) rfl (by decide)) rfl ?_|refine ab [999] (a9 1 rfl rfl rfl rfl (by first|assumption|omega) (by first|assumption|omega)) rfl ?_|refine ab [999] (aQ 1 rfl rfl rfl rfl rfl (by first|assumption|omega) rfl rfl) rfl ?_))
   refine⟨[0,1],⟨?_,rfl,rfl,rfl,rfl,rfl,an⟩,by decide,rfl⟩;rw[e];rfl
 ·obtain⟨s,hse⟩:∃ s,dG ns x p=s:=⟨_,rfl⟩;obtain⟨tp,htp⟩:∃ s,mJ ns p=s:=⟨_,rfl⟩;unfold c9;rw[hse,htp];rw[hse] at hs;rw[htp] at ht;have e1:IntKind.i64.wrap (1-(s:Int))=((1-s:Nat):Int):=by rw[cv (by omega)];omega
  have hN1:=hN.hang (hN.down hx (1-s)) hpN s;have hN2:=hN1.hang (c:=some p) hpN hx (1-s);have hN3:=hN2.upd (x:=x) (d:={ eJ (eJ ns (ju (ns x) (1-s)) p s) (some p) x (1-s) x with up:=(ns p).up }) hgN (hN2.l x hx) (hN2.r x hx);have hN4:=hN3.setG hgN hx tp;have hN5:=hN4.pull hpN;refine ad (aa ?_)
  (repeat' (first|refine ai ?_|refine am (gs:=[999]) rfl ?_|refine ab [999] (af 0 rfl) rfl ?_|refine ab [999] (aN rfl (by first|assumption|omega)) rfl ?_|refine ab [999] (ao (m:=0) rfl (by decide)) rfl ?_|refine ab [999] (ao (m:=1) rfl (by decide)) rfl ?_|refine ab [999] (a9 1 rfl rfl rfl rfl (by first|assumption|omega) (by first|assumption|omega)) rfl ?_|refine ab [999] (aQ 1 rfl rfl rfl rfl rfl (by first|assumption|omega) rfl rfl) rfl ?_))
  refine aI 46 (v':=.int .i64 ((1-s:Nat):Int)) rfl (Gt (Value.int .i64) e1) ?_
  (repeat' (first|refine ai ?_|refine am (gs:=[999]) rfl ?_|refine ab [999] (af 0 rfl) rfl ?_|refine ab [999] (aN rfl (by first|assumption|omega)) rfl ?_|refine ab [999] (ao (m:=0) rfl (by decide)) rfl ?_|refine ab [999] (ao (m:=1) rfl (by decide)) rfl ?_|refine ab [999] (a9 1 rfl rfl rfl rfl (by first|assumption|omega) (by first|assumption|omega)) rfl ?_|refine ab [999] (aQ 1 rfl rfl rfl rfl rfl (by first|assumption|omega) rfl rfl) rfl ?_))
  refine ab [] (ao rfl (by omega)) rfl ?_
  (repeat' (first|refine ai ?_|refine am (gs:=[999]) rfl ?_|refine ab [999] (af 0 rfl) rfl ?_|refine ab [999] (aN rfl (by first|assumption|omega)) rfl ?_|refine ab [999] (ao (m:=0) rfl (by decide)) rfl ?_|refine ab [999] (ao (m:=1) rfl (by decide)) rfl ?_|refine ab [999] (a9 1 rfl rfl rfl rfl (by first|assumption|omega) (by first|assumption|omega)) rfl ?_|refine ab [999] (aQ 1 rfl rfl rfl rfl rfl (by first|assumption|omega) rfl rfl) rfl ?_))
  refine aw [] (r8 (k+1) ns hN (ju (ns x) (1-s)) (hN.down hx _) p hpN s hs) rfl rfl rfl rfl (by kernel_rfl) aH.refl an (λ _=>rfl) ?_;rintro v H' rfl;refine⟨rfl,?_⟩;refine ai ?_;show J _ _ _ _ (bC pf gn cap N (k+1) _);refine ad (aa ?_)
  (repeat' (first|refine ai ?_|refine am (gs:=[999]) rfl ?_|refine ab [999] (af 0 rfl) rfl ?_|refine ab [999] (aN rfl (by first|assumption|omega)) rfl ?_|refine ab [999] (ao (m:=0) rfl (by decide)) rfl ?_|refine ab [999] (ao (m:=1) rfl (by decide)) rfl ?_|refine ab [999] (a9 1 rfl rfl rfl rfl (by first|assumption|omega) (by first|assumption|omega)) rfl ?_|refine ab [999] (aQ 1 rfl rfl rfl rfl rfl (by first|assumption|omega) rfl rfl) rfl ?_))
  refine aI 58 (v':=.int .i64 ((1-s:Nat):Int)) rfl (Gt (Value.int .i64) e1) ?_;refine aw [] (r8 (k+1) _ hN1 (some p) hpN x hx (1-s) (by omega)) rfl rfl rfl rfl (by kernel_rfl) aH.refl an (λ _=>rfl) ?_;rintro v H' rfl;refine⟨rfl,?_⟩;refine ai ?_;show J _ _ _ _ (bC pf gn cap N (k+1) _);refine ad (aa ?_)
  (repeat' (first|refine ai ?_|refine am (gs:=[999]) rfl ?_|refine ab [999] (af 0 rfl) rfl ?_|refine ab [999] (aN rfl (by first|assumption|omega)) rfl ?_|refine ab [999] (ao (m:=0) rfl (by decide)) rfl ?_|refine ab [999] (ao (m:=1) rfl (by decide)) rfl ?_|refine ab [999] (a9 1 rfl rfl rfl rfl (by first|assumption|omega) (by first|assumption|omega)) rfl ?_|refine ab [999] (aQ 1 rfl rfl rfl rfl rfl (by first|assumption|omega) rfl rfl) rfl ?_))
  (first|refine cW 1 { eJ (eJ ns (ju (ns x) (1-s)) p s) (some p) x (1-s) x with up:=(ns p).up } rfl rfl rfl rfl rfl rfl rfl (by first|assumption|omega) rfl rfl [] rfl ?_|refine cQ 1 { eJ (eJ ns (ju (ns x) (1-s)) p s) (some p) x (1-s) x with up:=(ns p).up } rfl rfl rfl rfl rfl rfl rfl (by first|assumption|omega) rfl rfl [] rfl ?_)
  refine ai ?_;show J _ _ _ _ (bC pf gn cap N (k+1) _)
  generalize h3:gy _ _ _=ns3 at*
  refine fj [(4,.int .i64 (p:Int)),(1,.int .i64 (x:Int)),(0,.pointer (some ⟨pf,0,none⟩))] (bC pf gn cap N (k+1) (Bu ns3 (ns p).up tp x)) ?_ ?_
  ·refine ad (aa (ae [] rfl ?_))
   cases hg:(ns p).up with
   |none=>
    refine eE 69 rfl (by simp[enc]) ?_;exact bG rfl (aq ⟨[0,1],⟨rfl,rfl,rfl,an⟩,by decide,rfl⟩)
   |some g=>
    rw[hg] at hgN;have hgN':g<N:=hgN;refine fd 69 rfl (by simp[enc]) ?_;refine bi rfl ?_;refine aa ?_
    (repeat' (refine am (gs:=[999]) rfl ?_))
    refine ab [999] (af 0 rfl) rfl ?_
    (repeat' (refine am (gs:=[999]) rfl ?_))
    refine aI 74 (v':=.int .i64 (g:Int)) rfl (Gt (Value.int .i64) (by first|exact ee hg|rfl)) ?_;refine ab [999] (aN rfl hgN') rfl ?_
    (repeat' (refine am (gs:=[999]) rfl ?_))
    refine ab [] (ao rfl ht) rfl ?_;refine qH (c:=some x) 1 rfl rfl rfl rfl rfl hgN' ht [] rfl ?_;exact ai ⟨[0,1],⟨rfl,rfl,rfl,an⟩,by decide,rfl⟩
  ·refine ad (aa ?_)
   (repeat' (first|refine ai ?_|refine am (gs:=[999]) rfl ?_|refine ab [999] (af 0 rfl) rfl ?_|refine ab [999] (aN rfl (by first|assumption|omega)) rfl ?_|refine ab [999] (ao (m:=0) rfl (by decide)) rfl ?_|refine ab [999] (ao (m:=1) rfl (by decide)) rfl ?_|refine ab [999] (a9 1 rfl rfl rfl rfl (by first|assumption|omega) (by first|assumption|omega)) rfl ?_|refine ab [999] (aQ 1 rfl rfl rfl rfl rfl (by first|assumption|omega) rfl rfl) rfl ?_))
   refine aw [] (o9 (k+1) _ hN4 p hpN) rfl rfl rfl rfl (by kernel_rfl) aH.refl an (λ _=>rfl) ?_;rintro v H' rfl;refine⟨rfl,?_⟩;refine ai ?_;show J _ _ _ _ (bC pf gn cap N (k+1) _);refine aa ?_
   (repeat' (first|refine ai ?_|refine am (gs:=[999]) rfl ?_|refine ab [999] (af 0 rfl) rfl ?_|refine ab [999] (aN rfl (by first|assumption|omega)) rfl ?_|refine ab [999] (ao (m:=0) rfl (by decide)) rfl ?_|refine ab [999] (ao (m:=1) rfl (by decide)) rfl ?_|refine ab [999] (a9 1 rfl rfl rfl rfl (by first|assumption|omega) (by first|assumption|omega)) rfl ?_|refine ab [999] (aQ 1 rfl rfl rfl rfl rfl (by first|assumption|omega) rfl rfl) rfl ?_))
   refine aw [] (o9 (k+1) _ hN5 x hx) rfl rfl rfl rfl (by kernel_rfl) aH.refl an (λ _=>rfl) ?_;rintro v H' rfl;refine⟨rfl,?_⟩;exact ai ⟨_,rfl,by subst h3;rfl⟩
def od(l:List Oper):Bool:=l.all λ o=>match o.op with
 |.defer _=>false
 |_=>true
section
variable {P:Program} {ops:Array Oper} {R:Exit->Act->World->Prop}
theorem tF{n r:Nat}{row:String}{args:Array Value}{w:World}{K:Value->World->Prop}(h:Rows P row args w K):RowsIn (Fence.wide.inRound r) n P row args w K:=
 λ c cs _=>by obtain⟨v,w',r,s⟩:=h c cs;exact⟨v,w',r,stepsIn_wide.2 s⟩
theorem ow{r n:Nat}(hno:¬ LetsOut R):∀ (l:List Oper) (a:Act) (w:World),od l=true->wpList P ops R l a w->wpListIn (Fence.wide.inRound r) n P ops R l a w
 |[],_,_,_,h=>h
 |o::l,a,w,hp,h=>by
  simp only[od,Iw,Hh] at hp;have ih:=λ a w=>ow (r:=r) (n:=n) hno l a w hp.2;unfold wpList at h;unfold wpListIn;split
  ·rename_i hw;rw[if_pos hw] at h
   rcases h with h|⟨_,h⟩
   ·refine⟨fun _ _=>trivial,?_⟩;have hs:o.semAt (Fence.wide.inRound r).round a.eval=execOp a.eval o:=Oper.semAt_eq _ a.eval o fun c hc=>by rw[hc] at hp;cases hp.1
    rw[hs];unfold Oper.wp at h
    generalize (execOp a.eval o).run P w=res at*
    cases res with
    |ok x w'=>
     cases x<;>simp only[Oper.upon,Oper.uponIn] at h ⊢<;>first|exact ih _ _ h|exact h.elim|skip
     ·refine⟨fun hd=>(by simp[Fence.wide] at hd),(CallsIn.inRound r (callsIn_wide.2 h)).mono ?_⟩;intro e w'' he
      cases e with
      |returned v=>exact ih _ _ he
      |panicked ch=>exact he
      |outgrown=>exact he
     ·exact⟨λ hd=>(by simp[Fence.wide] at hd),tF (h.mono λ v w'' hv=>ih _ _ hv)⟩
    |halt x w'=>cases x<;>simp only[Oper.upon,Oper.uponIn] at h ⊢<;>first|exact h|exact h.elim
   ·exact absurd h hno
  ·rename_i hw;rw[if_neg hw] at h;exact⟨λ _ _=>trivial,ih _ _ h⟩
end
section
variable {X:Cx} {E E':Env} {H:Heap} {K:Env->Heap->Prop}
def JR(X:Cx)(r:Nat)(c:Code)(K:Env->Heap->Prop)(E:Env)(H:Heap):Prop:=∀ a w,eR X.n a E->cO X.w0 X.M w H->c.wpIn (Fence.wide.inRound r) 0 Tryz.prog (l6 X (Cs K)) a w
theorem xg:¬ LetsOut (l6 X (Cs K)):=λ ⟨_,_,_,_,_,_,h⟩=>h
theorem f6{r id:Nat}{l:List Oper}(hp:od l=true)(h:JL X l l (Cs K) E H):JR X r (.region id l.toArray false) K E H:=
 λ a w hA hH=>wpIn_region_lit (ow xg l a w hp (h a w hA hH))
theorem uS{r id:Nat}{c:Code}(h:JR X r c K E H):JR X r (.block id c) K E H:=λ a w hA hH=>by
 refine wpIn_block (wpIn_mono (h a w hA hH) ?_);rintro e a' w' ⟨E',H',h1,h2,h3⟩
 cases e with
 |normal=>exact⟨E',H',h1,h2,h3⟩
 |_=>exact h3.elim
theorem vK{r:Nat}{x y:Code}(h:JR X r x (λ E' H'=>JR X r y K E' H') E H):JR X r (.seq x y) K E H:=λ a w hA hH=>by
 refine wpIn_seq (wpIn_mono (h a w hA hH) ?_);rintro e a' w' ⟨E',H',h1,h2,h3⟩
 cases e with
 |normal=>exact h3 a' w' h1 h2
 |_=>exact h3.elim
end
def DW(gf:FuncId)(lb:LV_)(S:Heap)(nr:Nat)(x:Nat->LV_):Prop:=
 ∀ (l:Nat) (J:Nat->World->Prop) (W:World),(∀ k W,J k W->∀ c∈S,c.holds W)->(∀ k W W',J k W->cO W [] W' []->J k W')->
   (∀ k W,k<nr->J k W->YieldAt Fence.wide 0 Tryz.prog l (x k).toArray W λ e W'=>e=.returned (.bool true)/\J (k+1) W')->
   J 0 W->Calls Tryz.prog gf (#[.func (.yield l) #[] #[]]++lb.toArray) W λ e W'=>(∃ v,e=.returned v)/\J nr W'
def rW:LN->LV_->Env->Env
 |p::ps,v::vs,E=>rW ps vs ((p,v)::E)
 |_,_,E=>E
theorem eR.bind{n:Nat}:∀ (ps:LN) (vs:LV_) (tmps:Array Value) (E:Env),(ps.all λ p=>Nat.blt p n)=true->eR ⟨n,[]⟩ { tmps:=tmps,defers:=[] } E->
 eR ⟨n,[]⟩ { tmps:=(ps.zip vs).foldl (λ t (p,v)=>t.setIfInBounds p v) tmps,defers:=[] } (rW ps vs E)
 |[],_,_,_,_,h=>h
 |p::ps,[],tmps,E,_,h=>h
 |p::ps,v::vs,tmps,E,hp,h=>by
  simp only[Iw,Hh] at hp;have h1:eR ⟨n,[]⟩ { tmps:=tmps.setIfInBounds p v,defers:=[] } ((p,v)::E):=h.put (d:=p) (by simpa using hp.1) v;exact eR.bind ps vs _ _ hp.2 h1
abbrev ox(D:Nat):Deferred:={ target:=.collected D,args:=#[] }
abbrev pu:Obj:=.deferred (some [])
section
variable {w0:World} {M:LN} {n:Nat} {E:Env} {H:Heap} {R:Exit->Act->World->Prop}
theorem cO.turn{w:World}{o o':Obj}{r:Nat}{K:Heap}(h:cO w0 M w (.obj r o::K)):cO w0 M (w.putObj r o') (.obj r o'::K):=by
 have hr:w.heap[r]?=some o:=h.holds (.obj r o) (by simp);have hlt:=(HP.1 hr).1;refine h.step (d:=.obj r o') 0 rfl rfl rfl rfl (by simp) (λ k _ hk=>World.putObj_heap_other (λ e=>hk (by rw[e];rfl))) (World.putObj_heap_same hlt) (λ b hb=>.inl hb)
theorem cO.tail{w:World}{c:aV}{K:Heap}(h:cO w0 M w (c::K)):cO w0 M w K:=h.sub (G9 c K)
theorem cO.after{w w':World}{K:Heap}(h:cO w0 M w K)(h':cO w [] w' []):cO w0 M w' K:=by
 have hb:∀ k,k<w.heap.size->w'.heap[k]?=w.heap[k]?:=λ k hk=>h'.keep k hk (by simp);refine⟨h'.os.trans h.os,h'.tape.trans h.tape,h'.output.trans h.output,HG h.size h'.size,λ k hk hM=>?_,λ c hc=>?_,h.own,h.dis⟩
 ·rw[hb k (Il hk h.size)];exact h.keep k hk hM
 ·exact aV.holds_of (h.holds c hc) λ b hbe=>hb b (aV.at_lt (h.holds c hc) hbe)
theorem AV{X:Cx}{x y:Code}(h:W X x (Exit.then (y.wp Tryz.prog R) R) E H):W X (.seq x y) R E H:=λ a w hA hH=>wp_seq (h a w hA hH)
theorem xB{X:Cx}{id:Nat}{c:Code}(h:W X c (Exit.inBlock id R) E H):W X (.block id c) R E H:=λ a w hA hH=>wp_block (h a w hA hH)
theorem DG{g:Operand}{ps:LN}{assign body:Code}{gf:FuncId}{lb:LV_}{S:Heap}{nr:Nat}{x:Nat->LV_}(Hk:Nat->Heap)(hg:val E g=some (.func (.func gf) #[] lb.toArray))(hc:ew gf=true)
 (hit:DW gf lb S nr x) (hps:∀ k,k<nr->(x k).length=ps.length) (hpn:(ps.all λ p=>Nat.blt p n)=true) (hS:∀ k W,cO w0 M W (Hk k)->∀ c∈S,c.holds W)
 (hbody:∀ r D k (rdy bsy:Obj),k<nr->JR ⟨w0,M,⟨n,[]⟩⟩ r assign (λ E1 H1=>H1=(.obj r rdy::.obj D pu::Hk k)/\
  JR ⟨w0,M,⟨n,[]⟩⟩ r body (λ _ H2=>∃ ix:LN,ix.Nodup/\bU H2 ix=some (.obj r bsy::.obj D pu::Hk (k+1))) E1 (.obj r bsy::.obj D pu::Hk k)) (rW ps (x k) E) (.obj r rdy::.obj D pu::Hk k))
 (hrest:∀ D a w,eR ⟨n,[ox D]⟩ a E->cO w0 M w (.obj D pu::Hk nr)->R .normal a w):W ⟨w0,M,⟨n,[]⟩⟩ (.rangeFunc g ps.toArray assign body) R E (Hk 0):=by
 intro a w hA hH;refine (wpIn_wide (n:=0)).1 (wpIn_rangeFunc ?_);intro fn _;obtain⟨rec,hrec⟩:∃ rec:LoopState->Option Code->Loop,rec=λ st pe=>{ state:=st,pending:=pe,fn,tmps:=a.tmps,params:=ps.toArray,assign,body,defers:=w.heap.size }:=⟨_,rfl⟩;obtain⟨W1,hW1⟩:∃ W1,(w.alloc (.deferred (some []))).alloc (.loop (rec .ready none))=W1:=⟨_,rfl⟩
 have hH1:cO w0 M W1 (.obj (w.heap.size+1) (.loop (rec .ready none))::.obj w.heap.size pu::Hk 0):=by
  have:=(hH.alloc pu).alloc (.loop (rec .ready none));rw[World.size_alloc] at this;rw[<- hW1];exact this
 have hev:a.eval g=.func (.func gf) #[] lb.toArray:=hA.val hg;refine⟨w.heap.size+1,[ox w.heap.size],W1,{ target:=.fn (.func gf) lb.toArray,args:=#[.func (.yield (w.heap.size+1)) #[] #[]] },W1,gf,#[.func (.yield (w.heap.size+1)) #[] #[]]++lb.toArray,W1,?_,?_,λ _ _=>trivial,?_,λ hd=>(by simp[Fence.wide] at hd),?_⟩
 ·rw[<- hW1,hrec];exact run_enterLoop_outer _ _ _ _ _
 ·simp only[resolve,hev];simp[go_sem]
 ·simp[invoke,fI hc]
 ·refine (callsIn_wide.2 (hit (w.heap.size+1) (λ k W=>cO w0 M W (.obj (w.heap.size+1) (.loop (rec .ready none))::.obj w.heap.size pu::Hk k)) W1 (λ k W h=>hS k W h.tail.tail) (λ k W W' h h'=>h.after h') ?_ hH1)).mono ?_
  ·intro k W hk h;have hl:W.heap[w.heap.size+1]?=some (.loop (rec .ready none)):=h.holds (.obj _ _) (by simp);have hy:=run_yield (P:=Tryz.prog) (args:=(x k).toArray) hl (by rw[hrec];simp[hps k hk]);rw[hrec] at hy;refine⟨fn,_,assign,body,hy,roundIn_of_wpIn trivial ?_⟩
   have hA1:eR ⟨n,[]⟩ { tmps:=((ps.toArray.zip (x k).toArray).foldl (λ t (p,v)=>t.setIfInBounds p v) a.tmps),defers:=[] } (rW ps (x k) E):=by
    have:=eR.bind ps (x k) a.tmps E hpn ⟨hA.size,rfl,hA.get⟩
    have e:(ps.toArray.zip (x k).toArray).foldl (λ t (p,v)=>t.setIfInBounds p v) a.tmps=(ps.zip (x k)).foldl (λ t (p,v)=>t.setIfInBounds p v) a.tmps:=by
     rw[<- I4];simp
    rw[e];exact this
   refine wpIn_mono (hbody (w.heap.size+1) w.heap.size k (.loop (rec .ready none)) (.loop { rec .ready none with state:=.busy }) hk _ W hA1 h) ?_;rintro e a1 W2 ⟨E1,H1,hA2,hH2,hq⟩
   cases e with
   |normal=>
    obtain⟨rfl,hb⟩:=hq;have hl2:W2.heap[w.heap.size+1]?=some (.loop (rec .ready none)):=hH2.holds (.obj _ _) (by simp);refine⟨_,run_beginRound hl2 (by rw[hrec]),?_⟩;refine wpIn_mono (hb a1 _ hA2 hH2.turn) ?_;rintro e a3 W3 ⟨E3,H3,hA3,hH3,hq3⟩
    cases e with
    |normal=>
     obtain⟨ix,hix,hp⟩:=hq3;have h3:=hH3.picks ix hix hp;have hl3:W3.heap[w.heap.size+1]?=some (.loop { rec .ready none with state:=.busy }):=h3.holds (.obj _ _) (by simp);refine⟨_,_,run_endRound none hl3,rfl,?_⟩;have:=h3.turn (o':=.loop (rec .ready none));rw[hrec] at this ⊢;exact this
    |_=>exact hq3.elim
   |_=>exact hq.elim
  ·rintro e W2 ⟨⟨v,rfl⟩,h⟩;have hl:W2.heap[w.heap.size+1]?=some (.loop (rec .ready none)):=h.holds (.obj _ _) (by simp);refine⟨none,_,by have:=run_endLoop (P:=Tryz.prog) hl (by rw[hrec];simp);rw[hrec] at this;exact this,?_⟩;have h3:=h.turn (o':=.loop (rec .exhausted none));rw[hrec] at h3;exact hrest w.heap.size _ _ ⟨hA.size,by show [_]++a.defers=_;rw[hA.defers];rfl,hA.get⟩ h3.tail
def D4(fn:Func)(w0:World)(M:LN)(Rr:Value->Heap->Prop):Exit->Act->World->Prop:=λ e a w=>
 (e=.normal\/e=.ret)/\∃ E' H' D,eR ⟨fn.ntmps,[ox D]⟩ a E'/\cO w0 M w (.obj D pu::H')/\∃ vs,pr E' fn.results.toList=some vs/\Rr (jR vs) H'
def Ga(D:Nat)(rs:List ResultVar)(Rr:Value->Heap->Prop):dQ:=λ e E H=>(e=.normal\/e=.ret)/\∃ H' ix,List.Nodup ix/\bU H ix=some (.obj D pu::H')/\∃ vs,pr E rs=some vs/\Rr (jR vs) H'
theorem D7{D:Nat}{fn:Func}{c:Code}{Rr:Value->Heap->Prop}(h:J ⟨w0,M,⟨fn.ntmps,[ox D]⟩⟩ c (Ga D fn.results.toList Rr) E H){a:Act}{w:World}(hA:eR ⟨fn.ntmps,[ox D]⟩ a E)(hH:cO w0 M w H):c.wp Tryz.prog (D4 fn w0 M Rr) a w:=by
 refine wp_mono (h a w hA hH) ?_;rintro e a' w' ⟨E',H',hA',hH',he,H2,ix,hix,hp,vs,h1,h2⟩;exact⟨he,E',H2,D,hA',hH'.picks ix hix hp,vs,h1,h2⟩
theorem Bb{f:FuncId}{fn:Func}{c:Code}{args:LV_}{Rr:Value->Heap->Prop}(hf:Tryz.prog.funcs[f]?=some fn)(hb:fn.body=some c)(hn:Nat.ble args.length fn.ntmps=true)
 (h:∀ w0,W ⟨w0,M,⟨fn.ntmps,[]⟩⟩ c (D4 fn w0 M Rr) (nc 0 args) H):Fn f args M H Rr:=by
 intro w hH;refine (callsIn_wide (n:=0)).1 (callsIn_of_wp_marks hf hb an (wpIn_wide.2 ?_));refine wp_mono (h w _ w (kB hn) hH) ?_
 have key:∀ a w',(∃ E' H' D,eR ⟨fn.ntmps,[ox D]⟩ a E'/\cO w M w' (.obj D pu::H')/\∃ vs,pr E' fn.results.toList=some vs/\Rr (jR vs) H')->
  LeavesInM Fence.wide 0 Tryz.prog fn a.tmps (λ e w'=>∃ v H',e=.returned v/\cO w M w' H'/\Rr v H') a.defers .returning w':=by
  rintro a w' ⟨E',H',D,hA',hH',vs,h1,h2⟩;rw[hA'.defers];have hD:w'.heap[D]?=some (.deferred (some [])):=hH'.holds (.obj D pu) (by simp);refine⟨by simp,.inl ⟨D,_,rfl,run_takeDeferred hD,?_⟩⟩;exact⟨jR vs,gH hA' h1 _,jR vs,H',rfl,(hH'.turn (o':=.deferred none)).tail,h2⟩
 rintro e a w' ⟨rfl|rfl,hq⟩
 ·exact key a w' hq
 ·exact key a w' hq
end
section
variable {G:Nat->World->Prop} {n:Nat} {S:Heap} {E F:Env} {k nr l:Nat} {x:Nat->LV_} {ops:List Oper} {R:Exit->Act->World->Prop}
def uB:Heap->Bool
 |[]=>true
 |.seg ..::H=>uB H
 |_=>false
theorem kZ:∀ {S:Heap},uB S=true->∀ c∈S,c.mine=none
 |[],_,c,hc=>by cases hc
 |.seg ..::S,h,c,hc=>by
  rcases GD.1 hc with rfl|hc
  ·rfl
  ·exact kZ (S:=S) h c hc
 |.obj ..::_,h,_,_=>by cases h
 |.own ..::_,h,_,_=>by cases h
 |.tab ..::_,h,_,_=>by cases h
theorem tH{w:World}(hs:uB S=true)(h:∀ c∈S,c.holds w):cO w [] w S:=by
 refine⟨rfl,rfl,rfl,GF _,λ _ _ _=>rfl,h,λ c hc b hb=>(by rw[kZ hs c hc] at hb;cases hb),?_⟩;rw[HD];intro i j hi hj _;have h1:=kZ hs _ (H4 hi);have h2:=kZ hs _ (H4 hj);exact⟨λ b hb=>(by rw[h1] at hb;cases hb),λ b hb=>(by rw[h2] at hb;cases hb)⟩
def JY(G:Nat->World->Prop)(n:Nat)(ops l:List Oper)(R:Exit->Act->World->Prop)(E:Env)(k:Nat):Prop:=∀ a w,eR ⟨n,[]⟩ a E->G k w->wpListIn Fence.wide 0 Tryz.prog ops.toArray R l a w
theorem mU{P:Program}{ops:Array Oper}{R Rn:Exit->Act->World->Prop}{l2:List Oper}(hno:¬ LetsOut Rn)(hn:∀ e a w,e≠.normal->¬ Rn e a w)(h2:∀ a w,Rn .normal a w->wpListIn Fence.wide 0 P ops R l2 a w):
 ∀ (l1:List Oper) (a:Act) (w:World),od l1=true->wpList P ops Rn l1 a w->wpListIn Fence.wide 0 P ops R (l1++l2) a w
 |[],a,w,_,h=>h2 a w h
 |o::l1,a,w,hp,h=>by
  simp only[od,Iw,Hh] at hp;have ih:=λ a w=>mU hno hn h2 l1 a w hp.2;unfold wpList at h;show wpListIn _ _ _ _ _ (o::(l1++l2)) a w;unfold wpListIn;split
  ·rename_i hw;rw[if_pos hw] at h
   rcases h with h|⟨_,h⟩
   ·refine⟨λ _ _=>trivial,?_⟩;have hs:o.semAt Fence.wide.round a.eval=execOp a.eval o:=Oper.semAt_none a.eval o;rw[hs];unfold Oper.wp at h
    generalize (execOp a.eval o).run P w=res at*
    cases res with
    |ok x w'=>
     cases x<;>simp only[Oper.upon,Oper.uponIn] at h ⊢<;>first|exact ih _ _ h|exact h.elim|skip
     ·refine⟨fun hd=>(by simp[Fence.wide] at hd),(callsIn_wide.2 h).mono ?_⟩;intro e w'' he
      cases e with
      |returned v=>exact ih _ _ he
      |panicked ch=>exact absurd he (hn _ _ _ (by simp))
      |outgrown=>exact absurd he hno
     ·refine⟨λ hd=>(by simp[Fence.wide] at hd),λ c cs _=>?_⟩;obtain⟨v,w'',r,s⟩:=h c cs;exact⟨v,w'',ih _ _ r,stepsIn_wide.2 s⟩
    |halt x w'=>cases x<;>simp only[Oper.upon,Oper.uponIn] at h ⊢<;>first|exact absurd h (hn _ _ _ (by simp))|exact h.elim
   ·exact absurd h hno
  ·rename_i hw;rw[if_neg hw] at h;exact⟨λ _ _=>trivial,ih _ _ h⟩
theorem sV{l2:List Oper}(m:Nat)(hs:uB S=true)(hJS:∀ k W,G k W->∀ c∈S,c.holds W)(hJa:∀ k W W',G k W->cO W [] W' []->G k W')(hp:od (l2.take m)=true)(h1:∀ w,JL ⟨w,[],⟨n,[]⟩⟩ ops (l2.take m) (Cs λ E' _=>lK E' F) E S)(h2:JY G n ops (l2.drop m) R F k):JY G n ops l2 R E k:=by
 intro a w hA hJ;rw[<- Hs m l2];refine mU (Rn:=l6 ⟨w,[],⟨n,[]⟩⟩ (Cs λ E' _=>lK E' F)) xg (λ e a w hne hq=>?_) ?_ _ a w hp (h1 w a w hA (tH hs (hJS k w hJ)))
 ·obtain⟨_,_,_,_,hq⟩:=hq
  cases e with
  |normal=>exact hne rfl
  |_=>exact hq
 ·rintro a' w' ⟨E',H',hA',hH',hq⟩;exact h2 a' w' (hA'.ents F hq) (hJa k w w' hJ (hH'.mono (λ c hc=>by cases hc) List.Pairwise.nil))
theorem Bm{l2:List Oper}{o:Oper}{f:Operand}{args:Array Operand}{ts:Array TypeId}{E':Env}(hY:∀ k W,k<nr->G k W->YieldAt Fence.wide 0 Tryz.prog l (x k).toArray W λ e W'=>e=.returned (.bool true)/\G (k+1) W')(hk:k<nr)
 (ho:o.op=.call ⟨.value f,args,ts⟩) (hg:o.guard=none) (hf:val E f=some (.func (.yield l) #[] #[])) (ha:vals E args.toList=some (x k)) (hb:ss ⟨n,[]⟩ o.dst (.bool true) E=some E') (h:JY G n ops l2 R E' (k+1)):JY G n ops (o::l2) R E k:=by
 intro a w hA hJ;obtain⟨fn,tmps,assign,body,hy,hr⟩:=hY k w hk hJ;unfold wpListIn;rw[if_pos (by simp[Region.wanted,hg])];refine⟨λ _ _=>trivial,?_⟩
 have e1:args.map a.eval=(x k).toArray:=by
  rw[<- hA.vals _ _ ha];exact Array.ext' (by simp)
 have hs:o.semAt Fence.wide.round a.eval=execOp a.eval o:=Oper.semAt_none a.eval o
 have he:(execOp a.eval o).run Tryz.prog w=.ok (.round l fn tmps assign body) w:=by
  simp[execOp,ho,resolve,invoke,Deferred.ofValue,hA.val hf,e1,hy]
 rw[hs,he,Oper.uponIn_round];refine⟨λ hd=>(by simp[Fence.wide] at hd),hr.mono ?_⟩;rintro e W' ⟨rfl,hJ'⟩;exact h _ _ (hA.putE hb) hJ'
theorem AJ(h:∀ a w,eR ⟨n,[]⟩ a E->G k w->R .normal a w):JY G n ops [] R E k:=h
def WG(G:Nat->World->Prop)(n:Nat)(c:Code)(R:Exit->Act->World->Prop)(E:Env)(k:Nat):Prop:=∀ a w,eR ⟨n,[]⟩ a E->G k w->c.wp Tryz.prog R a w
theorem rC{id:Nat}{l:List Oper}(h:JY G n l l R E k):WG G n (.region id l.toArray false) R E k:=λ a w hA hJ=>(wpIn_wide (n:=0)).1 (wpIn_region_lit (h a w hA hJ))
theorem j7{x y:Code}(h:WG G n x (Exit.then (y.wp Tryz.prog R) R) E k):WG G n (.seq x y) R E k:=λ a w hA hJ=>wp_seq (h a w hA hJ)
theorem kq{c:Code}{Q:dQ}(hs:uB S=true)(hJS:∀ k W,G k W->∀ c∈S,c.holds W)(hJa:∀ k W W',G k W->cO W [] W' []->G k W')(h:∀ w,J ⟨w,[],⟨n,[]⟩⟩ c Q E S)
 (hq:∀ e E' a w',eR ⟨n,[]⟩ a E'->G k w'->(∃ w H',cO w [] w' H'/\Q e E' H')->R e a w'):WG G n c R E k:=by
 intro a w hA hJ;refine wp_mono (h w a w hA (tH hs (hJS k w hJ))) ?_;rintro e a' w' ⟨E',H',hA',hH',hq'⟩;exact hq e E' a' w' hA' (hJa k w w' hJ (hH'.mono (λ c hc=>by cases hc) List.Pairwise.nil)) ⟨w,H',hH',hq'⟩
end
def gN(W:LN):LV_:=ax (W.map λ (i:Nat)=>(i:Int))
theorem yn{W:LN}{k r:Nat}(h:W[k]?=some r):(gN W)[k]?=some (.int .i64 (r:Int)):=dx (by rw[GC,h];rfl)
theorem t8(A:OA)(m c:Nat):Fn 277 [.slice A m c] [] [] λ v H'=>∃ b,v=.func (.func 282) #[] #[.pointer (some ⟨b,0,none⟩)]/\H'=[blk b 23 [.slice A m c]]:=by
 refine aJ Tryz.func277 rfl rfl λ w0=>?_;refine ad (aa ?_);refine bx rfl rfl rfl (λ _=>rfl) λ b=>?_;refine ae [] rfl ?_;refine ad (aa (ae [] rfl ?_));exact ay ⟨_,rfl,b,rfl,rfl⟩
def AR(W:LN)(k:Nat):LV_:=[.int .i64 ((W.length-1-k:Nat):Int),.int .i64 ((W.getD (W.length-1-k) 0:Nat):Int)]
theorem wc(W:LN)(b g c:Nat)(hW:W.length<=100000):DW 282 [.pointer (some ⟨b,0,none⟩)] [.seg b 0 [.slice (some ⟨g,0,none⟩) W.length c],.seg g 0 (gN W)] W.length (AR W):=by
 intro l G w hGS hGa hY h0;refine calls_of_wp Tryz.func282 rfl ?_;have hA0:=kB (n:=19) (args:=[.func (.yield l) #[] #[],.pointer (some ⟨b,0,none⟩)]) rfl
 suffices hWG:WG G 19 _ (bodyPost Tryz.prog _ λ e W'=>(∃ v,e=.returned v)/\G W.length W') (nc 0 [.func (.yield l) #[] #[],.pointer (some ⟨b,0,none⟩)]) 0 from hWG _ _ hA0 h0
 refine j7 (kq (Q:=Cs λ E' _=>lK E' [(3,.int .i64 ((W.length:Int)-1)),(1,.pointer (some ⟨b,0,none⟩)),(0,.func (.yield l) #[] #[])]) (S:=[.seg b 0 [.slice (some ⟨g,0,none⟩) W.length c],.seg g 0 (gN W)]) rfl hGS hGa (λ w=>?_) ?_)
 ·refine aa ?_;refine ab [] (a8 (i:=0) 0 rfl rfl rfl) rfl ?_;refine ah [] rfl ?_;refine ai ⟨?_,rfl,rfl,an⟩;exact Gt some (Gt (Value.int .i64) (cv (by omega)))
 ·rintro e E' a w' hA hG ⟨w1,H',_,hq⟩
  cases e with
  |normal=>
   have hA:=hA.ents _ hq
   clear hq
   refine wp_block (wp_loop_ghost (λ m a w=>∃ k,m=W.length-k/\k<=W.length/\eR ⟨19,[]⟩ a [(3,.int .i64 ((W.length:Int)-1-k)),(1,.pointer (some ⟨b,0,none⟩)),(0,.func (.yield l) #[] #[])]/\G k w) W.length ⟨0,rfl,GB _,?_,hG⟩ ?_)
   ·have e:(W.length:Int)-1-((0:Nat):Int)=(W.length:Int)-1:=by omega
    rw[e];exact hA
   clear hA hG
   rintro m a w ⟨k,rfl,hk,hA,hG⟩
   suffices hWG:WG G 19 _ _ [(3,.int .i64 ((W.length:Int)-1-k)),(1,.pointer (some ⟨b,0,none⟩)),(0,.func (.yield l) #[] #[])] k from hWG _ _ hA hG
   clear hA hG
   by_cases hlt:k<W.length
   ·have ei:(W.length:Int)-1-k=((W.length-1-k:Nat):Int):=by omega
    obtain⟨j,hj⟩:∃ j,W.length-1-k=j:=⟨_,rfl⟩;have hjl:j<W.length:=by omega
    have hget:W[j]?=some (W.getD j 0):=by rw[Gw,Gq hjl];rfl
    rw[ei,hj];refine j7 (kq (Q:=Cs λ E' _=>lK E' [(3,.int .i64 (j:Int)),(1,.pointer (some ⟨b,0,none⟩)),(0,.func (.yield l) #[] #[])]) (S:=[.seg b 0 [.slice (some ⟨g,0,none⟩) W.length c],.seg g 0 (gN W)]) rfl hGS hGa (λ w=>?_) ?_)
    ·refine ad (aa (ae [] rfl ?_));refine fd 8 rfl (by omega) ?_;exact bi rfl (aq ⟨rfl,rfl,rfl,an⟩)
    ·rintro e E1 a1 w1 hA1 hG1 ⟨_,_,_,hq⟩
     cases e with
     |normal=>
      have hA1:=hA1.ents _ hq
      suffices hWG:WG G 19 _ _ [(3,.int .i64 (j:Int)),(1,.pointer (some ⟨b,0,none⟩)),(0,.func (.yield l) #[] #[])] k from hWG _ _ hA1 hG1
      refine j7 λ a w hA hG=>wp_block ?_
      suffices hWG:WG G 19 _ _ [(3,.int .i64 (j:Int)),(1,.pointer (some ⟨b,0,none⟩)),(0,.func (.yield l) #[] #[])] k from hWG _ _ hA hG
      refine j7 (rC ?_);refine sV (S:=[.seg b 0 [.slice (some ⟨g,0,none⟩) W.length c],.seg g 0 (gN W)]) (F:=[(16,.int .i64 ((W.getD j 0:Nat):Int)),(12,.int .i64 (j:Int)),(11,.func (.yield l) #[] #[]),(3,.int .i64 (j:Int)),(1,.pointer (some ⟨b,0,none⟩)),(0,.func (.yield l) #[] #[])]) 6 rfl hGS hGa rfl (λ w=>?_) ?_
      ·show JL _ _ [_,_,_,_,_,_] _ _ _;refine ah [] rfl ?_;refine ab [] (a8 (i:=0) 0 rfl rfl rfl) rfl ?_;refine ah [] rfl ?_;refine ab [] (aG rfl hjl) rfl ?_;refine ab [] (fm (i:=j) 1 rfl rfl rfl (GZ _).symm (yn hget)) rfl ?_;exact ai ⟨rfl,rfl,rfl,rfl,rfl,rfl,an⟩
      ·refine Bm hY hlt rfl rfl rfl (by unfold AR;rw[hj];rfl) rfl ?_;refine sV (S:=[.seg b 0 [.slice (some ⟨g,0,none⟩) W.length c],.seg g 0 (gN W)]) (F:=[(18,.bool false),(3,.int .i64 (j:Int)),(1,.pointer (some ⟨b,0,none⟩)),(0,.func (.yield l) #[] #[])]) 1 rfl hGS hGa rfl (fun w=>?_) (AJ fun a w hA hG=>?_)
       ·exact ae [] rfl ⟨rfl,rfl,rfl,rfl,an⟩
       ·refine wp_cond_false (hA.val (x:=.tmp 18) rfl) (wp_skip ?_)
        suffices hWG:WG G 19 _ _ [(18,.bool false),(3,.int .i64 (j:Int)),(1,.pointer (some ⟨b,0,none⟩)),(0,.func (.yield l) #[] #[])] (k+1) from hWG _ _ hA hG
        refine kq (Q:=Cs λ E' _=>lK E' [(3,.int .i64 ((W.length:Int)-1-((k+1:Nat):Int))),(1,.pointer (some ⟨b,0,none⟩)),(0,.func (.yield l) #[] #[])]) (S:=[.seg b 0 [.slice (some ⟨g,0,none⟩) W.length c],.seg g 0 (gN W)]) rfl hGS hGa (λ w=>?_) ?_
        ·skip
         refine aa (ae [] rfl ?_);refine⟨?_,rfl,rfl,an⟩;exact Gt some (Gt (Value.int .i64) ((cv (by omega)).trans (by omega)))
        ·rintro e E2 a2 w2 hA2 hG2 ⟨_,_,_,hq2⟩
         cases e with
         |normal=>exact⟨W.length-(k+1),by omega,k+1,rfl,hlt,hA2.ents _ hq2,hG2⟩
         |_=>exact hq2.elim
     |_=>exact hq.elim
   ·obtain rfl:k=W.length:=by omega
    refine j7 (kq (Q:=λ e _ _=>e=.exit 0) (S:=[.seg b 0 [.slice (some ⟨g,0,none⟩) W.length c],.seg g 0 (gN W)]) rfl hGS hGa (λ w=>?_) ?_)
    ·refine ad (aa (ae [] rfl ?_));refine eE 8 rfl (by omega) ?_;exact bG rfl (bc rfl)
    ·rintro e E1 a1 w1 hA1 hG1 ⟨_,_,_,rfl⟩;simp only[Exit.then,Exit.inBlock,Ij];exact⟨hA1.defers,_,gH (E:=[]) (hA1.ents [] an) rfl _,⟨_,rfl⟩,hG1⟩
  |_=>exact hq.elim
variable {pf gn cap N:Nat}
theorem Up.get{ns:bQ}:∀ {path:LN} {x i y:Nat},Up ns x path->path[i]?=some y->(ns y).up=path[i+1]?
 |[],_,_,_,h,_=>h.elim
 |[z],x,0,y,⟨h1,h2⟩,hy=>by
  simp only[HB,Gs] at hy;subst hy;subst h1;simpa using h2
 |[z],x,i+1,y,_,hy=>by simp at hy
 |z::z'::l,x,0,y,⟨h1,h2,_⟩,hy=>by
  simp only[HB,Gs] at hy;subst hy;subst h1;simpa using h2
 |z::z'::l,x,i+1,y,⟨_,_,h3⟩,hy=>by
  have:=Up.get (i:=i) (y:=y) h3 (by simpa using hy)
  simpa using this
theorem Up.head{ns:bQ}{path:LN}{x:Nat}(h:Up ns x path):path[0]?=some x:=by
 match path,h with
 |[z],⟨h1,_⟩=>rw[h1];rfl
 |z::_::_,⟨h1,_⟩=>rw[h1];rfl
theorem qn(ns:bQ):∀ (l:LN) (x:Nat),eo ns (l++[x])=dZ (eo ns l) x
 |[],_=>rfl
 |y::l,x=>qn (dZ ns y) l x
theorem v4(W:LN)(i:Nat)(y:Nat)(h:W[i]?=some y):gN (W.take i)++ax [(y:Int)]=gN (W.take (i+1)):=by
 rw[GO,h];simp[gN,ax]
theorem BY(k:Nat)(ns:bQ)(hN:dD N ns)(x:Nat)(hx:x<N)(path:LN)(hU:Up ns x path)(hpl:path.length<=10000)(ns':bQ)(k1:Nat)(hR:zL (eo ns path.reverse) x ns' k1):
 Fn 264 [.pointer (some ⟨pf,0,none⟩),.int .i64 (x:Int)] (aL (bC pf gn cap N k ns)) ([]++bC pf gn cap N k ns) λ _ H'=>H'=bC pf gn cap N (k+(path.length+k1)) ns':=by
 have hlt:=hU.lt hN hx
 generalize hM:aL _=M
 refine Bb Tryz.func264 rfl rfl λ w0=>?_;refine lL (aa ?_);refine bx rfl rfl rfl (λ _=>rfl) λ pb=>?_;refine ai ?_;refine lL (aa ?_);refine ah [] rfl ?_;refine bF rfl rfl rfl rfl rfl rfl rfl (λ _=>rfl) λ pg=>?_;refine fb 1 1 rfl (by decide) ?_;refine ah [] rfl ?_;refine ai ?_;refine lL (ad (aa ?_));have hp0:=hU.head;have hlen:0<path.length:=(Gv.1 hp0).1
 (repeat' (first|refine am (gs:=[999]) rfl ?_|refine ab [999] (af 1 rfl) rfl ?_|refine ab [999] (af 2 rfl) rfl ?_|refine ab [999] (aN rfl (by first|assumption|omega)) rfl ?_|refine ab [999] (aQ 3 rfl rfl rfl rfl rfl (by first|assumption|omega) rfl rfl) rfl ?_))
 refine ai ?_;have e1:(Value.int IntKind.i64 (x:Int)).cells.toList++[]=gN (path.take (0+1)):=by rw[GO,hp0];rfl
 rw[e1];refine a7 5 (v':=.int .i64 (enc path[0+1]?)) rfl (Gt (λ c=>Value.int .i64 (enc c)) (hU.get hp0)) ?_;refine au ?_
 refine bO (σ:=Nat×OA×Nat) (λ s=>[(5,.int .i64 (enc path[s.1+1]?)),(4,.slice s.2.1 (s.1+1) s.2.2),(2,.pointer (some ⟨pb,0,none⟩)),(1,.int .i64 (x:Int)),(0,.pointer (some ⟨pf,0,none⟩))])
  (λ s=>[.own (.slice s.2.1 (s.1+1) s.2.2) 3 1 (s.1+1) (gN (path.take (s.1+1))),blk pb 315 [.pointer (some ⟨pf,0,none⟩)]]++bC pf gn cap N k ns) (λ s=>s.1<path.length) (λ s=>path.length-s.1) (0,some ⟨pg,0,none⟩,1) [0,1,2,3] ⟨rfl,rfl,rfl,rfl,rfl,an⟩ (by decide) rfl hlen ?_
 rintro⟨i,A,c⟩ hi;simp only at hi ⊢;refine ad (ad (aa (ae [] rfl ?_)))
 cases hy:path[i+1]? with
 |some y=>
  have hyN:=hlt y (Gu hy);have hil:i+1<path.length:=(Gv.1 hy).1;refine a7 20 (v':=.bool true) rfl (Gt Value.bool (aR (by simp[enc]))) (bi rfl (aq ?_));refine ad (au ?_);refine aa (ah [] rfl ?_);refine bF rfl rfl rfl rfl rfl rfl rfl (λ _=>rfl) λ g4=>?_;refine bv (n:=i+1) (m:=1) (off:=0) (news:=ax [(y:Int)]) 1 0 rfl rfl rfl rfl rfl rfl (by decide) rfl rfl (aF g4 _ _ (0,0)) (λ _=>rfl) rfl rfl (by omega) (by omega) (λ _ _=>rfl) λ A4 c4=>?_;rw[v4 path (i+1) y hy];refine ah [] rfl ?_;refine ai ?_;show J _ _ _ _ ([_,_,_]++bC pf gn cap N k ns);refine aa ?_
  (repeat' (first|refine am (gs:=[999]) rfl ?_|refine ab [999] (af 2 rfl) rfl ?_|refine ab [999] (af 3 rfl) rfl ?_|refine ab [999] (aN rfl (by first|assumption|omega)) rfl ?_|refine ab [999] (aQ 4 rfl rfl rfl rfl rfl (by first|assumption|omega) rfl rfl) rfl ?_))
  refine ai ?_;exact⟨(i+1,A4,c4),[1,2,3,4],⟨Gt some (Gt (λ c=>Value.int .i64 (enc c)) (hU.get hy)),rfl,rfl,rfl,rfl,an⟩,by decide,rfl,hil,by simp only;omega⟩
 |none=>
  have hil:i+1=path.length:=by have:=List.getElem?_eq_none_iff.1 hy;omega
  refine a7 20 (v':=.bool false) rfl (Gt Value.bool (a6 (by simp[enc]))) (bG rfl (bc ?_));rw[hil,GY];show W _ _ _ _ ([_,_]++bC pf gn cap N k ns)
  clear hi hy hil
  refine AV ?_;intro a w hA hH
  obtain⟨gp,rfl⟩:∃ gp,A=some ⟨gp,0,none⟩:=by
   obtain⟨_,_,h3,_⟩:=aW (X:=⟨w0,M,⟨82,[]⟩⟩) 0 rfl w hH;exact h3 hlen
  revert a w hA hH
  suffices hW:W ⟨w0,M,⟨82,[]⟩⟩ _ _ [(4,.slice (some ⟨gp,0,none⟩) path.length c),(2,.pointer (some ⟨pb,0,none⟩)),(1,.int .i64 (x:Int))] ([.own (.slice (some ⟨gp,0,none⟩) path.length c) 3 1 path.length (gN path),blk pb 315 [.pointer (some ⟨pf,0,none⟩)]]++bC pf gn cap N k ns) from
   λ a w hA hH=>hW a w (hA.ents _ ⟨rfl,rfl,rfl,an⟩) hH
  refine lL (aa ?_);refine ah [] rfl ?_;refine ap [] (t8 (some ⟨gp,0,none⟩) path.length c) rfl (by kernel_rfl) an (λ _=>rfl) ?_;rintro v H' ⟨bk,rfl,rfl⟩;refine⟨rfl,?_⟩;refine ai ?_;refine xB ?_
  refine DG (nr:=path.length) (x:=AR path) (gf:=282) (lb:=[.pointer (some ⟨bk,0,none⟩)]) (S:=[.seg bk 0 [.slice (some ⟨gp,0,none⟩) path.length c],.seg gp 0 (gN path)])
   (λ i=>[blk bk 23 [.slice (some ⟨gp,0,none⟩) path.length c],.own (.slice (some ⟨gp,0,none⟩) path.length c) 3 1 path.length (gN path),blk pb 315 [.pointer (some ⟨pf,0,none⟩)]]++bC pf gn cap N (k+i) (eo ns (path.reverse.take i)))
   rfl (by kernel_rfl) (wc path bk gp c (by omega)) (λ i _=>rfl) rfl ?_ ?_ ?_
  ·intro i W h ch hch;simp only[GD,GP,or_false] at hch
   rcases hch with rfl|rfl
   ·exact aF _ _ _ _ W (h.holds (blk bk 23 [.slice (some ⟨gp,0,none⟩) path.length c]) (by simp))
   ·exact cp W (h.holds (.own (.slice (some ⟨gp,0,none⟩) path.length c) 3 1 path.length (gN path)) (by simp))
  ·intro r D i rdy bsy hi;refine f6 rfl ?_;refine ae [] rfl ⟨rfl,?_⟩
   have hrev:path.reverse[i]?=some (path.getD (path.length-1-i) 0):=by
    rw[List.getElem?_reverse hi,Gw,Gq (by omega)];rfl
   obtain⟨y,hy⟩:∃ y,path.getD (path.length-1-i) 0=y:=⟨_,rfl⟩;rw[hy] at hrev;have hyN:y<N:=hlt y (by have:=Gu hrev;simpa using this);have hNi:dD N (eo ns (path.reverse.take i)):=hN.pushes λ z hz=>hlt z (by have:=Hl hz;simpa using this);refine uS (f6 rfl ?_);refine ab [] (af (v:=.pointer (some ⟨pf,0,none⟩)) 4 rfl) rfl ?_;refine ah [] rfl ?_;refine aI 38 (v':=.int .i64 (y:Int)) rfl (Gt (λ z:Nat=>Value.int .i64 (z:Int)) hy) ?_;refine bY (aH.re (A:=[_,_,_,_,_]++bC pf gn cap N (k+i) (eo ns (path.reverse.take i))) (R:=[]) [5,6,0,1,2,3,4] rfl (by decide)) ?_;refine aw [] (jw (k+i) _ hNi y hyN) rfl rfl rfl rfl (by kernel_rfl) aH.refl an (λ _=>rfl) ?_;rintro v H' rfl;refine⟨rfl,ai ⟨[2,3,4,5,6,0,1],by decide,?_⟩⟩;rw[GO,hrev];show _=some (_::_::([_,_,_]++bC pf gn cap N (k+i+1) (eo ns (path.reverse.take i++[y]))));rw[qn];rfl
  ·intro D a w hA hH;have hfull:path.reverse.take path.length=path.reverse:=List.take_of_length_le (by simp);rw[hfull] at hH;show Code.wp Tryz.prog _ _ a w;refine D7 (fn:=Tryz.f264) (E:=[(2,.pointer (some ⟨pb,0,none⟩)),(1,.int .i64 (x:Int))]) (H:=bC pf gn cap N (k+path.length) (eo ns path.reverse)++[.obj D pu,blk pb 315 [.pointer (some ⟨pf,0,none⟩)]]) (D:=D) (Rr:=fun _ H'=>H'=bC pf gn cap N (k+(path.length+k1)) ns') ?_ (hA.ents _ ⟨rfl,rfl,trivial⟩) (hH.picks [4,5,0,3] (by decide) rfl);have hN0:dD N (eo ns path.reverse):=hN.pushes fun z hz=>hlt z (by simpa using hz);refine au ?_
   refine bO (σ:=bQ×Nat) (λ _=>[(2,.pointer (some ⟨pb,0,none⟩)),(1,.int .i64 (x:Int))])
    (λ s=>bC pf gn cap N (k+path.length+(k1-s.2)) s.1++[.obj D pu,blk pb 315 [.pointer (some ⟨pf,0,none⟩)]]) (λ s=>dD N s.1/\zL s.1 x ns' s.2/\s.2<=k1) (λ s=>s.2) (eo ns path.reverse,k1) [0,1,2,3] ⟨rfl,rfl,an⟩ (by decide) ?_ ⟨hN0,hR,GF _⟩ ?_
   ·simp only[HC,HZ];rfl
   rintro⟨m,j⟩ ⟨hNm,hRm,hj⟩;simp only at hNm hRm hj ⊢;refine ad (ad (aa ?_))
   (repeat' (first|refine am (gs:=[999]) rfl ?_|refine ab [999] (af 3 rfl) rfl ?_|refine ab [999] (af 0 rfl) rfl ?_|refine ab [999] (aN rfl (by first|assumption|omega)) rfl ?_|refine ab [999] (aQ 1 rfl rfl rfl rfl rfl (by first|assumption|omega) rfl rfl) rfl ?_))
   refine ai ?_
   cases hRm with
   |done hup=>
    refine a7 48 (v':=.bool false) rfl (Gt Value.bool (a6 (by show ¬ enc (ns' x).up≠-1;rw[hup];simp[enc]))) (bG rfl (bc ?_));refine⟨.inl rfl,bC pf gn cap N (k+path.length+(k1-0)) ns',[2,0,1],by decide,rfl,[],rfl,?_⟩;show _=bC _ _ _ _ _ _;rw[show k+path.length+(k1-0)=k+(path.length+k1) by omega]
   |one hup hup2 hrest=>
    rename_i p j;have hpN:p<N:=by have:=hNm.up x hx;rw[hup] at this;exact this
    refine a7 48 (v':=.bool true) rfl (Gt Value.bool (aR (by show enc (m x).up≠-1;rw[hup];simp[enc]))) (bi rfl (aq ?_));refine au (ad (aa ?_))
    (repeat' (first|refine am (gs:=[999]) rfl ?_|refine ab [999] (af 3 rfl) rfl ?_|refine ab [999] (af 0 rfl) rfl ?_|refine ab [999] (aN rfl (by first|assumption|omega)) rfl ?_|refine ab [999] (aQ 1 rfl rfl rfl rfl rfl (by first|assumption|omega) rfl rfl) rfl ?_))
    refine ai ?_;refine a7 8 (v':=.int .i64 (p:Int)) rfl (Gt (Value.int .i64) (ee hup)) ?_;refine ad (ad (aa ?_))
    (repeat' (first|refine am (gs:=[999]) rfl ?_|refine ab [999] (af 3 rfl) rfl ?_|refine ab [999] (af 0 rfl) rfl ?_|refine ab [999] (aN rfl (by first|assumption|omega)) rfl ?_|refine ab [999] (aQ 1 rfl rfl rfl rfl rfl (by first|assumption|omega) rfl rfl) rfl ?_))
    refine ai ?_;refine a7 65 (v':=.bool false) rfl (Gt Value.bool (a6 (by show ¬ enc (m p).up≠-1;rw[hup2];simp[enc]))) (bG rfl (aq ?_));refine aa ?_;refine ab [] (af 3 rfl) rfl ?_;refine ah [] rfl ?_;refine aw [] (jB _ m hNm x p hx hup) rfl rfl rfl rfl (by kernel_rfl) aH.refl an (λ _=>rfl) ?_;rintro v H' rfl;refine⟨rfl,ai ?_⟩;refine⟨(c9 m x p,j),[0,1,2,3],⟨rfl,rfl,an⟩,by decide,?_,⟨hNm.rotate hx hpN,hrest,by omega⟩,by simp only;omega⟩;show some (bC _ _ _ _ (k+path.length+(k1-(j+1))+1) _++_)=_;rw[show k+path.length+(k1-(j+1))+1=k+path.length+(k1-j) by omega]
   |line hup hup2 hs hq hrest=>
    rename_i p g q j;have hpN:p<N:=by have:=hNm.up x hx;rw[hup] at this;exact this
    refine a7 48 (v':=.bool true) rfl (Gt Value.bool (aR (by show enc (m x).up≠-1;rw[hup];simp[enc]))) (bi rfl (aq ?_));refine au (ad (aa ?_))
    (repeat' (first|refine am (gs:=[999]) rfl ?_|refine ab [999] (af 3 rfl) rfl ?_|refine ab [999] (af 0 rfl) rfl ?_|refine ab [999] (aN rfl (by first|assumption|omega)) rfl ?_|refine ab [999] (aQ 1 rfl rfl rfl rfl rfl (by first|assumption|omega) rfl rfl) rfl ?_))
    refine ai ?_;refine a7 8 (v':=.int .i64 (p:Int)) rfl (Gt (Value.int .i64) (ee hup)) ?_;refine ad (ad (aa ?_))
    (repeat' (first|refine am (gs:=[999]) rfl ?_|refine ab [999] (af 3 rfl) rfl ?_|refine ab [999] (af 0 rfl) rfl ?_|refine ab [999] (aN rfl (by first|assumption|omega)) rfl ?_|refine ab [999] (aQ 1 rfl rfl rfl rfl rfl (by first|assumption|omega) rfl rfl) rfl ?_))
    refine ai ?_;refine a7 65 (v':=.bool true) rfl (Gt Value.bool (aR (by show enc (m p).up≠-1;rw[hup2];simp[enc]))) (bi rfl ?_);refine ad ?_;refine bu 7 (cZ [0,1,3,4]++[(2,false),(5,false)]++cZ [6]) [0,1,2,3] (by kernel_rfl) (by decide) rfl ?_
    (repeat' (first|refine bB (gs:=[999]) rfl rfl ?_|refine aj [999] rfl (af 3 rfl) rfl ?_))
    refine bg rfl ?_;refine aw [] (lj _ m hNm x p hx hup) rfl rfl rfl rfl (by kernel_rfl) aH.refl an (λ _=>rfl) ?_;rintro v H' ⟨rfl,rfl⟩;refine⟨rfl,?_⟩;refine ai ⟨⟨[0,1,2,3],by decide,rfl⟩,?_⟩;refine bg rfl ?_;refine aw [] (lj _ m hNm p g hpN hup2) rfl rfl rfl rfl (by kernel_rfl) aH.refl an (λ _=>rfl) ?_;rintro v H' ⟨rfl,rfl⟩;refine⟨rfl,?_⟩;refine ai ⟨⟨[0,1,2,3],by decide,rfl⟩,?_⟩
    (repeat' (refine bB (gs:=[999]) rfl rfl ?_))
    refine bq ?_;refine ai ?_;refine a7 72 (v':=.bool true) rfl (Gt Value.bool (aR (by rw[hs]))) (bi rfl ?_);have hgN:g<N:=by have:=hNm.up p hpN;rw[hup2] at this;exact this
    have hN2:=hNm.rotate hpN hgN;refine aa ?_;refine ab [] (af 3 rfl) rfl ?_;refine ah [] rfl ?_;refine aw [] (jB _ m hNm p g hpN hup2) rfl rfl rfl rfl (by kernel_rfl) aH.refl an (λ _=>rfl) ?_;rintro v H' rfl;refine⟨rfl,ai ?_⟩;refine aa ?_;refine ab [] (af 3 rfl) rfl ?_;refine ah [] rfl ?_;refine aw [] (jB _ (c9 m p g) hN2 x q hx hq) rfl rfl rfl rfl (by kernel_rfl) aH.refl an (λ _=>rfl) ?_;rintro v H' rfl;refine⟨rfl,ai ?_⟩;have hqN:q<N:=by have:=hN2.up x hx;rw[hq] at this;exact this
    refine⟨(c9 (c9 m p g) x q,j),[0,1,2,3],⟨rfl,rfl,an⟩,by decide,?_,⟨hN2.rotate hx hqN,hrest,by omega⟩,by simp only;omega⟩;show some (bC _ _ _ _ (k+path.length+(k1-(j+2))+1+1) _++_)=_;rw[show k+path.length+(k1-(j+2))+1+1=k+path.length+(k1-j) by omega]
   |bent hup hup2 hs hq hrest=>
    rename_i p g q j;have hpN:p<N:=by have:=hNm.up x hx;rw[hup] at this;exact this
    refine a7 48 (v':=.bool true) rfl (Gt Value.bool (aR (by show enc (m x).up≠-1;rw[hup];simp[enc]))) (bi rfl (aq ?_));refine au (ad (aa ?_))
    (repeat' (first|refine am (gs:=[999]) rfl ?_|refine ab [999] (af 3 rfl) rfl ?_|refine ab [999] (af 0 rfl) rfl ?_|refine ab [999] (aN rfl (by first|assumption|omega)) rfl ?_|refine ab [999] (aQ 1 rfl rfl rfl rfl rfl (by first|assumption|omega) rfl rfl) rfl ?_))
    refine ai ?_;refine a7 8 (v':=.int .i64 (p:Int)) rfl (Gt (Value.int .i64) (ee hup)) ?_;refine ad (ad (aa ?_))
    (repeat' (first|refine am (gs:=[999]) rfl ?_|refine ab [999] (af 3 rfl) rfl ?_|refine ab [999] (af 0 rfl) rfl ?_|refine ab [999] (aN rfl (by first|assumption|omega)) rfl ?_|refine ab [999] (aQ 1 rfl rfl rfl rfl rfl (by first|assumption|omega) rfl rfl) rfl ?_))
    refine ai ?_;refine a7 65 (v':=.bool true) rfl (Gt Value.bool (aR (by show enc (m p).up≠-1;rw[hup2];simp[enc]))) (bi rfl ?_);refine ad ?_;refine bu 7 (cZ [0,1,3,4]++[(2,false),(5,false)]++cZ [6]) [0,1,2,3] (by kernel_rfl) (by decide) rfl ?_
    (repeat' (first|refine bB (gs:=[999]) rfl rfl ?_|refine aj [999] rfl (af 3 rfl) rfl ?_))
    refine bg rfl ?_;refine aw [] (lj _ m hNm x p hx hup) rfl rfl rfl rfl (by kernel_rfl) aH.refl an (λ _=>rfl) ?_;rintro v H' ⟨rfl,rfl⟩;refine⟨rfl,?_⟩;refine ai ⟨⟨[0,1,2,3],by decide,rfl⟩,?_⟩;refine bg rfl ?_;refine aw [] (lj _ m hNm p g hpN hup2) rfl rfl rfl rfl (by kernel_rfl) aH.refl an (λ _=>rfl) ?_;rintro v H' ⟨rfl,rfl⟩;refine⟨rfl,?_⟩;refine ai ⟨⟨[0,1,2,3],by decide,rfl⟩,?_⟩
    (repeat' (refine bB (gs:=[999]) rfl rfl ?_))
    refine bq ?_;refine ai ?_;refine a7 72 (v':=.bool false) rfl (Gt Value.bool (a6 (by omega))) (bG rfl ?_);have hN2:=hNm.rotate hx hpN;refine aa ?_;refine ab [] (af 3 rfl) rfl ?_;refine ah [] rfl ?_;refine aw [] (jB _ m hNm x p hx hup) rfl rfl rfl rfl (by kernel_rfl) aH.refl an (λ _=>rfl) ?_;rintro v H' rfl;refine⟨rfl,ai ?_⟩;refine aa ?_;refine ab [] (af 3 rfl) rfl ?_;refine ah [] rfl ?_;refine aw [] (jB _ (c9 m x p) hN2 x q hx hq) rfl rfl rfl rfl (by kernel_rfl) aH.refl an (λ _=>rfl) ?_;rintro v H' rfl;refine⟨rfl,ai ?_⟩;have hqN:q<N:=by have:=hN2.up x hx;rw[hq] at this;exact this
    refine⟨(c9 (c9 m x p) x q,j),[0,1,2,3],⟨rfl,rfl,an⟩,by decide,?_,⟨hN2.rotate hx hqN,hrest,by omega⟩,by simp only;omega⟩;show some (bC _ _ _ _ (k+path.length+(k1-(j+2))+1+1) _++_)=_;rw[show k+path.length+(k1-(j+2))+1+1=k+path.length+(k1-j) by omega]
variable {pf gn cap N:Nat}
theorem dL(k:Nat)(ns:bQ)(hN:dD N ns)(x:Nat)(hx:x<N)(ns':bQ)(j:Nat)(h:eI ns x ns' j):
 Fn 264 [.pointer (some ⟨pf,0,none⟩),.int .i64 (x:Int)] (aL (bC pf gn cap N k ns)) ([]++bC pf gn cap N k ns) λ _ H'=>H'=bC pf gn cap N (k+j) ns':=by
 obtain⟨path,k1,h1,h2,h3,rfl⟩:=h;exact BY k ns hN x hx path h1 h2 ns' k1 h3
theorem ez(k:Nat)(ns:bQ)(x:Nat)(hx:x<N):Fn 263 [.pointer (some ⟨pf,0,none⟩),.int .i64 (x:Int)] (aL (bC pf gn cap N k ns)) ([]++bC pf gn cap N k ns)
 λ v H'=>v=.bool true/\H'=bC pf gn cap N k ns:=by
 generalize hM:aL _=M
 refine aJ Tryz.func263 rfl rfl λ w0=>?_;refine ad (aa (ae [] rfl ?_));refine ad (aa (ah [] rfl ?_));refine bd 7 rfl (by omega) ?_
 (repeat' (first|refine ai ?_|refine am (gs:=[999]) rfl ?_|refine ab [999] (af 0 rfl) rfl ?_|refine ab [999] (aN rfl (by first|assumption|omega)) rfl ?_|refine ab [999] (ao (m:=0) rfl (by decide)) rfl ?_|refine ab [999] (ao (m:=1) rfl (by decide)) rfl ?_|refine ab [999] (a9 1 rfl rfl rfl rfl (by first|assumption|omega) (by first|assumption|omega)) rfl ?_|refine ab [999] (aQ 1 rfl rfl rfl rfl rfl (by first|assumption|omega) rfl rfl) rfl ?_))
 refine fd 4 rfl (by omega) ?_;exact ay ⟨_,rfl,rfl,rfl⟩
theorem oX(k:Nat)(ns:bQ)(hN:dD N ns)(x:Nat)(hx:x<N)(s:Nat)(hs:s<2)(ns':bQ)(y j:Nat)(h:E0 s ns x ns' y j):
 Fn 265 [.pointer (some ⟨pf,0,none⟩),.int .i64 (x:Int),.int .i64 (s:Int)] (aL (bC pf gn cap N k ns)) ([]++bC pf gn cap N k ns) λ v H'=>v=.int .i64 (y:Int)/\H'=bC pf gn cap N (k+j) ns':=by
 obtain⟨ns1,k1,k2,hd,hS,rfl⟩:=h
 generalize hM:aL _=M
 refine aJ Tryz.func265 rfl rfl λ w0=>?_;refine ad (aa (ae [] rfl ?_));refine fj [(1,.int .i64 (y:Int)),(0,.pointer (some ⟨pf,0,none⟩))] (bC pf gn cap N (k+k1) ns1) ?_ ?_
 ·refine au ?_
  refine bO (σ:=bQ×Nat×Nat) (λ t=>[(2,.int .i64 (s:Int)),(1,.int .i64 (t.2.1:Int)),(0,.pointer (some ⟨pf,0,none⟩))])
   (λ t=>bC pf gn cap N (k+(k1-t.2.2)) t.1) (λ t=>dD N t.1/\t.2.1<N/\Em s t.1 t.2.1 ns1 y t.2.2/\t.2.2<=k1) (λ t=>t.2.2) (ns,x,k1) [0,1] ⟨rfl,rfl,rfl,an⟩ (by decide) ?_ ⟨hN,hx,hd,GF _⟩ ?_
  ·simp only[HC,HZ];rfl
  rintro⟨m,z,j⟩ ⟨hNm,hz,hdm,hj⟩;simp only at hNm hz hdm hj ⊢;refine ad (ad (aa ?_))
  (repeat' (first|refine ai ?_|refine am (gs:=[999]) rfl ?_|refine ab [999] (af 0 rfl) rfl ?_|refine ab [999] (aN rfl (by first|assumption|omega)) rfl ?_|refine ab [999] (ao (m:=0) rfl (by decide)) rfl ?_|refine ab [999] (ao (m:=1) rfl (by decide)) rfl ?_|refine ab [999] (a9 1 rfl rfl rfl rfl (by first|assumption|omega) (by first|assumption|omega)) rfl ?_|refine ab [999] (aQ 1 rfl rfl rfl rfl rfl (by first|assumption|omega) rfl rfl) rfl ?_))
  refine ab [] (ao rfl hs) rfl ?_
  (repeat' (first|refine ai ?_|refine am (gs:=[999]) rfl ?_|refine ab [999] (af 0 rfl) rfl ?_|refine ab [999] (aN rfl (by first|assumption|omega)) rfl ?_|refine ab [999] (ao (m:=0) rfl (by decide)) rfl ?_|refine ab [999] (ao (m:=1) rfl (by decide)) rfl ?_|refine ab [999] (a9 1 rfl rfl rfl rfl (by first|assumption|omega) (by first|assumption|omega)) rfl ?_|refine ab [999] (aQ 1 rfl rfl rfl rfl rfl (by first|assumption|omega) rfl rfl) rfl ?_))
  cases hdm with
  |done h0=>
   refine a7 17 (v':=.bool false) rfl (Gt Value.bool (a6 (by rw[h0];simp[enc]))) (bG rfl (bc ?_));exact⟨[0,1],⟨rfl,rfl,an⟩,by decide,rfl⟩
  |go h1 h2=>
   rename_i c j;have hc:=hNm.down hz s;rw[h1] at hc;refine a7 17 (v':=.bool true) rfl (Gt Value.bool (aR (by rw[h1];simp[enc]))) (bi rfl (aq ?_));refine au (ad (aa ?_))
   (repeat' (first|refine ai ?_|refine am (gs:=[999]) rfl ?_|refine ab [999] (af 0 rfl) rfl ?_|refine ab [999] (aN rfl (by first|assumption|omega)) rfl ?_|refine ab [999] (ao (m:=0) rfl (by decide)) rfl ?_|refine ab [999] (ao (m:=1) rfl (by decide)) rfl ?_|refine ab [999] (a9 1 rfl rfl rfl rfl (by first|assumption|omega) (by first|assumption|omega)) rfl ?_|refine ab [999] (aQ 1 rfl rfl rfl rfl rfl (by first|assumption|omega) rfl rfl) rfl ?_))
   refine ab [] (ao rfl hs) rfl ?_
   (repeat' (first|refine ai ?_|refine am (gs:=[999]) rfl ?_|refine ab [999] (af 0 rfl) rfl ?_|refine ab [999] (aN rfl (by first|assumption|omega)) rfl ?_|refine ab [999] (ao (m:=0) rfl (by decide)) rfl ?_|refine ab [999] (ao (m:=1) rfl (by decide)) rfl ?_|refine ab [999] (a9 1 rfl rfl rfl rfl (by first|assumption|omega) (by first|assumption|omega)) rfl ?_|refine ab [999] (aQ 1 rfl rfl rfl rfl rfl (by first|assumption|omega) rfl rfl) rfl ?_))
   refine a7 1 (v':=.int .i64 (c:Int)) rfl (Gt (Value.int .i64) (ee h1)) ?_;refine aa (ah [] rfl ?_);refine aw [] (jw _ m hNm c hc) rfl rfl rfl rfl (by kernel_rfl) aH.refl an (λ _=>rfl) ?_;rintro v H' rfl;refine⟨rfl,ai ?_⟩;refine⟨(dZ m c,c,j),[0,1],⟨rfl,rfl,rfl,an⟩,by decide,?_,⟨hNm.push hc,hc,h2,by show j<=k1;omega⟩,by show j<j+1;omega⟩;show some (bC _ _ _ _ (k+(k1-(j+1))+1) _)=_;rw[show k+(k1-(j+1))+1=k+(k1-j) by omega]
 ·obtain⟨hN1,hy⟩:=dD.dwn hd hx hN;refine ad (aa (ah [] rfl ?_));refine aw [] (dL _ _ hN1 _ hy _ _ hS) rfl rfl rfl rfl (by kernel_rfl) aH.refl an (λ _=>rfl) ?_;rintro v H' rfl;refine⟨rfl,ai ?_⟩;refine ad (aa (ae [] rfl ?_));refine ay ⟨_,rfl,rfl,?_⟩;show bC _ _ _ _ (k+k1+k2) _=_;rw[He]
theorem zg(k:Nat)(ns:bQ)(hN:dD N ns)(x:Nat)(hx:x<N)(ns':bQ)(y j:Nat)(h:Edge 0 ns x ns' y j):
 Fn 274 [.pointer (some ⟨pf,0,none⟩),.int .i64 (x:Int)] (aL (bC pf gn cap N k ns)) ([]++bC pf gn cap N k ns) λ v H'=>v=.int .i64 (y:Int)/\H'=bC pf gn cap N (k+j) ns':=by
 obtain⟨ns1,k1,k2,hS,hE,rfl⟩:=h
 generalize hM:aL _=M
 refine aJ Tryz.func274 rfl rfl λ w0=>?_;refine ad (aa (ae [] rfl ?_));refine ad (ad (aa (ah [] rfl ?_)));refine aw [] (ez _ _ _ hx) rfl rfl rfl rfl (by kernel_rfl) aH.refl an (λ _=>rfl) ?_;rintro v H' ⟨rfl,rfl⟩;refine⟨rfl,?_⟩
 (repeat' (first|refine ai ?_|refine am (gs:=[999]) rfl ?_|refine ab [999] (af 0 rfl) rfl ?_|refine ab [999] (aN rfl (by first|assumption|omega)) rfl ?_|refine ab [999] (ao (m:=0) rfl (by decide)) rfl ?_|refine ab [999] (ao (m:=1) rfl (by decide)) rfl ?_|refine ab [999] (a9 1 rfl rfl rfl rfl (by first|assumption|omega) (by first|assumption|omega)) rfl ?_|refine ab [999] (aQ 1 rfl rfl rfl rfl rfl (by first|assumption|omega) rfl rfl) rfl ?_))
 refine bG rfl ?_;refine aq (ad (aa (ah [] rfl ?_)));refine aw [] (dL _ _ hN _ hx _ _ hS) rfl rfl rfl rfl (by kernel_rfl) aH.refl an (λ _=>rfl) ?_;rintro v H' rfl;refine⟨rfl,ai ?_⟩;refine ad (aa (ah [] rfl ?_));refine aw [] (oX _ ns1 (hN.splay hx hS) x hx 0 (by decide) ns' y k2 hE) rfl rfl rfl rfl (by kernel_rfl) aH.refl an (λ _=>rfl) ?_;rintro v H' ⟨rfl,rfl⟩;refine⟨rfl,?_⟩
 (repeat' (first|refine ai ?_|refine am (gs:=[999]) rfl ?_|refine ab [999] (af 0 rfl) rfl ?_|refine ab [999] (aN rfl (by first|assumption|omega)) rfl ?_|refine ab [999] (ao (m:=0) rfl (by decide)) rfl ?_|refine ab [999] (ao (m:=1) rfl (by decide)) rfl ?_|refine ab [999] (a9 1 rfl rfl rfl rfl (by first|assumption|omega) (by first|assumption|omega)) rfl ?_|refine ab [999] (aQ 1 rfl rfl rfl rfl rfl (by first|assumption|omega) rfl rfl) rfl ?_))
 refine ay ⟨_,rfl,rfl,?_⟩;show bC _ _ _ _ (k+k1+k2) _=_;rw[He]
theorem pq(k:Nat)(ns:bQ)(hN:dD N ns)(x:Nat)(hx:x<N)(ns':bQ)(y j:Nat)(h:Edge 1 ns x ns' y j):
 Fn 251 [.pointer (some ⟨pf,0,none⟩),.int .i64 (x:Int)] (aL (bC pf gn cap N k ns)) ([]++bC pf gn cap N k ns) λ v H'=>v=.int .i64 (y:Int)/\H'=bC pf gn cap N (k+j) ns':=by
 obtain⟨ns1,k1,k2,hS,hE,rfl⟩:=h
 generalize hM:aL _=M
 refine aJ Tryz.func251 rfl rfl λ w0=>?_;refine ad (aa (ae [] rfl ?_));refine ad (ad (aa (ah [] rfl ?_)));refine aw [] (ez _ _ _ hx) rfl rfl rfl rfl (by kernel_rfl) aH.refl an (λ _=>rfl) ?_;rintro v H' ⟨rfl,rfl⟩;refine⟨rfl,?_⟩
 (repeat' (first|refine ai ?_|refine am (gs:=[999]) rfl ?_|refine ab [999] (af 0 rfl) rfl ?_|refine ab [999] (aN rfl (by first|assumption|omega)) rfl ?_|refine ab [999] (ao (m:=0) rfl (by decide)) rfl ?_|refine ab [999] (ao (m:=1) rfl (by decide)) rfl ?_|refine ab [999] (a9 1 rfl rfl rfl rfl (by first|assumption|omega) (by first|assumption|omega)) rfl ?_|refine ab [999] (aQ 1 rfl rfl rfl rfl rfl (by first|assumption|omega) rfl rfl) rfl ?_))
 refine bG rfl ?_;refine aq (ad (aa (ah [] rfl ?_)));refine aw [] (dL _ _ hN _ hx _ _ hS) rfl rfl rfl rfl (by kernel_rfl) aH.refl an (λ _=>rfl) ?_;rintro v H' rfl;refine⟨rfl,ai ?_⟩;refine ad (aa (ah [] rfl ?_));refine aw [] (oX _ ns1 (hN.splay hx hS) x hx 1 (by decide) ns' y k2 hE) rfl rfl rfl rfl (by kernel_rfl) aH.refl an (λ _=>rfl) ?_;rintro v H' ⟨rfl,rfl⟩;refine⟨rfl,?_⟩
 (repeat' (first|refine ai ?_|refine am (gs:=[999]) rfl ?_|refine ab [999] (af 0 rfl) rfl ?_|refine ab [999] (aN rfl (by first|assumption|omega)) rfl ?_|refine ab [999] (ao (m:=0) rfl (by decide)) rfl ?_|refine ab [999] (ao (m:=1) rfl (by decide)) rfl ?_|refine ab [999] (a9 1 rfl rfl rfl rfl (by first|assumption|omega) (by first|assumption|omega)) rfl ?_|refine ab [999] (aQ 1 rfl rfl rfl rfl rfl (by first|assumption|omega) rfl rfl) rfl ?_))
 refine ay ⟨_,rfl,rfl,?_⟩;show bC _ _ _ _ (k+k1+k2) _=_;rw[He]
variable {pf gn cap N:Nat}
theorem BB(k:Nat)(ns:bQ)(hN:dD N ns)(x:Nat)(hx:x<N)(ns':bQ)(j:Nat)(h:eI ns x ns' j):
 Fn 266 [.pointer (some ⟨pf,0,none⟩),.int .i64 (x:Int)] (aL (bC pf gn cap N k ns)) ([]++bC pf gn cap N k ns) λ v H'=>v=.int .i64 (ns' x).value/\H'=bC pf gn cap N (k+j) ns':=by
 generalize hM:aL _=M
 refine aJ Tryz.func266 rfl rfl λ w0=>?_;refine ad (aa (ae [] rfl ?_));refine ad (ad (aa (ah [] rfl ?_)));refine aw [] (ez _ _ _ hx) rfl rfl rfl rfl (by kernel_rfl) aH.refl an (λ _=>rfl) ?_;rintro v H' ⟨rfl,rfl⟩;refine⟨rfl,?_⟩
 (repeat' (first|refine ai ?_|refine am (gs:=[999]) rfl ?_|refine ab [999] (af 0 rfl) rfl ?_|refine ab [999] (aN rfl (by first|assumption|omega)) rfl ?_|refine ab [999] (ao (m:=0) rfl (by decide)) rfl ?_|refine ab [999] (ao (m:=1) rfl (by decide)) rfl ?_|refine ab [999] (a9 1 rfl rfl rfl rfl (by first|assumption|omega) (by first|assumption|omega)) rfl ?_|refine ab [999] (aQ 1 rfl rfl rfl rfl rfl (by first|assumption|omega) rfl rfl) rfl ?_))
 refine bG rfl ?_;refine aq (ad (aa (ah [] rfl ?_)));refine aw [] (dL _ _ hN _ hx _ _ h) rfl rfl rfl rfl (by kernel_rfl) aH.refl an (λ _=>rfl) ?_;rintro v H' rfl;refine⟨rfl,ai ?_⟩;refine ad (aa ?_)
 (repeat' (first|refine ai ?_|refine am (gs:=[999]) rfl ?_|refine ab [999] (af 0 rfl) rfl ?_|refine ab [999] (aN rfl (by first|assumption|omega)) rfl ?_|refine ab [999] (ao (m:=0) rfl (by decide)) rfl ?_|refine ab [999] (ao (m:=1) rfl (by decide)) rfl ?_|refine ab [999] (a9 1 rfl rfl rfl rfl (by first|assumption|omega) (by first|assumption|omega)) rfl ?_|refine ab [999] (aQ 1 rfl rfl rfl rfl rfl (by first|assumption|omega) rfl rfl) rfl ?_))
 exact ay ⟨_,rfl,rfl,rfl⟩
theorem tl(k:Nat)(ns:bQ)(hN:dD N ns)(x:Nat)(hx:x<N)(ns':bQ)(j:Nat)(h:eI ns x ns' j):
 Fn 267 [.pointer (some ⟨pf,0,none⟩),.int .i64 (x:Int)] (aL (bC pf gn cap N k ns)) ([]++bC pf gn cap N k ns) λ _ H'=>H'=bC pf gn cap N (k+j) (fU ns' (some x) 0 true):=by
 generalize hM:aL _=M
 refine aJ Tryz.func267 rfl rfl λ w0=>?_;refine ad (aa (ah [] rfl ?_));refine aw [] (ez _ _ _ hx) rfl rfl rfl rfl (by kernel_rfl) aH.refl an (λ _=>rfl) ?_;rintro v H' ⟨rfl,rfl⟩;refine⟨rfl,?_⟩
 (repeat' (first|refine ai ?_|refine am (gs:=[999]) rfl ?_|refine ab [999] (af 0 rfl) rfl ?_|refine ab [999] (aN rfl (by first|assumption|omega)) rfl ?_|refine ab [999] (ao (m:=0) rfl (by decide)) rfl ?_|refine ab [999] (ao (m:=1) rfl (by decide)) rfl ?_|refine ab [999] (a9 1 rfl rfl rfl rfl (by first|assumption|omega) (by first|assumption|omega)) rfl ?_|refine ab [999] (aQ 1 rfl rfl rfl rfl rfl (by first|assumption|omega) rfl rfl) rfl ?_))
 refine bi rfl ?_;refine ad (aa (ah [] rfl ?_));refine aw [] (dL _ _ hN _ hx _ _ h) rfl rfl rfl rfl (by kernel_rfl) aH.refl an (λ _=>rfl) ?_;rintro v H' rfl;refine⟨rfl,ai ?_⟩;refine aa (ah [] rfl ?_);refine aw [] (pa _ ns' (some x) hx 0 true) rfl rfl rfl rfl (by kernel_rfl) aH.refl an (λ _=>rfl) ?_;rintro v H' rfl;refine⟨rfl,ai ?_⟩;exact⟨_,rfl,rfl⟩
theorem qS(k:Nat)(ns:bQ)(hN:dD N ns)(x:Nat)(hx:x<N)(ns':bQ)(j:Nat)(h:eI ns x ns' j):
 Fn 273 [.pointer (some ⟨pf,0,none⟩),.int .i64 (x:Int)] (aL (bC pf gn cap N k ns)) ([]++bC pf gn cap N k ns) λ _ H'=>H'=bC pf gn cap N (k+j) (match (ns' x).l with
  |none=>ns'
  |some c=>fk (gy (gy ns' c { ns' c with up:=none }) x (cJ (gy ns' c { ns' c with up:=none } x) 0 none)) x):=by
 have hN':=hN.splay hx h
 generalize hM:aL _=M
 refine aJ Tryz.func273 rfl rfl λ w0=>?_;refine ad (aa (ae [] rfl ?_));refine ad (ad (aa (ah [] rfl ?_)));refine aw [] (ez _ _ _ hx) rfl rfl rfl rfl (by kernel_rfl) aH.refl an (λ _=>rfl) ?_;rintro v H' ⟨rfl,rfl⟩;refine⟨rfl,?_⟩
 (repeat' (first|refine ai ?_|refine am (gs:=[999]) rfl ?_|refine ab [999] (af 0 rfl) rfl ?_|refine ab [999] (aN rfl (by first|assumption|omega)) rfl ?_|refine ab [999] (ao (m:=0) rfl (by decide)) rfl ?_|refine ab [999] (ao (m:=1) rfl (by decide)) rfl ?_|refine ab [999] (a9 1 rfl rfl rfl rfl (by first|assumption|omega) (by first|assumption|omega)) rfl ?_|refine ab [999] (aQ 1 rfl rfl rfl rfl rfl (by first|assumption|omega) rfl rfl) rfl ?_))
 refine bG rfl ?_;refine aq (ad (aa (ah [] rfl ?_)));refine aw [] (dL _ _ hN _ hx _ _ h) rfl rfl rfl rfl (by kernel_rfl) aH.refl an (λ _=>rfl) ?_;rintro v H' rfl;refine⟨rfl,ai ?_⟩;refine ad (ad (aa ?_))
 (repeat' (first|refine ai ?_|refine am (gs:=[999]) rfl ?_|refine ab [999] (af 0 rfl) rfl ?_|refine ab [999] (aN rfl (by first|assumption|omega)) rfl ?_|refine ab [999] (ao (m:=0) rfl (by decide)) rfl ?_|refine ab [999] (ao (m:=1) rfl (by decide)) rfl ?_|refine ab [999] (a9 1 rfl rfl rfl rfl (by first|assumption|omega) (by first|assumption|omega)) rfl ?_|refine ab [999] (aQ 1 rfl rfl rfl rfl rfl (by first|assumption|omega) rfl rfl) rfl ?_))
 refine ad (aa (ae [] rfl ?_))
 cases hl:(ns' x).l with
 |none=>
  refine a7 23 (v':=.bool false) rfl (Gt Value.bool (a6 (by show ¬ enc (ns' x).l≠-1;rw[hl];simp[enc]))) (bG rfl (aq ?_));refine ad (aa (ae [] rfl ?_));exact ay ⟨_,rfl,rfl⟩
 |some c=>
  have hc:=hN'.l x hx;rw[hl] at hc;have hcN:c<N:=hc;refine a7 23 (v':=.bool true) rfl (Gt Value.bool (aR (by show enc (ns' x).l≠-1;rw[hl];simp[enc]))) (bi rfl ?_);refine a7 5 (v':=.int .i64 (c:Int)) rfl (Gt (Value.int .i64) (ee hl)) ?_;have hN1:=hN'.upd (x:=c) (d:={ ns' c with up:=none }) an (hN'.l c hcN) (hN'.r c hcN);have hN2:=hN1.setDown hx (c:=none) an 0;refine ad ?_;refine eK 17 [0,1,2,3,4,5,6,7,8,9,10,11,13,14] 12 [(15,true),(16,false)] (by kernel_rfl) ?_
  (repeat' (first|refine ev (gs:=[999]) rfl rfl ?_|refine bA [999] rfl rfl (af 0 rfl) rfl ?_|refine cE [999] rfl (aN rfl (by first|assumption|omega)) rfl ?_|refine cE [999] rfl (ao (m:=0) rfl (by decide)) rfl ?_|refine cE [999] rfl (ao (m:=1) rfl (by decide)) rfl ?_|refine bA [999] rfl rfl (a9 1 rfl rfl rfl rfl (by first|assumption|omega) (by first|assumption|omega)) rfl ?_|refine bA [999] rfl rfl (aQ 1 rfl rfl rfl rfl rfl (by first|assumption|omega) rfl rfl) rfl ?_))
  refine d6 rfl ?_;refine cQ (f:=0) (v:=.int .i64 (enc none)) 1 { ns' c with up:=none } rfl rfl rfl rfl rfl rfl rfl hcN rfl rfl [] rfl ?_;refine ai ⟨⟨[],by decide,rfl⟩,?_⟩
  (repeat' (first|refine bB (gs:=[999]) rfl rfl ?_|refine aj [999] rfl (aN rfl (by first|assumption|omega)) rfl ?_|refine aj [999] rfl (ao (m:=0) rfl (by decide)) rfl ?_))
  refine bg rfl ?_;refine qH (s:=0) (c:=none) 1 rfl rfl rfl rfl rfl hx (by decide) [] rfl ?_;refine ai ⟨⟨[],by decide,rfl⟩,?_⟩;refine bq ?_;refine ai ?_;show J _ _ _ _ (bC pf gn cap N (k+j) (gy (gy ns' c { ns' c with up:=none }) x (cJ (gy ns' c { ns' c with up:=none } x) 0 none)));refine aa (ah [] rfl ?_);refine aw [] (o9 _ _ hN2 x hx) rfl rfl rfl rfl (by kernel_rfl) aH.refl an (λ _=>rfl) ?_;rintro v H' rfl;refine⟨rfl,ai ?_⟩;refine ad (aa (ae [] rfl ?_));exact ay ⟨_,rfl,rfl⟩
theorem C4{X:Cx}{E:Env}{H:Heap}{o:Oper}{g x N cap:Nat}{xo:Operand}{ns:bQ}(k:Nat)(ho:o.op=.load 334 xo)(hx:val E xo=some (.pointer (some ⟨g,x*9,none⟩)))
 (hk:H[k]?=some (.own (.slice (some ⟨g,0,none⟩) N cap) 334 9 N (fC N ns))) {fs:List (Nat×Nat×Nat)} {by_:Nat} {z:Option Value} (ht:tab 334=some ⟨.struct fs,9,by_,z⟩) (hxN:x<N):gz X o E H (.agg (eh (ns x)).toArray):=by
 refine aD k ho hx hk ?_;unfold eH;rw[ht];have hg:∀ f,f<9->(fC N ns)[x*9+f]?=(eh (ns x))[f]?:=λ f hf=>iC hxN hf
 have key:∀ n f,f+n=9->dT (fC N ns) (x*9+f) n=some ((eh (ns x)).drop f):=by
  intro n
  induction n with
  |zero=>intro f hf;obtain rfl:f=9:=by omega
         rfl
  |succ n ih=>
   intro f hf;unfold dT;have hl:f<(eh (ns x)).length:=by show f<9;omega
   rw[hg f (by omega),Gq hl];show (match dT (fC N ns) (x*9+(f+1)) n with|some l=>some (_::l)|none=>none)=_;rw[ih (f+1) (by omega),Hf hl]
 have:=key 9 0 rfl;show (match dT (fC N ns) (x*9) 9 with|some l=>some (Value.agg l.toArray)|none=>none)=_;rw[show x*9=x*9+0 from rfl,this];rfl
theorem C7(k:Nat)(ns:bQ)(hN:dD N ns)(x:Nat)(hx:x<N)(ns':bQ)(j:Nat)(h:eI ns x ns' j)(d:Int)(hd:-9223372036854775808<=d/\d<=9223372036854775807)(h1:0<=d->(ns' x).most<=4611686018427387904-d)(h2:d<0→-4611686018427387904-d<=(ns' x).least):
 Fn 269 [.pointer (some ⟨pf,0,none⟩),.int .i64 (x:Int),.int .i64 d] (aL (bC pf gn cap N k ns)) ([]++bC pf gn cap N k ns) λ _ H'=>H'=bC pf gn cap N (k+j) (fU ns' (some x) d false):=by
 generalize hM:aL _=M
 refine aJ Tryz.func269 rfl rfl λ w0=>?_;refine ad (aa (ae [] rfl ?_));refine ad (ad (aa (ah [] rfl ?_)));refine aw [] (ez _ _ _ hx) rfl rfl rfl rfl (by kernel_rfl) aH.refl an (λ _=>rfl) ?_;rintro v H' ⟨rfl,rfl⟩;refine⟨rfl,?_⟩
 (repeat' (first|refine ai ?_|refine am (gs:=[999]) rfl ?_|refine ab [999] (af 0 rfl) rfl ?_|refine ab [999] (aN rfl (by first|assumption|omega)) rfl ?_|refine ab [999] (ao (m:=0) rfl (by decide)) rfl ?_|refine ab [999] (ao (m:=1) rfl (by decide)) rfl ?_|refine ab [999] (a9 1 rfl rfl rfl rfl (by first|assumption|omega) (by first|assumption|omega)) rfl ?_|refine ab [999] (aQ 1 rfl rfl rfl rfl rfl (by first|assumption|omega) rfl rfl) rfl ?_))
 refine bG rfl ?_;refine aq (ad (aa (ah [] rfl ?_)));refine aw [] (dL _ _ hN _ hx _ _ h) rfl rfl rfl rfl (by kernel_rfl) aH.refl an (λ _=>rfl) ?_;rintro v H' rfl;refine⟨rfl,ai ?_⟩;refine ad (ad (aa ?_))
 (repeat' (first|refine ai ?_|refine am (gs:=[999]) rfl ?_|refine ab [999] (af 0 rfl) rfl ?_|refine ab [999] (aN rfl (by first|assumption|omega)) rfl ?_|refine ab [999] (ao (m:=0) rfl (by decide)) rfl ?_|refine ab [999] (ao (m:=1) rfl (by decide)) rfl ?_|refine ab [999] (a9 1 rfl rfl rfl rfl (by first|assumption|omega) (by first|assumption|omega)) rfl ?_|refine ab [999] (aQ 1 rfl rfl rfl rfl rfl (by first|assumption|omega) rfl rfl) rfl ?_))
 refine ab [] (C4 1 rfl rfl rfl rfl hx) rfl ?_;refine bo rfl rfl rfl (λ _=>rfl) λ p7=>?_;refine aA 0 rfl [] rfl ?_;refine ai ?_;by_cases h0:0<=d
 ·have h1:=h1 h0;refine ad (aa (ah [] rfl ?_));refine bd 24 rfl h0 ?_
  (repeat' (first|refine ai ?_|refine am (gs:=[999]) rfl ?_|refine ab [999] (af 0 rfl) rfl ?_|refine ab [999] (aN rfl (by first|assumption|omega)) rfl ?_|refine ab [999] (ao (m:=0) rfl (by decide)) rfl ?_|refine ab [999] (ao (m:=1) rfl (by decide)) rfl ?_|refine ab [999] (a9 1 rfl rfl rfl rfl (by first|assumption|omega) (by first|assumption|omega)) rfl ?_|refine ab [999] (aQ 1 rfl rfl rfl rfl rfl (by first|assumption|omega) rfl rfl) rfl ?_))
  refine aX 31 rfl (by rw[cv (by omega)];omega) ?_
  (repeat' (first|refine ai ?_|refine am (gs:=[999]) rfl ?_|refine ab [999] (af 0 rfl) rfl ?_|refine ab [999] (aN rfl (by first|assumption|omega)) rfl ?_|refine ab [999] (ao (m:=0) rfl (by decide)) rfl ?_|refine ab [999] (ao (m:=1) rfl (by decide)) rfl ?_|refine ab [999] (a9 1 rfl rfl rfl rfl (by first|assumption|omega) (by first|assumption|omega)) rfl ?_|refine ab [999] (aQ 1 rfl rfl rfl rfl rfl (by first|assumption|omega) rfl rfl) rfl ?_))
  refine aX 34 rfl (by omega) ?_
  (repeat' (first|refine ai ?_|refine am (gs:=[999]) rfl ?_|refine ab [999] (af 0 rfl) rfl ?_|refine ab [999] (aN rfl (by first|assumption|omega)) rfl ?_|refine ab [999] (ao (m:=0) rfl (by decide)) rfl ?_|refine ab [999] (ao (m:=1) rfl (by decide)) rfl ?_|refine ab [999] (a9 1 rfl rfl rfl rfl (by first|assumption|omega) (by first|assumption|omega)) rfl ?_|refine ab [999] (aQ 1 rfl rfl rfl rfl rfl (by first|assumption|omega) rfl rfl) rfl ?_))
  refine bG rfl ?_;refine aq (ad ?_);refine bJ (aH.re (A:=[_]++bC pf gn cap N (k+j) ns') (R:=[]) [1,2] rfl (by decide)) ?_;refine aa (ah [] rfl ?_);refine aw [] (pa _ ns' (some x) hx d false) rfl rfl rfl rfl (by kernel_rfl) aH.refl an (λ _=>rfl) ?_;rintro v H' rfl;refine⟨rfl,ai ?_⟩;refine ad (aa (ae [] rfl ?_));exact ay ⟨_,rfl,rfl⟩
 ·have h2:=h2 (by omega);refine ad (aa (ah [] rfl ?_));refine aX 24 rfl h0 ?_
  (repeat' (first|refine ai ?_|refine am (gs:=[999]) rfl ?_|refine ab [999] (af 0 rfl) rfl ?_|refine ab [999] (aN rfl (by first|assumption|omega)) rfl ?_|refine ab [999] (ao (m:=0) rfl (by decide)) rfl ?_|refine ab [999] (ao (m:=1) rfl (by decide)) rfl ?_|refine ab [999] (a9 1 rfl rfl rfl rfl (by first|assumption|omega) (by first|assumption|omega)) rfl ?_|refine ab [999] (aQ 1 rfl rfl rfl rfl rfl (by first|assumption|omega) rfl rfl) rfl ?_))
  refine bd 34 rfl (by omega) ?_
  (repeat' (first|refine ai ?_|refine am (gs:=[999]) rfl ?_|refine ab [999] (af 0 rfl) rfl ?_|refine ab [999] (aN rfl (by first|assumption|omega)) rfl ?_|refine ab [999] (ao (m:=0) rfl (by decide)) rfl ?_|refine ab [999] (ao (m:=1) rfl (by decide)) rfl ?_|refine ab [999] (a9 1 rfl rfl rfl rfl (by first|assumption|omega) (by first|assumption|omega)) rfl ?_|refine ab [999] (aQ 1 rfl rfl rfl rfl rfl (by first|assumption|omega) rfl rfl) rfl ?_))
  refine eE 41 rfl (by rw[cv (by omega)];omega) ?_;refine bG rfl ?_;refine aq (ad ?_);refine bJ (aH.re (A:=[_]++bC pf gn cap N (k+j) ns') (R:=[]) [1,2] rfl (by decide)) ?_;refine aa (ah [] rfl ?_);refine aw [] (pa _ ns' (some x) hx d false) rfl rfl rfl rfl (by kernel_rfl) aH.refl an (λ _=>rfl) ?_;rintro v H' rfl;refine⟨rfl,ai ?_⟩;refine ad (aa (ae [] rfl ?_));exact ay ⟨_,rfl,rfl⟩
variable {pf gn cap N:Nat}
def qI(ns:bQ)(a b:Nat)(ns':bQ)(k:Nat):Prop:=∃ n1 n2 n3 n4 k1 k2 k3 k4 a' b',eI ns a n1 k1/\eI n1 b n2 k2/\(n2 a).up=none/\E0 1 n2 a n3 a' k3/\E0 0 n3 b n4 b' k4/\ns'=fk (eJ n4 (some a') b' 0) b'/\k=k1+k2+k3+k4
theorem DM(k:Nat)(ns:bQ)(hN:dD N ns)(a b:Nat)(ha:a<N)(hb:b<N)(hab:a≠b)(ns':bQ)(j:Nat)(h:qI ns a b ns' j):
 Fn 262 [.pointer (some ⟨pf,0,none⟩),.int .i64 (a:Int),.int .i64 (b:Int)] (aL (bC pf gn cap N k ns)) ([]++bC pf gn cap N k ns) λ _ H'=>H'=bC pf gn cap N (k+j) ns':=by
 obtain⟨n1,n2,n3,n4,k1,k2,k3,k4,a',b',h1,h2,hup,h3,h4,rfl,rfl⟩:=h;have hN1:=hN.splay ha h1;have hN2:=hN1.splay hb h2;obtain⟨hN3,ha'⟩:=hN2.end_ ha h3;obtain⟨hN4,hb'⟩:=hN3.end_ hb h4;have hN5:=hN4.hang (c:=some a') ha' hb' 0
 generalize hM:aL _=M
 refine aJ Tryz.func262 rfl rfl λ w0=>?_;refine ad (aa (ae [] rfl ?_));refine ad (au (ad (aa (ah [] rfl ?_))));refine aw [] (ez _ _ _ ha) rfl rfl rfl rfl (by kernel_rfl) aH.refl an (λ _=>rfl) ?_;rintro v H' ⟨rfl,rfl⟩;refine⟨rfl,?_⟩
 (repeat' (first|refine ai ?_|refine am (gs:=[999]) rfl ?_|refine ab [999] (af 0 rfl) rfl ?_|refine ab [999] (aN rfl (by first|assumption|omega)) rfl ?_|refine ab [999] (ao (m:=0) rfl (by decide)) rfl ?_|refine ab [999] (ao (m:=1) rfl (by decide)) rfl ?_|refine ab [999] (a9 1 rfl rfl rfl rfl (by first|assumption|omega) (by first|assumption|omega)) rfl ?_|refine ab [999] (aQ 1 rfl rfl rfl rfl rfl (by first|assumption|omega) rfl rfl) rfl ?_))
 refine aw [999] (ez _ _ _ hb) rfl rfl rfl rfl (by kernel_rfl) aH.refl an (λ _=>rfl) ?_;rintro v H' ⟨rfl,rfl⟩;refine⟨rfl,?_⟩
 (repeat' (first|refine ai ?_|refine am (gs:=[999]) rfl ?_|refine ab [999] (af 0 rfl) rfl ?_|refine ab [999] (aN rfl (by first|assumption|omega)) rfl ?_|refine ab [999] (ao (m:=0) rfl (by decide)) rfl ?_|refine ab [999] (ao (m:=1) rfl (by decide)) rfl ?_|refine ab [999] (a9 1 rfl rfl rfl rfl (by first|assumption|omega) (by first|assumption|omega)) rfl ?_|refine ab [999] (aQ 1 rfl rfl rfl rfl rfl (by first|assumption|omega) rfl rfl) rfl ?_))
 refine bG rfl ?_;refine ad (aa (ae [] rfl ?_));refine a7 18 (v':=.bool false) rfl (Gt Value.bool (a6 (by omega))) (bG rfl (aq ?_));show J _ _ _ _ (bC pf gn cap N k ns);refine ad (aa (ah [] rfl ?_));refine aw [] (dL _ _ hN _ ha _ _ h1) rfl rfl rfl rfl (by kernel_rfl) aH.refl an (λ _=>rfl) ?_;rintro v H' rfl;refine⟨rfl,ai ?_⟩;refine ad (aa (ah [] rfl ?_));refine aw [] (dL _ _ hN1 _ hb _ _ h2) rfl rfl rfl rfl (by kernel_rfl) aH.refl an (λ _=>rfl) ?_;rintro v H' rfl;refine⟨rfl,ai ?_⟩;refine ad (ad (aa ?_))
 (repeat' (first|refine ai ?_|refine am (gs:=[999]) rfl ?_|refine ab [999] (af 0 rfl) rfl ?_|refine ab [999] (aN rfl (by first|assumption|omega)) rfl ?_|refine ab [999] (ao (m:=0) rfl (by decide)) rfl ?_|refine ab [999] (ao (m:=1) rfl (by decide)) rfl ?_|refine ab [999] (a9 1 rfl rfl rfl rfl (by first|assumption|omega) (by first|assumption|omega)) rfl ?_|refine ab [999] (aQ 1 rfl rfl rfl rfl rfl (by first|assumption|omega) rfl rfl) rfl ?_))
 refine a7 43 (v':=.bool false) rfl (Gt Value.bool (a6 (by show ¬ enc (n2 a).up≠-1;rw[hup];simp[enc]))) (bG rfl (aq ?_));refine ad (aa (ah [] rfl ?_));refine aw [] (oX _ n2 hN2 a ha 1 (by decide) n3 a' k3 h3) rfl rfl rfl rfl (by kernel_rfl) aH.refl an (λ _=>rfl) ?_;rintro v H' ⟨rfl,rfl⟩;refine⟨rfl,?_⟩
 (repeat' (first|refine ai ?_|refine am (gs:=[999]) rfl ?_|refine ab [999] (af 0 rfl) rfl ?_|refine ab [999] (aN rfl (by first|assumption|omega)) rfl ?_|refine ab [999] (ao (m:=0) rfl (by decide)) rfl ?_|refine ab [999] (ao (m:=1) rfl (by decide)) rfl ?_|refine ab [999] (a9 1 rfl rfl rfl rfl (by first|assumption|omega) (by first|assumption|omega)) rfl ?_|refine ab [999] (aQ 1 rfl rfl rfl rfl rfl (by first|assumption|omega) rfl rfl) rfl ?_))
 refine aw [] (oX _ n3 hN3 b hb 0 (by decide) n4 b' k4 h4) rfl rfl rfl rfl (by kernel_rfl) aH.refl an (λ _=>rfl) ?_;rintro v H' ⟨rfl,rfl⟩;refine⟨rfl,?_⟩
 (repeat' (first|refine ai ?_|refine am (gs:=[999]) rfl ?_|refine ab [999] (af 0 rfl) rfl ?_|refine ab [999] (aN rfl (by first|assumption|omega)) rfl ?_|refine ab [999] (ao (m:=0) rfl (by decide)) rfl ?_|refine ab [999] (ao (m:=1) rfl (by decide)) rfl ?_|refine ab [999] (a9 1 rfl rfl rfl rfl (by first|assumption|omega) (by first|assumption|omega)) rfl ?_|refine ab [999] (aQ 1 rfl rfl rfl rfl rfl (by first|assumption|omega) rfl rfl) rfl ?_))
 refine ad (aa (ah [] rfl ?_));refine aw [] (r8 _ n4 hN4 (some a') ha' b' hb' 0 (by decide)) rfl rfl rfl rfl (by kernel_rfl) aH.refl an (λ _=>rfl) ?_;rintro v H' rfl;refine⟨rfl,ai ?_⟩;refine ad (aa (ah [] rfl ?_));refine aw [] (o9 _ _ hN5 b' hb') rfl rfl rfl rfl (by kernel_rfl) aH.refl an (λ _=>rfl) ?_;rintro v H' rfl;refine⟨rfl,ai ?_⟩;refine ad (aa (ae [] rfl ?_));refine ay ⟨_,rfl,?_⟩;show bC _ _ _ _ (k+k1+k2+k3+k4) _=_;rw[show k+k1+k2+k3+k4=k+(k1+k2+k3+k4) by omega]
def F8(ns:bQ)(x:Nat)(p:Int)(ns':bQ)(y:Option Nat)(k:Nat):Prop:=∃ n1 k1,eI ns x n1 k1/\
 ((p<0\/(n1 x).size<=p)/\y=none/\ns'=n1/\k=k1\/0<=p/\p<(n1 x).size/\∃ z k2,z4 n1 x p ns' z k2/\y=some z/\k=k1+k2)
theorem Fw(k:Nat)(ns:bQ)(hN:dD N ns)(x:Nat)(hx:x<N)(p:Int)(ns':bQ)(y:Option Nat)(j:Nat)(h:F8 ns x p ns' y j):
 Fn 270 [.pointer (some ⟨pf,0,none⟩),.int .i64 (x:Int),.int .i64 p] (aL (bC pf gn cap N k ns)) ([]++bC pf gn cap N k ns) λ v H'=>v=.int .i64 (enc y)/\H'=bC pf gn cap N (k+j) ns':=by
 obtain⟨n1,k1,hS,hc⟩:=h;have hN1:=hN.splay hx hS
 generalize hM:aL _=M
 refine aJ Tryz.func270 rfl rfl λ w0=>?_;refine ad (aa (ae [] rfl ?_));refine ad (ad (aa (ah [] rfl ?_)));refine aw [] (ez _ _ _ hx) rfl rfl rfl rfl (by kernel_rfl) aH.refl an (λ _=>rfl) ?_;rintro v H' ⟨rfl,rfl⟩;refine⟨rfl,?_⟩
 (repeat' (first|refine ai ?_|refine am (gs:=[999]) rfl ?_|refine ab [999] (af 0 rfl) rfl ?_|refine ab [999] (aN rfl (by first|assumption|omega)) rfl ?_|refine ab [999] (ao (m:=0) rfl (by decide)) rfl ?_|refine ab [999] (ao (m:=1) rfl (by decide)) rfl ?_|refine ab [999] (a9 1 rfl rfl rfl rfl (by first|assumption|omega) (by first|assumption|omega)) rfl ?_|refine ab [999] (aQ 1 rfl rfl rfl rfl rfl (by first|assumption|omega) rfl rfl) rfl ?_))
 refine bG rfl ?_;refine aq (ad (aa (ah [] rfl ?_)));refine aw [] (dL _ _ hN _ hx _ _ hS) rfl rfl rfl rfl (by kernel_rfl) aH.refl an (λ _=>rfl) ?_;rintro v H' rfl;refine⟨rfl,ai ?_⟩
 rcases hc with ⟨hp,rfl,rfl,rfl⟩|⟨hp1,hp2,z,k2,hA,rfl,rfl⟩
 ·by_cases h0:p<0
  ·refine ad (ad (aa (ah [] rfl ?_)));refine bd 18 rfl h0 ?_
   (repeat' (first|refine ai ?_|refine am (gs:=[999]) rfl ?_|refine ab [999] (af 0 rfl) rfl ?_|refine ab [999] (aN rfl (by first|assumption|omega)) rfl ?_|refine ab [999] (ao (m:=0) rfl (by decide)) rfl ?_|refine ab [999] (ao (m:=1) rfl (by decide)) rfl ?_|refine ab [999] (a9 1 rfl rfl rfl rfl (by first|assumption|omega) (by first|assumption|omega)) rfl ?_|refine ab [999] (aQ 1 rfl rfl rfl rfl rfl (by first|assumption|omega) rfl rfl) rfl ?_))
   refine bi rfl ?_;refine ad (aa (ae [] rfl ?_));exact ay ⟨_,rfl,rfl,rfl⟩
  ·refine ad (ad (aa (ah [] rfl ?_)));refine aX 18 rfl h0 ?_
   (repeat' (first|refine ai ?_|refine am (gs:=[999]) rfl ?_|refine ab [999] (af 0 rfl) rfl ?_|refine ab [999] (aN rfl (by first|assumption|omega)) rfl ?_|refine ab [999] (ao (m:=0) rfl (by decide)) rfl ?_|refine ab [999] (ao (m:=1) rfl (by decide)) rfl ?_|refine ab [999] (a9 1 rfl rfl rfl rfl (by first|assumption|omega) (by first|assumption|omega)) rfl ?_|refine ab [999] (aQ 1 rfl rfl rfl rfl rfl (by first|assumption|omega) rfl rfl) rfl ?_))
   refine a7 29 (v':=.bool true) rfl (Gt Value.bool (aR (by omega))) (bi rfl ?_);refine ad (aa (ae [] rfl ?_));exact ay ⟨_,rfl,rfl,rfl⟩
 ·refine ad (ad (aa (ah [] rfl ?_)));refine aX 18 rfl (by omega) ?_
  (repeat' (first|refine ai ?_|refine am (gs:=[999]) rfl ?_|refine ab [999] (af 0 rfl) rfl ?_|refine ab [999] (aN rfl (by first|assumption|omega)) rfl ?_|refine ab [999] (ao (m:=0) rfl (by decide)) rfl ?_|refine ab [999] (ao (m:=1) rfl (by decide)) rfl ?_|refine ab [999] (a9 1 rfl rfl rfl rfl (by first|assumption|omega) (by first|assumption|omega)) rfl ?_|refine ab [999] (aQ 1 rfl rfl rfl rfl rfl (by first|assumption|omega) rfl rfl) rfl ?_))
  refine a7 29 (v':=.bool false) rfl (Gt Value.bool (a6 (by omega))) (bG rfl (aq ?_));refine au ?_
  refine bO (σ:=bQ×Nat×Int×Nat) (λ t=>[(2,.int .i64 t.2.2.1),(1,.int .i64 (t.2.1:Int)),(0,.pointer (some ⟨pf,0,none⟩))])
   (λ t=>bC pf gn cap N (k+k1+(k2-t.2.2.2)) t.1) (λ t=>dD N t.1/\t.2.1<N/\z4 t.1 t.2.1 t.2.2.1 ns' z t.2.2.2/\t.2.2.2<=k2) (λ t=>t.2.2.2) (n1,x,p,k2) [0,1] ⟨rfl,rfl,rfl,an⟩ (by decide) ?_ ⟨hN1,hx,hA,GF _⟩ ?_
  ·simp only[HC,HZ];rfl
  rintro⟨m,u,q,i⟩ ⟨hNm,hu,hAm,hi⟩;simp only at hNm hu hAm hi ⊢;refine au (ad (aa ?_))
  (repeat' (first|refine ai ?_|refine am (gs:=[999]) rfl ?_|refine ab [999] (af 0 rfl) rfl ?_|refine ab [999] (aN rfl (by first|assumption|omega)) rfl ?_|refine ab [999] (ao (m:=0) rfl (by decide)) rfl ?_|refine ab [999] (ao (m:=1) rfl (by decide)) rfl ?_|refine ab [999] (a9 1 rfl rfl rfl rfl (by first|assumption|omega) (by first|assumption|omega)) rfl ?_|refine ab [999] (aQ 1 rfl rfl rfl rfl rfl (by first|assumption|omega) rfl rfl) rfl ?_))
  refine fj [(8,.int .i64 (ahead m u)),(7,.int .i64 (enc (m u).l)),(2,.int .i64 q),(1,.int .i64 (u:Int)),(0,.pointer (some ⟨pf,0,none⟩))] (bC pf gn cap N (k+k1+(k2-i)) m) ?_ ?_
  ·refine ad (aa (ae [] rfl ?_))
   cases hl:(m u).l with
   |none=>
    have e:ahead m u=0:=by unfold ahead;rw[hl]
    refine a7 40 (v':=.bool false) rfl (Gt Value.bool (a6 (by show ¬ enc (m u).l≠-1;rw[hl];simp[enc]))) (bG rfl (aq ⟨[0,1],⟨by rw[e];rfl,by rw[<- hl];rfl,rfl,rfl,rfl,an⟩,by decide,rfl⟩))
   |some c=>
    have hc:=hNm.l u hu;rw[hl] at hc;have hcN:c<N:=hc;have e:ahead m u=(m c).size:=by unfold ahead;rw[hl]
    refine a7 40 (v':=.bool true) rfl (Gt Value.bool (aR (by show enc (m u).l≠-1;rw[hl];simp[enc]))) (bi rfl ?_);refine a7 7 (v':=.int .i64 (c:Int)) rfl (Gt (Value.int .i64) (ee hl)) ?_;refine aa ?_
    (repeat' (first|refine ai ?_|refine am (gs:=[999]) rfl ?_|refine ab [999] (af 0 rfl) rfl ?_|refine ab [999] (aN rfl (by first|assumption|omega)) rfl ?_|refine ab [999] (ao (m:=0) rfl (by decide)) rfl ?_|refine ab [999] (ao (m:=1) rfl (by decide)) rfl ?_|refine ab [999] (a9 1 rfl rfl rfl rfl (by first|assumption|omega) (by first|assumption|omega)) rfl ?_|refine ab [999] (aQ 1 rfl rfl rfl rfl rfl (by first|assumption|omega) rfl rfl) rfl ?_))
    exact⟨[0,1],⟨by rw[e];rfl,rfl,rfl,rfl,rfl,an⟩,by decide,rfl⟩
  ·refine ad (au (ad (aa (ae [] rfl ?_))))
   cases hAm with
   |left h1 h2 h3=>
    rename_i c i;have hc:=hNm.l u hu;rw[h2] at hc;refine a7 62 (v':=.bool true) rfl (Gt Value.bool (aR h1)) (bi rfl ?_);refine aa (ae [] rfl ?_);refine a7 1 (v':=.int .i64 (c:Int)) rfl (Gt (Value.int .i64) (ee h2)) ?_;show J _ _ _ _ (bC pf gn cap N (k+k1+(k2-(i+1))) m);refine aa (ah [] rfl ?_);refine aw [] (jw _ m hNm c hc) rfl rfl rfl rfl (by kernel_rfl) aH.refl an (λ _=>rfl) ?_;rintro v H' rfl;refine⟨rfl,ai ?_⟩;refine⟨(dZ m c,c,q,i),[0,1],⟨rfl,rfl,rfl,an⟩,by decide,?_,⟨hNm.push hc,hc,h3,by show i<=k2;omega⟩,by show i<i+1;omega⟩;show some (bC _ _ _ _ (k+k1+(k2-(i+1))+1) _)=_;rw[show k+k1+(k2-(i+1))+1=k+k1+(k2-i) by omega]
   |here h1 h2=>
    refine a7 62 (v':=.bool false) rfl (Gt Value.bool (a6 (by omega))) (bG rfl ?_);refine ad (aa (ae [] rfl ?_));refine a7 67 (v':=.bool true) rfl (Gt Value.bool (aR h1)) (bi rfl ?_);show J _ _ _ _ (bC pf gn cap N (k+k1+(k2-i)) m);refine ad (aa (ah [] rfl ?_));refine aw [] (dL _ _ hNm _ hu _ _ h2) rfl rfl rfl rfl (by kernel_rfl) aH.refl an (λ _=>rfl) ?_;rintro v H' rfl;refine⟨rfl,ai ?_⟩;refine ad (aa (ae [] rfl ?_));refine ay ⟨_,rfl,rfl,?_⟩;show bC _ _ _ _ (k+k1+(k2-i)+i) _=_;rw[show k+k1+(k2-i)+i=k+(k1+k2) by omega]
   |right h1 h2 h3=>
    rename_i c i;have hc:=hNm.r u hu;rw[h2] at hc;refine a7 62 (v':=.bool false) rfl (Gt Value.bool (a6 (by omega))) (bG rfl ?_);refine ad (aa (ae [] rfl ?_));refine a7 67 (v':=.bool false) rfl (Gt Value.bool (a6 (by omega))) (bG rfl ?_);refine aa ?_
    (repeat' (first|refine ai ?_|refine am (gs:=[999]) rfl ?_|refine ab [999] (af 0 rfl) rfl ?_|refine ab [999] (aN rfl (by first|assumption|omega)) rfl ?_|refine ab [999] (ao (m:=0) rfl (by decide)) rfl ?_|refine ab [999] (ao (m:=1) rfl (by decide)) rfl ?_|refine ab [999] (a9 1 rfl rfl rfl rfl (by first|assumption|omega) (by first|assumption|omega)) rfl ?_|refine ab [999] (aQ 1 rfl rfl rfl rfl rfl (by first|assumption|omega) rfl rfl) rfl ?_))
    refine a7 1 (v':=.int .i64 (c:Int)) rfl (Gt (Value.int .i64) (ee h2)) ?_;show J _ _ _ _ (bC pf gn cap N (k+k1+(k2-(i+1))) m);refine aa (ah [] rfl ?_);refine aw [] (jw _ m hNm c hc) rfl rfl rfl rfl (by kernel_rfl) aH.refl an (λ _=>rfl) ?_;rintro v H' rfl;refine⟨rfl,ai ?_⟩;refine⟨(dZ m c,c,dc (dc (q-ahead m u)-1),i),[0,1],⟨rfl,rfl,rfl,an⟩,by decide,?_,⟨hNm.push hc,hc,h3,by show i<=k2;omega⟩,by show i<i+1;omega⟩;show some (bC _ _ _ _ (k+k1+(k2-(i+1))+1) _)=_;rw[show k+k1+(k2-(i+1))+1=k+k1+(k2-i) by omega]
def Gh(ns:bQ)(x:Nat)(ns':bQ)(y k:Nat):Prop:=∃ n1 k1 k2,eI ns x n1 k1/\BC (n1 x).least n1 x ns' y k2/\k=k1+k2
variable {pf gn cap N:Nat}
theorem xT(k:Nat)(ns:bQ):Fn 245 [.pointer (some ⟨pf,0,none⟩)] (aL (bC pf gn cap N k ns)) ([]++bC pf gn cap N k ns) λ v H'=>v=.int .i64 (dc k)/\H'=bC pf gn cap N k ns:=by
 generalize hM:aL _=M
 refine aJ Tryz.func245 rfl rfl λ w0=>?_;refine ad (aa (ae [] rfl ?_));refine ad (aa ?_)
 (repeat' (first|refine ai ?_|refine am (gs:=[999]) rfl ?_|refine ab [999] (af 0 rfl) rfl ?_|refine ab [999] (aN rfl (by first|assumption|omega)) rfl ?_|refine ab [999] (ao (m:=0) rfl (by decide)) rfl ?_|refine ab [999] (ao (m:=1) rfl (by decide)) rfl ?_|refine ab [999] (a9 1 rfl rfl rfl rfl (by first|assumption|omega) (by first|assumption|omega)) rfl ?_|refine ab [999] (aQ 1 rfl rfl rfl rfl rfl (by first|assumption|omega) rfl rfl) rfl ?_))
 exact ay ⟨_,rfl,rfl,rfl⟩
theorem yS(k:Nat)(ns:bQ)(hN:dD N ns)(x:Nat)(hx:x<N)(ns':bQ)(y j:Nat)(h:Gh ns x ns' y j):
 Fn 268 [.pointer (some ⟨pf,0,none⟩),.int .i64 (x:Int)] (aL (bC pf gn cap N k ns)) ([]++bC pf gn cap N k ns) λ v H'=>v=.int .i64 (y:Int)/\H'=bC pf gn cap N (k+j) ns':=by
 obtain⟨n1,k1,k2,hS,hL,rfl⟩:=h;have hN1:=hN.splay hx hS
 generalize hM:aL _=M
 refine aJ Tryz.func268 rfl rfl λ w0=>?_;refine ad (aa (ae [] rfl ?_));refine ad (ad (aa (ah [] rfl ?_)));refine aw [] (ez _ _ _ hx) rfl rfl rfl rfl (by kernel_rfl) aH.refl an (λ _=>rfl) ?_;rintro v H' ⟨rfl,rfl⟩;refine⟨rfl,?_⟩
 (repeat' (first|refine ai ?_|refine am (gs:=[999]) rfl ?_|refine ab [999] (af 0 rfl) rfl ?_|refine ab [999] (aN rfl (by first|assumption|omega)) rfl ?_|refine ab [999] (ao (m:=0) rfl (by decide)) rfl ?_|refine ab [999] (ao (m:=1) rfl (by decide)) rfl ?_|refine ab [999] (a9 1 rfl rfl rfl rfl (by first|assumption|omega) (by first|assumption|omega)) rfl ?_|refine ab [999] (aQ 1 rfl rfl rfl rfl rfl (by first|assumption|omega) rfl rfl) rfl ?_))
 refine bG rfl ?_;refine aq (ad (aa (ah [] rfl ?_)));refine aw [] (dL _ _ hN _ hx _ _ hS) rfl rfl rfl rfl (by kernel_rfl) aH.refl an (λ _=>rfl) ?_;rintro v H' rfl;refine⟨rfl,ai ?_⟩;refine ad (aa ?_)
 (repeat' (first|refine ai ?_|refine am (gs:=[999]) rfl ?_|refine ab [999] (af 0 rfl) rfl ?_|refine ab [999] (aN rfl (by first|assumption|omega)) rfl ?_|refine ab [999] (ao (m:=0) rfl (by decide)) rfl ?_|refine ab [999] (ao (m:=1) rfl (by decide)) rfl ?_|refine ab [999] (a9 1 rfl rfl rfl rfl (by first|assumption|omega) (by first|assumption|omega)) rfl ?_|refine ab [999] (aQ 1 rfl rfl rfl rfl rfl (by first|assumption|omega) rfl rfl) rfl ?_))
 obtain⟨want,hw⟩:∃ w,(n1 x).least=w:=⟨_,rfl⟩;rw[hw] at hL;refine a7 5 (v':=.int .i64 want) rfl (Gt (Value.int .i64) hw) ?_;refine au ?_
 refine bO (σ:=bQ×Nat×Nat) (λ t=>[(5,.int .i64 want),(1,.int .i64 (t.2.1:Int)),(0,.pointer (some ⟨pf,0,none⟩))])
  (λ t=>bC pf gn cap N (k+k1+(k2-t.2.2)) t.1) (λ t=>dD N t.1/\t.2.1<N/\BC want t.1 t.2.1 ns' y t.2.2/\t.2.2<=k2) (λ t=>t.2.2) (n1,x,k2) [0,1] ⟨rfl,rfl,rfl,an⟩ (by decide) ?_ ⟨hN1,hx,hL,GF _⟩ ?_
 ·simp only[HC,HZ];rfl
 rintro⟨m,u,i⟩ ⟨hNm,hu,hLm,hi⟩;simp only at hNm hu hLm hi ⊢;refine au (ad (ad (aa ?_)))
 (repeat' (first|refine ai ?_|refine am (gs:=[999]) rfl ?_|refine ab [999] (af 0 rfl) rfl ?_|refine ab [999] (aN rfl (by first|assumption|omega)) rfl ?_|refine ab [999] (ao (m:=0) rfl (by decide)) rfl ?_|refine ab [999] (ao (m:=1) rfl (by decide)) rfl ?_|refine ab [999] (a9 1 rfl rfl rfl rfl (by first|assumption|omega) (by first|assumption|omega)) rfl ?_|refine ab [999] (aQ 1 rfl rfl rfl rfl rfl (by first|assumption|omega) rfl rfl) rfl ?_))
 cases hLm with
 |left h1 h2 h3=>
  rename_i c i;have hc:=hNm.l u hu;rw[h1] at hc;have hcN:c<N:=hc;refine a7 6 (v':=.int .i64 (c:Int)) rfl (Gt (Value.int .i64) (ee h1)) ?_;refine ad (aa (ah [] rfl ?_));refine bd 33 rfl (by omega) ?_
  (repeat' (first|refine ai ?_|refine am (gs:=[999]) rfl ?_|refine ab [999] (af 0 rfl) rfl ?_|refine ab [999] (aN rfl (by first|assumption|omega)) rfl ?_|refine ab [999] (ao (m:=0) rfl (by decide)) rfl ?_|refine ab [999] (ao (m:=1) rfl (by decide)) rfl ?_|refine ab [999] (a9 1 rfl rfl rfl rfl (by first|assumption|omega) (by first|assumption|omega)) rfl ?_|refine ab [999] (aQ 1 rfl rfl rfl rfl rfl (by first|assumption|omega) rfl rfl) rfl ?_))
  refine a7 44 (v':=.bool true) rfl (Gt Value.bool (aR h2)) (bi rfl ?_);refine aa (ae [] rfl ?_);show J _ _ _ _ (bC pf gn cap N (k+k1+(k2-(i+1))) m);refine aa (ah [] rfl ?_);refine aw [] (jw _ m hNm c hc) rfl rfl rfl rfl (by kernel_rfl) aH.refl an (λ _=>rfl) ?_;rintro v H' rfl;refine⟨rfl,ai ?_⟩;refine⟨(dZ m c,c,i),[0,1],⟨rfl,rfl,rfl,an⟩,by decide,?_,⟨hNm.push hc,hc,h3,by show i<=k2;omega⟩,by show i<i+1;omega⟩;show some (bC _ _ _ _ (k+k1+(k2-(i+1))+1) _)=_;rw[show k+k1+(k2-(i+1))+1=k+k1+(k2-i) by omega]
 |here h1 h2 h3=>
  refine fj [(44,.bool false),(5,.int .i64 want),(1,.int .i64 (y:Int)),(0,.pointer (some ⟨pf,0,none⟩))] (bC pf gn cap N (k+k1+(k2-i)) m) ?_ ?_
  ·cases hl:(m y).l with
   |none=>
    refine aa (ah [] rfl ?_);refine aX 33 rfl (by show ¬ enc (m y).l≠-1;rw[hl];simp[enc]) ?_
    (repeat' (first|refine ai ?_|refine am (gs:=[999]) rfl ?_|refine ab [999] (af 0 rfl) rfl ?_|refine ab [999] (aN rfl (by first|assumption|omega)) rfl ?_|refine ab [999] (ao (m:=0) rfl (by decide)) rfl ?_|refine ab [999] (ao (m:=1) rfl (by decide)) rfl ?_|refine ab [999] (a9 1 rfl rfl rfl rfl (by first|assumption|omega) (by first|assumption|omega)) rfl ?_|refine ab [999] (aQ 1 rfl rfl rfl rfl rfl (by first|assumption|omega) rfl rfl) rfl ?_))
    exact⟨[0,1],⟨rfl,rfl,rfl,rfl,an⟩,by decide,rfl⟩
   |some d=>
    have hd:=hNm.l y hu;rw[hl] at hd;have hdN:d<N:=hd;refine a7 6 (v':=.int .i64 (d:Int)) rfl (Gt (Value.int .i64) (ee hl)) ?_;refine aa (ah [] rfl ?_);refine bd 33 rfl (by omega) ?_
    (repeat' (first|refine ai ?_|refine am (gs:=[999]) rfl ?_|refine ab [999] (af 0 rfl) rfl ?_|refine ab [999] (aN rfl (by first|assumption|omega)) rfl ?_|refine ab [999] (ao (m:=0) rfl (by decide)) rfl ?_|refine ab [999] (ao (m:=1) rfl (by decide)) rfl ?_|refine ab [999] (a9 1 rfl rfl rfl rfl (by first|assumption|omega) (by first|assumption|omega)) rfl ?_|refine ab [999] (aQ 1 rfl rfl rfl rfl rfl (by first|assumption|omega) rfl rfl) rfl ?_))
    exact⟨[0,1],⟨Gt some (Gt Value.bool (a6 (h1 d hl))),rfl,rfl,rfl,an⟩,by decide,rfl⟩
  refine bG rfl ?_;refine ad (aa ?_)
  (repeat' (first|refine ai ?_|refine am (gs:=[999]) rfl ?_|refine ab [999] (af 0 rfl) rfl ?_|refine ab [999] (aN rfl (by first|assumption|omega)) rfl ?_|refine ab [999] (ao (m:=0) rfl (by decide)) rfl ?_|refine ab [999] (ao (m:=1) rfl (by decide)) rfl ?_|refine ab [999] (a9 1 rfl rfl rfl rfl (by first|assumption|omega) (by first|assumption|omega)) rfl ?_|refine ab [999] (aQ 1 rfl rfl rfl rfl rfl (by first|assumption|omega) rfl rfl) rfl ?_))
  ·refine a7 55 (v':=.bool true) rfl (Gt Value.bool (aR h2)) (bi rfl ?_);refine ad (aa (ah [] rfl ?_));refine aw [] (dL _ _ hNm _ hu _ _ h3) rfl rfl rfl rfl (by kernel_rfl) aH.refl an (λ _=>rfl) ?_;rintro v H' rfl;refine⟨rfl,ai ?_⟩;refine ad (aa (ae [] rfl ?_));refine ay ⟨_,rfl,rfl,?_⟩;show bC _ _ _ _ (k+k1+(k2-i)+i) _=_;rw[show k+k1+(k2-i)+i=k+(k1+k2) by omega]
 |right h1 h2 h3 h4=>
  rename_i c i;have hc:=hNm.r u hu;rw[h3] at hc;refine fj [(44,.bool false),(5,.int .i64 want),(1,.int .i64 (u:Int)),(0,.pointer (some ⟨pf,0,none⟩))] (bC pf gn cap N (k+k1+(k2-(i+1))) m) ?_ ?_
  ·cases hl:(m u).l with
   |none=>
    refine aa (ah [] rfl ?_);refine aX 33 rfl (by show ¬ enc (m u).l≠-1;rw[hl];simp[enc]) ?_
    (repeat' (first|refine ai ?_|refine am (gs:=[999]) rfl ?_|refine ab [999] (af 0 rfl) rfl ?_|refine ab [999] (aN rfl (by first|assumption|omega)) rfl ?_|refine ab [999] (ao (m:=0) rfl (by decide)) rfl ?_|refine ab [999] (ao (m:=1) rfl (by decide)) rfl ?_|refine ab [999] (a9 1 rfl rfl rfl rfl (by first|assumption|omega) (by first|assumption|omega)) rfl ?_|refine ab [999] (aQ 1 rfl rfl rfl rfl rfl (by first|assumption|omega) rfl rfl) rfl ?_))
    exact⟨[0,1],⟨rfl,rfl,rfl,rfl,an⟩,by decide,rfl⟩
   |some d=>
    have hd:=hNm.l u hu;rw[hl] at hd;have hdN:d<N:=hd;refine a7 6 (v':=.int .i64 (d:Int)) rfl (Gt (Value.int .i64) (ee hl)) ?_;refine aa (ah [] rfl ?_);refine bd 33 rfl (by omega) ?_
    (repeat' (first|refine ai ?_|refine am (gs:=[999]) rfl ?_|refine ab [999] (af 0 rfl) rfl ?_|refine ab [999] (aN rfl (by first|assumption|omega)) rfl ?_|refine ab [999] (ao (m:=0) rfl (by decide)) rfl ?_|refine ab [999] (ao (m:=1) rfl (by decide)) rfl ?_|refine ab [999] (a9 1 rfl rfl rfl rfl (by first|assumption|omega) (by first|assumption|omega)) rfl ?_|refine ab [999] (aQ 1 rfl rfl rfl rfl rfl (by first|assumption|omega) rfl rfl) rfl ?_))
    exact⟨[0,1],⟨Gt some (Gt Value.bool (a6 (h1 d hl))),rfl,rfl,rfl,an⟩,by decide,rfl⟩
  refine bG rfl ?_;refine ad (aa ?_)
  (repeat' (first|refine ai ?_|refine am (gs:=[999]) rfl ?_|refine ab [999] (af 0 rfl) rfl ?_|refine ab [999] (aN rfl (by first|assumption|omega)) rfl ?_|refine ab [999] (ao (m:=0) rfl (by decide)) rfl ?_|refine ab [999] (ao (m:=1) rfl (by decide)) rfl ?_|refine ab [999] (a9 1 rfl rfl rfl rfl (by first|assumption|omega) (by first|assumption|omega)) rfl ?_|refine ab [999] (aQ 1 rfl rfl rfl rfl rfl (by first|assumption|omega) rfl rfl) rfl ?_))
  ·refine a7 55 (v':=.bool false) rfl (Gt Value.bool (a6 h2)) (bG rfl ?_);refine aa ?_
   (repeat' (first|refine ai ?_|refine am (gs:=[999]) rfl ?_|refine ab [999] (af 0 rfl) rfl ?_|refine ab [999] (aN rfl (by first|assumption|omega)) rfl ?_|refine ab [999] (ao (m:=0) rfl (by decide)) rfl ?_|refine ab [999] (ao (m:=1) rfl (by decide)) rfl ?_|refine ab [999] (a9 1 rfl rfl rfl rfl (by first|assumption|omega) (by first|assumption|omega)) rfl ?_|refine ab [999] (aQ 1 rfl rfl rfl rfl rfl (by first|assumption|omega) rfl rfl) rfl ?_))
   refine a7 1 (v':=.int .i64 (c:Int)) rfl (Gt (Value.int .i64) (ee h3)) ?_;show J _ _ _ _ (bC pf gn cap N (k+k1+(k2-(i+1))) m);refine aa (ah [] rfl ?_);refine aw [] (jw _ m hNm c hc) rfl rfl rfl rfl (by kernel_rfl) aH.refl an (λ _=>rfl) ?_;rintro v H' rfl;refine⟨rfl,ai ?_⟩;refine⟨(dZ m c,c,i),[0,1],⟨rfl,rfl,rfl,an⟩,by decide,?_,⟨hNm.push hc,hc,h4,by show i<=k2;omega⟩,by show i<i+1;omega⟩;show some (bC _ _ _ _ (k+k1+(k2-(i+1))+1) _)=_;rw[show k+k1+(k2-(i+1))+1=k+k1+(k2-i) by omega]
abbrev OV:=Nat->Option Nat
def bj(ov:OV)(x:Nat)(c:Option Nat):OV:=λ y=>if y=x then c else ov y
def BX(N:Nat)(ov:OV):LV_:=ax ((List.range N).map λ x=>enc (ov x))
theorem wo(N:Nat)(ov:OV):(BX N ov).length=N:=by simp[BX,ax]
theorem Ds{N x:Nat}{ov:OV}(h:x<N):(BX N ov)[x]?=some (.int .i64 (enc (ov x))):=dx (by simp[h])
theorem CD{N x:Nat}{ov:OV}(c:Option Nat):(BX N ov).set x (.int .i64 (enc c))=BX N (bj ov x c):=by
 unfold BX ax
 apply Id
 intro i;by_cases h:x=i
 ·subst h;by_cases hx:x<N
  ·rw[GH (by simp[hx])];simp[hx,bj]
  ·rw[G6 (by simp;omega),G6 (by simp;omega)]
 ·rw[GJ h];by_cases hi:i<N
  ·simp[hi,bj,Ne.symm h]
  ·rw[G6 (by simp;omega),G6 (by simp;omega)]
structure fV where
 ns:bQ
 ov:OV
 k:Nat
def jD(pt ps go gn co cap N:Nat)(s:fV):Heap:=
 bC ps gn cap N s.k s.ns++[blk pt 319 [.pointer (some ⟨ps,0,none⟩),.slice (some ⟨go,0,none⟩) N co,.int .i64 (N:Int)],.own (.slice (some ⟨go,0,none⟩) N co) 3 1 N (BX N s.ov)]
def hQ(ns:bQ)(x:Nat):bQ:=match (ns x).l with
 |none=>ns
 |some c=>fk (gy (gy ns c { ns c with up:=none }) x (cJ (gy ns c { ns c with up:=none } x) 0 none)) x
theorem dD.split{N:Nat}{ns:bQ}(h:dD N ns){x:Nat}(hx:x<N):dD N (hQ ns x):=by
 unfold hQ;have hl:=h.l x hx;split
 ·exact h
 ·rename_i c hc;rw[hc] at hl;have hcN:c<N:=hl;exact (dD.setDown (h.upd (x:=c) (d:={ ns c with up:=none }) an (h.l c hcN) (h.r c hcN)) hx (c:=none) an 0).pull hx
theorem dD.joined{N:Nat}{ns ns':bQ}{a b k:Nat}(hN:dD N ns)(ha:a<N)(hb:b<N)(h:qI ns a b ns' k):dD N ns':=by
 obtain⟨n1,n2,n3,n4,k1,k2,k3,k4,a',b',h1,h2,hup,h3,h4,rfl,rfl⟩:=h;have hN1:=hN.splay ha h1;have hN2:=hN1.splay hb h2;obtain⟨hN3,ha'⟩:=hN2.end_ ha h3;obtain⟨hN4,hb'⟩:=hN3.end_ hb h4;exact (hN4.hang (c:=some a') ha' hb' 0).pull hb'
structure lS (N:Nat) (s:fV):Prop where
 ns:dD N s.ns
 ov:∀ x,x<N->sM N (s.ov x)
def yx(s:fV)(v:Nat)(s':fV):Prop:=∃ n1 deep k1,Edge 0 s.ns v n1 deep k1/\
 (deep=v/\s'=⟨n1,s.ov,s.k+k1⟩\/deep≠v/\∃ n2 k2 n3 top k3,eI n1 v n2 k2/\Edge 1 (hQ n2 v) deep n3 top k3/\s'=⟨n3,bj s.ov top (some v),s.k+k1+k2+k3⟩)
inductive tG (v:Nat):fV->fV->Nat->Prop
 |done {s:fV} {n1:bQ} {top k1:Nat}:Edge 1 s.ns v n1 top k1->s.ov top=none->tG v s ⟨n1,s.ov,s.k+k1⟩ 0
 |go {s s2 s':fV} {n1 n4:bQ} {top k1 w k4 i:Nat}:Edge 1 s.ns v n1 top k1->s.ov top=some w->yx ⟨n1,s.ov,s.k+k1⟩ w s2->v≠w->qI s2.ns v w n4 k4->tG v ⟨n4,bj s2.ov top none,s2.k+k4⟩ s' i->tG v s s' (i+1)
def DU(s:fV)(v:Nat)(s':fV):Prop:=∃ s1 i,yx s v s1/\tG v s1 s' i
theorem lS.part{N:Nat}{s s':fV}{v:Nat}(h:lS N s)(hv:v<N)(hp:yx s v s'):lS N s':=by
 obtain⟨n1,deep,k1,h1,⟨_,rfl⟩|⟨_,n2,k2,n3,top,k3,h2,h3,rfl⟩⟩:=hp
 ·exact⟨(h.ns.edge hv h1).1,h.ov⟩
 ·obtain⟨hN1,hd⟩:=h.ns.edge hv h1;refine⟨(((hN1.splay hv h2).split hv).edge hd h3).1,λ x hx=>?_⟩;simp only[bj];split
  ·exact hv
  ·exact h.ov x hx
theorem lS.ovn{N:Nat}{s:fV}{x:Nat}(h:lS N s)(ns:bQ)(hn:dD N ns)(k:Nat):lS N ⟨ns,bj s.ov x none,k⟩:=by
 refine⟨hn,λ y hy=>?_⟩;simp only[bj];split
 ·trivial
 ·exact h.ov y hy
theorem lS.accL{N v:Nat}{s s':fV}{i:Nat}(h:tG v s s' i)(hv:v<N):lS N s->lS N s':=by
 induction h with
 |done h1 _=>exact λ hs=>⟨(hs.ns.edge hv h1).1,hs.ov⟩
 |go h1 h2 h3 h4 h5 _ ih=>
  intro hs;obtain⟨hN1,ht⟩:=hs.ns.edge hv h1;have hw:=hs.ov _ ht;rw[h2] at hw;have h2':=lS.part (s:=⟨_,_,_⟩) ⟨hN1,hs.ov⟩ hw h3;exact ih (h2'.ovn _ (h2'.ns.joined hv hw h5) _)
theorem lS.acc{N v:Nat}{s s':fV}(h:lS N s)(hv:v<N)(ha:DU s v s'):lS N s':=by
 obtain⟨s1,i,h1,h2⟩:=ha;exact lS.accL h2 hv (h.part hv h1)
section
variable {pt ps go gn co cap N:Nat}
theorem qk{X:Cx}{Q:dQ}{E E':Env}{H:Heap}{ops l:List Oper}{o:Oper}{t x:Nat}{xo yo:Operand}{ov:OV}{c:Option Nat}(k:Nat)(ho:o.op=.store t xo yo)(hx:val E xo=some (.pointer (some ⟨go,x,none⟩)))(hy:val E yo=some (.int .i64 (enc c)))
 (hk:H[k]?=some (.own (.slice (some ⟨go,0,none⟩) N co) 3 1 N (BX N ov))) {uk:UK} {by':Nat} {z':Option Value} (ht:tab t=some ⟨uk,1,by',z'⟩) (hxN:x<N) (gs:LN) (hb:jH X.n ops gs E o undef=some E')
 (h:JL X ops l Q E' (H.set k (.own (.slice (some ⟨go,0,none⟩) N co) 3 1 N (BX N (bj ov x c))))):JL X ops (o::l) Q E H:=by
 refine aO k ho hx hy hk (df ht rfl rfl (by rw[wo];exact hxN)) gs hb ?_;rw[CD];exact h
theorem xC(s:fV)(hs:lS N s)(v:Nat)(hv:v<N)(s':fV)(h:yx s v s'):Fn 261 [.pointer (some ⟨pt,0,none⟩),.int .i64 (v:Int)] (aL (jD pt ps go gn co cap N s)) ([]++jD pt ps go gn co cap N s) λ _ H'=>H'=jD pt ps go gn co cap N s':=by
 obtain⟨ns,ov,k⟩:=s;obtain⟨n1,deep,k1,h1,hc⟩:=h;obtain⟨hN1,hd⟩:=hs.ns.edge hv h1
 generalize hM:aL _=M
 refine aJ Tryz.func261 rfl rfl λ w0=>?_;refine ad (aa ?_)
 (repeat' (first|refine am (gs:=[999]) rfl ?_|refine ab [999] (af 2 rfl) rfl ?_))
 refine aw [] (zg _ _ hs.ns v hv n1 deep k1 h1) rfl rfl rfl rfl (by kernel_rfl) aH.refl an (λ _=>rfl) ?_;rintro r H' ⟨rfl,rfl⟩;refine⟨rfl,?_⟩
 (repeat' (first|refine am (gs:=[999]) rfl ?_|refine ab [999] (af 2 rfl) rfl ?_))
 refine ai ?_;refine ad (ad (aa (ae [] rfl ?_)))
 rcases hc with ⟨rfl,rfl⟩|⟨hne,n2,k2,n3,top,k3,h2,h3,rfl⟩
 ·refine a7 13 (v':=.bool true) rfl (Gt Value.bool (aR rfl)) (bi rfl (ay ⟨_,rfl,rfl⟩))
 ·have hN2:=hN1.splay hv h2;have hN3:=hN2.split hv;have htop:=(hN3.edge hd h3).2;refine a7 13 (v':=.bool false) rfl (congrArg Value.bool (a6 (by omega))) (bG rfl (aq ?_));refine ad (aa ?_)
  (repeat' (first|refine am (gs:=[999]) rfl ?_|refine ab [999] (af 2 rfl) rfl ?_))
  refine aw [] (qS _ n1 hN1 v hv n2 k2 h2) rfl rfl rfl rfl (by kernel_rfl) aH.refl an (λ _=>rfl) ?_;rintro r H' rfl;refine⟨rfl,ai ?_⟩;show J _ _ _ _ (bC ps gn cap N (k+k1+k2) (hQ n2 v)++_);refine bu 13 (cZ [0,1,2,3,4,5,6,7,8,10]++[(9,false)]++cZ [11]++[(12,false)]) [2] (by kernel_rfl) (by decide) rfl ?_
  (repeat' (first|refine bB (gs:=[999]) rfl rfl ?_|refine aj [999] rfl (af 0 rfl) rfl ?_))
  refine bg rfl ?_;refine aw [] (pq _ _ hN3 deep hd n3 top k3 h3) rfl rfl rfl rfl (by kernel_rfl) aH.refl an (λ _=>rfl) ?_;rintro r H' ⟨rfl,rfl⟩;refine⟨rfl,ai ⟨⟨[2],by decide,rfl⟩,?_⟩⟩
  (repeat' (first|refine bB (gs:=[999]) rfl rfl ?_|refine aj [999] rfl (aG rfl htop) rfl ?_))
  refine bg rfl ?_;refine qk (c:=some v) 3 rfl rfl rfl rfl rfl htop [] rfl ?_;refine ai ⟨⟨[2],by decide,rfl⟩,?_⟩;refine bq ?_;exact ai ⟨_,rfl,rfl⟩
end
variable {pt ps go gn co cap N:Nat}
theorem jr(s:fV)(hs:lS N s)(v:Nat)(hv:v<N)(s':fV)(h:DU s v s'):Fn 250 [.pointer (some ⟨pt,0,none⟩),.int .i64 (v:Int)] (aL (jD pt ps go gn co cap N s)) ([]++jD pt ps go gn co cap N s) λ _ H'=>H'=jD pt ps go gn co cap N s':=by
 obtain⟨s1,i0,hP,hL⟩:=h;have hs1:=hs.part hv hP
 generalize hM:aL _=M
 refine aJ Tryz.func250 rfl rfl λ w0=>?_;refine ad (aa (ah [] rfl ?_));refine aw [] (xC s hs v hv s1 hP) rfl rfl rfl rfl (by kernel_rfl) aH.refl an (λ _=>rfl) ?_;rintro r H' rfl;refine⟨rfl,ai ?_⟩;refine au ?_;refine bO (σ:=fV×Nat) (λ _=>[(1,.int .i64 (v:Int)),(0,.pointer (some ⟨pt,0,none⟩))]) (λ t=>jD pt ps go gn co cap N t.1) (λ t=>lS N t.1/\tG v t.1 s' t.2) (λ t=>t.2) (s1,i0) [0,1,2,3] ⟨rfl,rfl,an⟩ (by decide) rfl ⟨hs1,hL⟩ ?_;rintro⟨m,i⟩ ⟨hm,hLm⟩;simp only at hm hLm ⊢;refine au (ad (aa ?_))
 (repeat' (first|refine am (gs:=[999]) rfl ?_|refine ab [999] (af 2 rfl) rfl ?_))
 obtain⟨n1,top,k1,hE,hc⟩:∃ n1 top k1,Edge 1 m.ns v n1 top k1/\(m.ov top=none/\s'=⟨n1,m.ov,m.k+k1⟩\/∃ w,m.ov top=some w/\∃ s2 n4 k4 j,yx ⟨n1,m.ov,m.k+k1⟩ w s2/\v≠w/\qI s2.ns v w n4 k4/\tG v ⟨n4,bj s2.ov top none,s2.k+k4⟩ s' j/\i=j+1):=by
  cases hLm with
  |done h1 h2=>exact⟨_,_,_,h1,.inl ⟨h2,rfl⟩⟩
  |go h1 h2 h3 h4 h5 h6=>exact⟨_,_,_,h1,.inr ⟨_,h2,_,_,_,_,h3,h4,h5,h6,rfl⟩⟩
 obtain⟨hN1,htop⟩:=hm.ns.edge hv hE;refine aw [] (pq _ _ hm.ns v hv n1 top k1 hE) rfl rfl rfl rfl (by kernel_rfl) aH.refl an (λ _=>rfl) ?_;rintro r H' ⟨rfl,rfl⟩;refine⟨rfl,?_⟩
 (repeat' (first|refine am (gs:=[999]) rfl ?_|refine ab [999] (af 2 rfl) rfl ?_))
 refine ai ?_;refine ad (aa ?_)
 (repeat' (first|refine am (gs:=[999]) rfl ?_|refine ab [999] (af 2 rfl) rfl ?_))
 refine ab [] (aG rfl htop) rfl ?_;refine ab [] (aD (v:=.int .i64 (enc (m.ov top))) 3 rfl rfl rfl (Ds htop)) rfl ?_
 (repeat' (first|refine am (gs:=[999]) rfl ?_|refine ab [999] (af 2 rfl) rfl ?_))
 refine ai ?_;refine ad (ad (aa (ae [] rfl ?_)))
 rcases hc with ⟨hn,rfl⟩|⟨w,hw,s2,n4,k4,j,h3,h4,h5,h6,rfl⟩
 ·refine a7 23 (v':=.bool true) rfl (Gt Value.bool (aR (by show enc (m.ov top)=-1;rw[hn];rfl))) (bi rfl (ay ⟨_,rfl,rfl⟩))
 ·have hwN:=hm.ov _ htop;rw[hw] at hwN;refine a7 23 (v':=.bool false) rfl (congrArg Value.bool (a6 (by show ¬ enc (m.ov top)=-1;rw[hw];simp[enc]))) (bG rfl (aq ?_));refine a7 5 (v':=.int .i64 (w:Int)) rfl (congrArg (Value.int .i64) (ee hw)) ?_;have hm1:lS N ⟨n1,m.ov,m.k+k1⟩:=⟨hN1,hm.ov⟩;have hs2:=hm1.part hwN h3;show J _ _ _ _ (jD pt ps go gn co cap N ⟨n1,m.ov,m.k+k1⟩);refine ad (aa (ah [] rfl ?_));refine aw [] (xC _ hm1 w hwN s2 h3) rfl rfl rfl rfl (by kernel_rfl) aH.refl trivial (fun _=>rfl) ?_;rintro r H' rfl;refine⟨rfl,ai ?_⟩;show J _ _ _ _ (jD pt ps go gn co cap N s2);refine ad (aa ?_)
  (repeat' (first|refine am (gs:=[999]) rfl ?_|refine ab [999] (af 2 rfl) rfl ?_))
  refine ab [] (aG rfl htop) rfl ?_;refine qk (c:=none) 3 rfl rfl rfl rfl rfl htop [] rfl ?_;refine ai ?_;show J _ _ _ _ (bC ps gn cap N s2.k s2.ns++_);refine aa ?_
  (repeat' (first|refine am (gs:=[999]) rfl ?_|refine ab [999] (af 2 rfl) rfl ?_))
  refine aw [] (DM _ _ hs2.ns v w hv hwN h4 n4 k4 h5) rfl rfl rfl rfl (by kernel_rfl) aH.refl an (λ _=>rfl) ?_;rintro r H' rfl;refine⟨rfl,ai ?_⟩;exact⟨(⟨n4,bj s2.ov top none,s2.k+k4⟩,j),[0,1,2,3],⟨rfl,rfl,an⟩,by decide,rfl,⟨hs2.ovn _ (hs2.ns.joined hv hwN h5) _,h6⟩,by show j<j+1;omega⟩
theorem f8(s:fV)(v:Nat)(hv:v<N):Fn 249 [.pointer (some ⟨pt,0,none⟩),.int .i64 (v:Int)] (aL (jD pt ps go gn co cap N s)) ([]++jD pt ps go gn co cap N s) λ r H'=>r=.bool true/\H'=jD pt ps go gn co cap N s:=by
 generalize hM:aL _=M
 refine aJ Tryz.func249 rfl rfl λ w0=>?_;refine ad (aa (ae [] rfl ?_));refine ad (aa (ah [] rfl ?_));refine bd 7 rfl (by omega) ?_
 (repeat' (first|refine am (gs:=[999]) rfl ?_|refine ab [999] (af 2 rfl) rfl ?_))
 refine ai ?_;refine fd 4 rfl (by omega) ?_;exact ay ⟨_,rfl,rfl,rfl⟩
def uf(s:fV)(v:Nat)(s':fV)(y:Nat):Prop:=∃ s1 n1 k1,DU s v s1/\Edge 1 s1.ns v n1 y k1/\s'=⟨n1,s1.ov,s1.k+k1⟩
def sv(s:fV)(v:Nat)(s':fV)(y:Option Nat):Prop:=∃ s1 n1 k1,DU s v s1/\F8 s1.ns v 1 n1 y k1/\s'=⟨n1,s1.ov,s1.k+k1⟩
def FG(s:fV)(v:Nat)(s':fV):Prop:=∃ n1 k1,eI s.ns v n1 k1/\s'=⟨n1,s.ov,s.k+k1⟩
def DY(s:fV)(v w:Nat)(s':fV):Prop:=∃ s1 s2 s3 z,uf s v s1 v/\uf s1 w s2 z/\z≠v/\DU s2 v s3/\s'=⟨s3.ns,bj s3.ov v (some w),s3.k⟩
def Fg(s:fV)(v:Nat)(s':fV):Prop:=∃ s1 u n1 k1,sv s v s1 (some u)/\eI s1.ns u n1 k1/\s'=⟨hQ n1 u,s1.ov,s1.k+k1⟩
def Bv(s:fV)(v:Nat)(s':fV)(y:Nat):Prop:=∃ s1 n1 k1 n2 k2 n3 k3,DU s v s1/\eI s1.ns v n1 k1/\Gh (fU n1 (some v) 0 true) v n2 y k2/\eI n2 v n3 k3/\s'=⟨fU n3 (some v) 0 true,s1.ov,s1.k+k1+k2+k3⟩
def FC(s:fV)(v:Nat)(d:Int)(s':fV):Prop:=∃ s1 n1 k1,DU s v s1/\eI s1.ns v n1 k1/\(0<=d->(n1 v).most<=4611686018427387904-d)/\(d<0→-4611686018427387904-d<=(n1 v).least)/\s'=⟨fU n1 (some v) d false,s1.ov,s1.k+k1⟩
theorem dD.leR{N:Nat}{want:Int}{ns ns':bQ}{x y k:Nat}(h:BC want ns x ns' y k):x<N->dD N ns->dD N ns'/\y<N:=by
 induction h with
 |left h1 _ _ ih=>
  intro hx hN;have hc:=hN.l _ hx;rw[h1] at hc;exact ih hc (hN.push hc)
 |here _ _ h3=>exact λ hx hN=>⟨hN.splay hx h3,hx⟩
 |right _ _ h3 _ ih=>
  intro hx hN;have hc:=hN.r _ hx;rw[h3] at hc;exact ih hc (hN.push hc)
theorem dD.atR{N:Nat}{p:Int}{ns ns':bQ}{x y k:Nat}(h:z4 ns x p ns' y k):x<N->dD N ns->dD N ns'/\y<N:=by
 induction h with
 |left _ h1 _ ih=>
  intro hx hN;have hc:=hN.l _ hx;rw[h1] at hc;exact ih hc (hN.push hc)
 |here _ h3=>exact λ hx hN=>⟨hN.splay hx h3,hx⟩
 |right _ h3 _ ih=>
  intro hx hN;have hc:=hN.r _ hx;rw[h3] at hc;exact ih hc (hN.push hc)
theorem lS.above{N v:Nat}{s s':fV}{u:Nat}(hs:lS N s)(hv:v<N)(h:sv s v s' (some u)):lS N s'/\u<N:=by
 obtain⟨s1,n1,k1,hA,hE,rfl⟩:=h;have hs1:=hs.acc hv hA;obtain⟨m1,j1,hS,⟨_,h2,_⟩|⟨_,_,z,k2,h3,h4,_⟩⟩:=hE
 ·cases h2
 ·simp only[Gs] at h4;subst h4;obtain⟨g1,g2⟩:=dD.atR h3 hv (hs1.ns.splay hv hS);exact⟨⟨g1,hs1.ov⟩,g2⟩
theorem lS.root{N v:Nat}{s s':fV}{y:Nat}(hs:lS N s)(hv:v<N)(h:uf s v s' y):lS N s':=by
 obtain⟨s1,n1,k1,hA,hE,rfl⟩:=h;have hs1:=hs.acc hv hA;exact⟨(hs1.ns.edge hv hE).1,hs1.ov⟩
theorem sE(s:fV)(hs:lS N s)(v:Nat)(hv:v<N)(s':fV)(y:Nat)(h:uf s v s' y):Fn 240 [.pointer (some ⟨pt,0,none⟩),.int .i64 (v:Int)] (aL (jD pt ps go gn co cap N s)) ([]++jD pt ps go gn co cap N s) λ r H'=>r=.int .i64 (y:Int)/\H'=jD pt ps go gn co cap N s':=by
 obtain⟨s1,n1,k1,hA,hE,rfl⟩:=h;have hs1:=hs.acc hv hA
 generalize hM:aL _=M
 refine aJ Tryz.func240 rfl rfl λ w0=>?_;refine ad (aa (ae [] rfl ?_));refine ad (ad (aa (ah [] rfl ?_)));refine aw [] (f8 _ _ hv) rfl rfl rfl rfl (by kernel_rfl) aH.refl an (λ _=>rfl) ?_;rintro r H' ⟨rfl,rfl⟩;refine⟨rfl,?_⟩
 (repeat' (first|refine am (gs:=[999]) rfl ?_|refine ab [999] (af 2 rfl) rfl ?_))
 refine ai ?_;refine bG rfl ?_;refine aq (ad (aa (ah [] rfl ?_)));refine aw [] (jr _ hs _ hv _ hA) rfl rfl rfl rfl (by kernel_rfl) aH.refl an (λ _=>rfl) ?_;rintro r H' rfl;refine⟨rfl,ai ?_⟩;refine ad (aa ?_)
 (repeat' (first|refine am (gs:=[999]) rfl ?_|refine ab [999] (af 2 rfl) rfl ?_))
 refine aw [] (pq _ _ hs1.ns v hv n1 y k1 hE) rfl rfl rfl rfl (by kernel_rfl) aH.refl an (λ _=>rfl) ?_;rintro r H' ⟨rfl,rfl⟩;refine⟨rfl,?_⟩
 (repeat' (first|refine am (gs:=[999]) rfl ?_|refine ab [999] (af 2 rfl) rfl ?_))
 refine ai ?_;exact ay ⟨_,rfl,rfl,rfl⟩
theorem uA(s:fV)(hs:lS N s)(v:Nat)(hv:v<N)(s':fV)(y:Option Nat)(h:sv s v s' y):Fn 255 [.pointer (some ⟨pt,0,none⟩),.int .i64 (v:Int)] (aL (jD pt ps go gn co cap N s)) ([]++jD pt ps go gn co cap N s) λ r H'=>r=.int .i64 (enc y)/\H'=jD pt ps go gn co cap N s':=by
 obtain⟨s1,n1,k1,hA,hE,rfl⟩:=h;have hs1:=hs.acc hv hA
 generalize hM:aL _=M
 refine aJ Tryz.func255 rfl rfl λ w0=>?_;refine ad (aa (ae [] rfl ?_));refine ad (ad (aa (ah [] rfl ?_)));refine aw [] (f8 _ _ hv) rfl rfl rfl rfl (by kernel_rfl) aH.refl an (λ _=>rfl) ?_;rintro r H' ⟨rfl,rfl⟩;refine⟨rfl,?_⟩
 (repeat' (first|refine am (gs:=[999]) rfl ?_|refine ab [999] (af 2 rfl) rfl ?_))
 refine ai ?_;refine bG rfl ?_;refine aq (ad (aa (ah [] rfl ?_)));refine aw [] (jr _ hs _ hv _ hA) rfl rfl rfl rfl (by kernel_rfl) aH.refl an (λ _=>rfl) ?_;rintro r H' rfl;refine⟨rfl,ai ?_⟩;refine ad (aa ?_)
 (repeat' (first|refine am (gs:=[999]) rfl ?_|refine ab [999] (af 2 rfl) rfl ?_))
 refine aw [] (Fw _ _ hs1.ns v hv 1 n1 y k1 hE) rfl rfl rfl rfl (by kernel_rfl) aH.refl an (λ _=>rfl) ?_;rintro r H' ⟨rfl,rfl⟩;refine⟨rfl,?_⟩
 (repeat' (first|refine am (gs:=[999]) rfl ?_|refine ab [999] (af 2 rfl) rfl ?_))
 refine ai ?_;exact ay ⟨_,rfl,rfl,rfl⟩
theorem vY(s:fV)(hs:lS N s)(v:Nat)(hv:v<N)(s':fV)(h:FG s v s'):Fn 252 [.pointer (some ⟨pt,0,none⟩),.int .i64 (v:Int)] (aL (jD pt ps go gn co cap N s)) ([]++jD pt ps go gn co cap N s) λ r H'=>r=.int .i64 (s'.ns v).value/\H'=jD pt ps go gn co cap N s':=by
 obtain⟨n1,k1,hS,rfl⟩:=h
 generalize hM:aL _=M
 refine aJ Tryz.func252 rfl rfl λ w0=>?_;refine ad (aa (ae [] rfl ?_));refine ad (aa ?_)
 (repeat' (first|refine am (gs:=[999]) rfl ?_|refine ab [999] (af 2 rfl) rfl ?_))
 refine aw [] (BB _ _ hs.ns v hv n1 k1 hS) rfl rfl rfl rfl (by kernel_rfl) aH.refl an (λ _=>rfl) ?_;rintro r H' ⟨rfl,rfl⟩;refine⟨rfl,?_⟩
 (repeat' (first|refine am (gs:=[999]) rfl ?_|refine ab [999] (af 2 rfl) rfl ?_))
 refine ai ?_;exact ay ⟨_,rfl,rfl,rfl⟩
theorem zc(s:fV):Fn 237 [.pointer (some ⟨pt,0,none⟩)] (aL (jD pt ps go gn co cap N s)) ([]++jD pt ps go gn co cap N s) λ r H'=>r=.int .i64 (dc s.k)/\H'=jD pt ps go gn co cap N s:=by
 generalize hM:aL _=M
 refine aJ Tryz.func237 rfl rfl λ w0=>?_;refine ad (aa (ae [] rfl ?_));refine ad (aa ?_)
 (repeat' (first|refine am (gs:=[999]) rfl ?_|refine ab [999] (af 2 rfl) rfl ?_))
 refine aw [] (xT s.k s.ns) rfl rfl rfl rfl (by kernel_rfl) aH.refl an (λ _=>rfl) ?_;rintro r H' ⟨rfl,rfl⟩;refine⟨rfl,?_⟩
 (repeat' (first|refine am (gs:=[999]) rfl ?_|refine ab [999] (af 2 rfl) rfl ?_))
 refine ai ?_;exact ay ⟨_,rfl,rfl,rfl⟩
theorem DJ(s:fV)(hs:lS N s)(v:Nat)(hv:v<N)(d:Int)(hd:-9223372036854775808<=d/\d<=9223372036854775807)(s':fV)(h:FC s v d s'):Fn 254 [.pointer (some ⟨pt,0,none⟩),.int .i64 (v:Int),.int .i64 d] (aL (jD pt ps go gn co cap N s)) ([]++jD pt ps go gn co cap N s) λ _ H'=>H'=jD pt ps go gn co cap N s':=by
 obtain⟨s1,n1,k1,hA,hS,h1,h2,rfl⟩:=h;have hs1:=hs.acc hv hA
 generalize hM:aL _=M
 refine aJ Tryz.func254 rfl rfl λ w0=>?_;refine ad (aa (ae [] rfl ?_));refine ad (ad (aa (ah [] rfl ?_)));refine aw [] (f8 _ _ hv) rfl rfl rfl rfl (by kernel_rfl) aH.refl an (λ _=>rfl) ?_;rintro r H' ⟨rfl,rfl⟩;refine⟨rfl,?_⟩
 (repeat' (first|refine am (gs:=[999]) rfl ?_|refine ab [999] (af 2 rfl) rfl ?_))
 refine ai ?_;refine bG rfl ?_;refine aq (ad (aa (ah [] rfl ?_)));refine aw [] (jr _ hs _ hv _ hA) rfl rfl rfl rfl (by kernel_rfl) aH.refl an (λ _=>rfl) ?_;rintro r H' rfl;refine⟨rfl,ai ?_⟩;refine ad (aa ?_)
 (repeat' (first|refine am (gs:=[999]) rfl ?_|refine ab [999] (af 2 rfl) rfl ?_))
 refine aw [] (C7 _ _ hs1.ns v hv n1 k1 hS d hd h1 h2) rfl rfl rfl rfl (by kernel_rfl) aH.refl an (λ _=>rfl) ?_;rintro r H' rfl;refine⟨rfl,?_⟩
 (repeat' (first|refine am (gs:=[999]) rfl ?_|refine ab [999] (af 2 rfl) rfl ?_))
 refine ai ?_;exact ay ⟨_,rfl,rfl⟩
theorem x6(s:fV)(hs:lS N s)(v:Nat)(hv:v<N)(s':fV)(y:Nat)(h:Bv s v s' y):Fn 253 [.pointer (some ⟨pt,0,none⟩),.int .i64 (v:Int)] (aL (jD pt ps go gn co cap N s)) ([]++jD pt ps go gn co cap N s) λ r H'=>r=.int .i64 (y:Int)/\H'=jD pt ps go gn co cap N s':=by
 obtain⟨s1,n1,k1,n2,k2,n3,k3,hA,hS,hL,hS3,rfl⟩:=h;have hs1:=hs.acc hv hA;have hN1:=(hs1.ns.splay hv hS).lay (c:=some v) hv 0 true
 have hN2:dD N n2:=by
  obtain⟨m1,j1,j2,g1,g2,_⟩:=hL;exact (dD.leR g2 hv (hN1.splay hv g1)).1
 generalize hM:aL _=M
 refine aJ Tryz.func253 rfl rfl λ w0=>?_;refine ad (aa (ae [] rfl ?_));refine ad (ad (aa (ah [] rfl ?_)));refine aw [] (f8 _ _ hv) rfl rfl rfl rfl (by kernel_rfl) aH.refl an (λ _=>rfl) ?_;rintro r H' ⟨rfl,rfl⟩;refine⟨rfl,?_⟩
 (repeat' (first|refine am (gs:=[999]) rfl ?_|refine ab [999] (af 2 rfl) rfl ?_))
 refine ai ?_;refine bG rfl ?_;refine aq (ad (aa (ah [] rfl ?_)));refine aw [] (jr _ hs _ hv _ hA) rfl rfl rfl rfl (by kernel_rfl) aH.refl an (λ _=>rfl) ?_;rintro r H' rfl;refine⟨rfl,ai ?_⟩;refine ad (aa ?_)
 (repeat' (first|refine am (gs:=[999]) rfl ?_|refine ab [999] (af 2 rfl) rfl ?_))
 refine aw [] (tl _ _ hs1.ns v hv n1 k1 hS) rfl rfl rfl rfl (by kernel_rfl) aH.refl an (λ _=>rfl) ?_;rintro r H' rfl;refine⟨rfl,ai ?_⟩;show J _ _ _ _ (bC ps gn cap N _ _++_);refine ad (aa ?_)
 (repeat' (first|refine am (gs:=[999]) rfl ?_|refine ab [999] (af 2 rfl) rfl ?_))
 refine aw [] (yS _ _ hN1 v hv n2 y k2 hL) rfl rfl rfl rfl (by kernel_rfl) aH.refl an (λ _=>rfl) ?_;rintro r H' ⟨rfl,rfl⟩;refine⟨rfl,?_⟩
 (repeat' (first|refine am (gs:=[999]) rfl ?_|refine ab [999] (af 2 rfl) rfl ?_))
 refine ai ?_;refine ad (aa ?_)
 (repeat' (first|refine am (gs:=[999]) rfl ?_|refine ab [999] (af 2 rfl) rfl ?_))
 refine aw [] (tl _ _ hN2 v hv n3 k3 hS3) rfl rfl rfl rfl (by kernel_rfl) aH.refl an (λ _=>rfl) ?_;rintro r H' rfl;refine⟨rfl,ai ?_⟩;refine ad (aa (ae [] rfl ?_));exact ay ⟨_,rfl,rfl,rfl⟩
theorem De(s:fV)(hs:lS N s)(v:Nat)(hv:v<N)(s':fV)(h:Fg s v s'):Fn 258 [.pointer (some ⟨pt,0,none⟩),.int .i64 (v:Int)] (aL (jD pt ps go gn co cap N s)) ([]++jD pt ps go gn co cap N s) λ _ H'=>H'=jD pt ps go gn co cap N s':=by
 obtain⟨s1,u,n1,k1,hA,hS,rfl⟩:=h;obtain⟨hs1,huN⟩:=hs.above hv hA
 generalize hM:aL _=M
 refine aJ Tryz.func258 rfl rfl λ w0=>?_;refine ad (aa (ae [] rfl ?_));refine ad (ad (aa (ah [] rfl ?_)));refine aw [] (f8 _ _ hv) rfl rfl rfl rfl (by kernel_rfl) aH.refl an (λ _=>rfl) ?_;rintro r H' ⟨rfl,rfl⟩;refine⟨rfl,?_⟩
 (repeat' (first|refine am (gs:=[999]) rfl ?_|refine ab [999] (af 2 rfl) rfl ?_))
 refine ai ?_;refine bG rfl ?_;refine aq (ad (aa (ah [] rfl ?_)));refine aw [] (uA s hs v hv s1 (some u) hA) rfl rfl rfl rfl (by kernel_rfl) aH.refl an (λ _=>rfl) ?_;rintro r H' ⟨rfl,rfl⟩;refine⟨rfl,?_⟩
 (repeat' (first|refine am (gs:=[999]) rfl ?_|refine ab [999] (af 2 rfl) rfl ?_))
 refine ai ?_;refine ad (ad (aa (ae [] rfl ?_)));refine a7 14 (v':=.bool false) rfl (Gt Value.bool (a6 (by simp[enc]))) (bG rfl (aq ?_));show J _ _ _ _ (bC ps gn cap N _ _++_);refine ad (aa ?_)
 (repeat' (first|refine am (gs:=[999]) rfl ?_|refine ab [999] (af 2 rfl) rfl ?_))
 refine aw [] (qS _ _ hs1.ns u huN n1 k1 hS) rfl rfl rfl rfl (by kernel_rfl) aH.refl an (λ _=>rfl) ?_;rintro r H' rfl;refine⟨rfl,ai ?_⟩;refine ad (aa (ae [] rfl ?_));exact ay ⟨_,rfl,rfl⟩
theorem Az(s:fV)(hs:lS N s)(v w:Nat)(hv:v<N)(hw:w<N)(s':fV)(h:DY s v w s'):Fn 257 [.pointer (some ⟨pt,0,none⟩),.int .i64 (v:Int),.int .i64 (w:Int)] (aL (jD pt ps go gn co cap N s)) ([]++jD pt ps go gn co cap N s) λ _ H'=>H'=jD pt ps go gn co cap N s':=by
 obtain⟨s1,s2,s3,z,hR1,hR2,hz,hA,rfl⟩:=h;have hs1:=hs.root hv hR1;have hs2:=hs1.root hw hR2;have hs3:=hs2.acc hv hA
 generalize hM:aL _=M
 refine aJ Tryz.func257 rfl rfl λ w0=>?_;refine ad (aa (ae [] rfl ?_));refine ad (au (ad (aa (ah [] rfl ?_))));refine aw [] (f8 _ _ hv) rfl rfl rfl rfl (by kernel_rfl) aH.refl an (λ _=>rfl) ?_;rintro r H' ⟨rfl,rfl⟩;refine⟨rfl,?_⟩
 (repeat' (first|refine am (gs:=[999]) rfl ?_|refine ab [999] (af 2 rfl) rfl ?_))
 refine aw [999] (f8 _ _ hw) rfl rfl rfl rfl (by kernel_rfl) aH.refl an (λ _=>rfl) ?_;rintro r H' ⟨rfl,rfl⟩;refine⟨rfl,?_⟩
 (repeat' (first|refine am (gs:=[999]) rfl ?_|refine ab [999] (af 2 rfl) rfl ?_))
 refine ai ?_;refine bG rfl ?_;refine ad (aa (ah [] rfl ?_));refine aw [] (sE s hs v hv s1 v hR1) rfl rfl rfl rfl (by kernel_rfl) aH.refl an (λ _=>rfl) ?_;rintro r H' ⟨rfl,rfl⟩;refine⟨rfl,?_⟩
 (repeat' (first|refine am (gs:=[999]) rfl ?_|refine ab [999] (af 2 rfl) rfl ?_))
 refine ai ?_;refine a7 18 (v':=.bool false) rfl (Gt Value.bool (a6 (by simp))) (bG rfl ?_);refine ad (aa (ah [] rfl ?_));refine aw [] (sE s1 hs1 w hw s2 z hR2) rfl rfl rfl rfl (by kernel_rfl) aH.refl an (λ _=>rfl) ?_;rintro r H' ⟨rfl,rfl⟩;refine⟨rfl,?_⟩
 (repeat' (first|refine am (gs:=[999]) rfl ?_|refine ab [999] (af 2 rfl) rfl ?_))
 refine ai ?_;refine a7 24 (v':=.bool false) rfl (Gt Value.bool (a6 (by omega))) (bG rfl (aq ?_));refine ad (aa (ah [] rfl ?_));refine aw [] (jr _ hs2 _ hv _ hA) rfl rfl rfl rfl (by kernel_rfl) aH.refl an (λ _=>rfl) ?_;rintro r H' rfl;refine⟨rfl,ai ?_⟩;show J _ _ _ _ (bC ps gn cap N _ _++_);refine ad (aa ?_)
 (repeat' (first|refine am (gs:=[999]) rfl ?_|refine ab [999] (af 2 rfl) rfl ?_))
 refine ab [] (aG rfl hv) rfl ?_;refine qk (c:=some w) 3 rfl rfl rfl rfl rfl hv [] rfl ?_;refine ai ?_;refine ad (aa (ae [] rfl ?_));exact ay ⟨_,rfl,rfl⟩
end Go.Proofs.YtmcnpaelaieniaaGreatDoor
