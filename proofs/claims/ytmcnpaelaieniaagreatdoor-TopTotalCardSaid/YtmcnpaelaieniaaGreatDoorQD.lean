import Derived.Test.YtmcnpaelaieniaaGreatDoorQG
import Derived.RangeFuncRecord
import Derived.RangeFuncCalls
import Derived.RangeFuncIn
import Derived.RangeFuncSeq
/- A part of the proof. -/
set_option linter.unusedVariables false
set_option linter.unusedSimpArgs false
namespace Go.Proofs.YtmcnpaelaieniaaGreatDoor
open Go.RowKit
variable {X:Cx} {Q:fb} {E E':Env} {H:Heap}
structure Nd where
 up:Option Nat
 l:Option Nat
 r:Option Nat
 size:Int
 value:Int
 least:Int
 most:Int
 add:Int
 turned:Bool
deriving Inhabited
abbrev cH:=Nat->Nd
abbrev ei(n:Int):Int:=IntKind.i64.wrap n
def enc:Option Nat->Int
 |none=>-1
 |some x=>(x:Int)
def fM(d:Nd):LV_:=[.int .i64 (enc d.up),.int .i64 (enc d.l),.int .i64 (enc d.r),.int .i64 d.size,.int .i64 d.value,.int .i64 d.least,.int .i64 d.most,.int .i64 d.add,.bool d.turned]
def iF(N:Nat)(ns:cH):LV_:=(List.range N).flatMap λ x=>fM (ns x)
def jw(ns:cH)(x:Nat)(d:Nd):cH:=λ y=>if y=x then d else ns y
theorem eo(ns:cH)(x:Nat)(d:Nd):jw ns x d x=d:=if_pos rfl
theorem gj(ns:cH){x y:Nat}(d:Nd)(h:y≠x):jw ns x d y=ns y:=if_neg h
theorem gJ(N:Nat)(ns:cH):(iF N ns).length=N*9:=by
 unfold iF
 induction N with
 |zero=>rfl
 |succ N a=>rw[OY,List.flatMap_append,Nj,a];simp[fM];omega
theorem wm(N:Nat)(ns:cH):iF (N+1) ns=iF N ns++fM (ns N):=by
 unfold iF;rw[OY,List.flatMap_append];simp
theorem kC{N x f:Nat}{ns:cH}(b:x<N)(c:f<9):(iF N ns)[x*9+f]?=(fM (ns x))[f]?:=by
 induction N with
 |zero=>omega
 |succ N a=>
  rw[wm];by_cases e:x=N
  ·subst e;rw[List.getElem?_append_right (by rw[gJ];omega),gJ]
   congr 1;omega
  ·rw[NZ (by rw[gJ];omega)];exact a aa
theorem Hz{N x f:Nat}{ns:cH}{d:Nd}{v:Value}(h:x<N)(j:f<9)(b:(fM (ns x)).set f v=fM d):(iF N ns).set (x*9+f) v=iF N (jw ns x d):=by
 apply Pl
 intro i;by_cases hi:i<N*9
 ·have g:i/9<N:=by omega
  have e:i=(i/9)*9+i%9:=aa;rw[e,kC (ns:=jw ns x d) g aa];by_cases c:x*9+f=i/9*9+i%9
  ·have a:i/9=x:=by omega
   have c2:i%9=f:=aa;rw[a,c2,eo,<- b,Nq (by rw[gJ];omega),Nq (by simp[fM];omega)]
  ·rw[Ns c,kC g aa];by_cases a:i/9=x
   ·rw[a,eo,<- b,Ns aa]
   ·rw[gj _ _ a]
 ·rw[N4 (by rw[NO,gJ];omega),N4 (by rw[gJ];omega)]
def lX(d:Nd)(side:Nat):Option Nat:=if side=0 then d.l else d.r
def dF(d:Nd)(side:Nat)(c:Option Nat):Nd:=if side=0 then { d with l:=c } else { d with r:=c }
def tN(d:Nd)(add:Int)(turn:Bool):Nd:=
 { d with value:=ei (d.value+add),least:=ei (d.least+add),most:=ei (d.most+add),add:=ei (d.add+add),l:=if turn then d.r else d.l,r:=if turn then d.l else d.r,turned:=if turn then !d.turned else d.turned }
def iY(ns:cH)(c:Option Nat)(add:Int)(turn:Bool):cH:=match c with
 |none=>ns
 |some x=>jw ns x (tN (ns x) add turn)
def fk(ns:cH)(x:Nat):cH:=
 let ns1:=iY ns (ns x).l (ns x).add (ns x).turned
 let ns2:=iY ns1 (ns x).r (ns1 x).add (ns1 x).turned
 jw ns2 x { ns2 x with add:=0,turned:=false }
def yC(a b:Int):Int:=if b<a then b else a
def Dr(a b:Int):Int:=if b>a then b else a
def iR(ns:cH)(x:Nat)(c:Option Nat):cH:=match c with
 |none=>ns
 |some c=>jw ns x { ns x with size:=ei ((ns x).size+(ns c).size),least:=yC (ns x).least (ns c).least,most:=Dr (ns x).most (ns c).most }
def ik(ns:cH)(x:Nat):cH:=iR (iR (jw ns x { ns x with size:=1,least:=(ns x).value,most:=(ns x).value }) x (ns x).l) x (ns x).r
def eQ(ns:cH)(x:Nat)(p:Nat):Nat:=if (ns p).r=some x then 1 else 0
def gy(ns:cH)(c:Option Nat)(b side:Nat):cH:=
 let ns1:=jw ns b (dF (ns b) side c)
 match c with
 |none=>ns1
 |some x=>jw ns1 x { ns1 x with up:=some b }
def rq(ns:cH)(p:Nat):Nat:=match (ns p).up with
 |none=>0
 |some g=>eQ ns p g
def HB(ns:cH)(g:Option Nat)(top x:Nat):cH:=match g with
 |none=>ns
 |some g=>jw ns g (dF (ns g) top (some x))
def ef(ns:cH)(x p:Nat):cH:=
 let at_:=eQ ns x p
 let ns1:=gy ns (lX (ns x) (1-at_)) p at_
 let ns2:=gy ns1 (some p) x (1-at_)
 let ns3:=jw ns2 x { ns2 x with up:=(ns p).up }
 let ns4:=HB ns3 (ns p).up (rq ns p) x
 ik (ik ns4 p) x
def xL(N:Nat):Option Nat->Prop
 |none=>True
 |some x=>x<N
structure eM (N:Nat) (ns:cH):Prop where
 up:∀ x,x<N->xL N (ns x).up
 l:∀ x,x<N->xL N (ns x).l
 r:∀ x,x<N->xL N (ns x).r
theorem eM.upd{N:Nat}{ns:cH}(h:eM N ns){x:Nat}{d:Nd}(b:xL N d.up)(c:xL N d.l)(e:xL N d.r):eM N (Proofs.YtmcnpaelaieniaaGreatDoor.jw ns x d):=by
 refine⟨λ y a=>?_,λ y a=>?_,λ y a=>?_⟩<;>unfold Proofs.YtmcnpaelaieniaaGreatDoor.jw<;>split<;>first|assumption|exact h.up y a|exact h.l y a|exact h.r y a
theorem eM.lay{N:Nat}{ns:cH}(h:eM N ns){c:Option Nat}(b:xL N c)(a:Int)(t:Bool):eM N (iY ns c a t):=by
 cases c with
 |none=>exact h
 |some x=>
  refine h.upd (h.up x b) ?_ ?_<;>cases t<;>first|exact h.l x b|exact h.r x b
theorem eM.push{N:Nat}{ns:cH}(h:eM N ns){x:Nat}(a:x<N):eM N (fk ns x):=by
 have c:=h.lay (h.l x a) (ns x).add (ns x).turned;have b:=c.lay (h.r x a) (iY ns (ns x).l (ns x).add (ns x).turned x).add (iY ns (ns x).l (ns x).add (ns x).turned x).turned;exact b.upd (b.up x a) (b.l x a) (b.r x a)
theorem eM.pullC{N:Nat}{ns:cH}(h:eM N ns){x:Nat}(a:x<N)(c:Option Nat):eM N (Proofs.YtmcnpaelaieniaaGreatDoor.iR ns x c):=by
 cases c with
 |none=>exact h
 |some c=>exact h.upd (h.up x a) (h.l x a) (h.r x a)
theorem eM.pull{N:Nat}{ns:cH}(h:eM N ns){x:Nat}(a:x<N):eM N (ik ns x):=
 eM.pullC (eM.pullC (h.upd (d:={ ns x with size:=1,least:=(ns x).value,most:=(ns x).value }) (h.up x a) (h.l x a) (h.r x a)) a _) a _
theorem eM.down{N:Nat}{ns:cH}(h:eM N ns){x:Nat}(a:x<N)(s:Nat):xL N (Proofs.YtmcnpaelaieniaaGreatDoor.lX (ns x) s):=by
 unfold Proofs.YtmcnpaelaieniaaGreatDoor.lX;split
 ·exact h.l x a
 ·exact h.r x a
theorem eM.setDown{N:Nat}{ns:cH}(h:eM N ns){x:Nat}(a:x<N){c:Option Nat}(b:xL N c)(s:Nat):eM N (Proofs.YtmcnpaelaieniaaGreatDoor.jw ns x (Proofs.YtmcnpaelaieniaaGreatDoor.dF (ns x) s c)):=by
 unfold Proofs.YtmcnpaelaieniaaGreatDoor.dF;split
 ·exact h.upd (h.up x a) b (h.r x a)
 ·exact h.upd (h.up x a) (h.l x a) b
theorem eM.hang{N:Nat}{ns:cH}(h:eM N ns){c:Option Nat}(d:xL N c){b:Nat}(e:b<N)(s:Nat):eM N (gy ns c b s):=by
 have a:=h.setDown e d s
 cases c with
 |none=>exact a
 |some x=>exact a.upd e (a.l x d) (a.r x d)
theorem eM.setG{N:Nat}{ns:cH}(h:eM N ns){g:Option Nat}(a:xL N g){x:Nat}(b:x<N)(t:Nat):eM N (HB ns g t x):=by
 cases g with
 |none=>exact h
 |some g=>exact h.setDown a (c:=some x) b t
theorem eM.rotate{N:Nat}{ns:cH}(h:eM N ns){x p:Nat}(a:x<N)(hp:p<N):eM N (ef ns x p):=by
 have e:=h.hang (h.down a (1-eQ ns x p)) hp (eQ ns x p);have b:=e.hang (c:=some p) hp a (1-eQ ns x p);have f:=b.upd (x:=x) (d:={ gy (gy ns (Proofs.YtmcnpaelaieniaaGreatDoor.lX (ns x) (1-eQ ns x p)) p (eQ ns x p)) (some p) x (1-eQ ns x p) x with up:=(ns p).up }) (h.up p hp) (b.l x a) (b.r x a);exact ((f.setG (h.up p hp) a (rq ns p)).pull hp).pull a
def fT(ns:cH):LN_->cH
 |[]=>ns
 |x::l=>fT (fk ns x) l
def Up(ns:cH):Nat->LN_->Prop
 |_,[]=>False
 |x,[y]=>x=y/\(ns x).up=none
 |x,y::z::l=>x=y/\(ns x).up=some z/\Up ns z (z::l)
inductive Fi:cH->Nat->cH->Nat->Prop
 |done {ns:cH} {x:Nat}:(ns x).up=none->Fi ns x ns 0
 |one {ns ns':cH} {x p k:Nat}:(ns x).up=some p->(ns p).up=none->Fi (ef ns x p) x ns' k->Fi ns x ns' (k+1)
 |line {ns ns':cH} {x p g q k:Nat}:(ns x).up=some p->(ns p).up=some g->eQ ns x p=eQ ns p g->((ef ns p g) x).up=some q->Fi (ef (ef ns p g) x q) x ns' k->Fi ns x ns' (k+2)
 |bent {ns ns':cH} {x p g q k:Nat}:(ns x).up=some p->(ns p).up=some g->eQ ns x p≠eQ ns p g->((ef ns x p) x).up=some q->Fi (ef (ef ns x p) x q) x ns' k->Fi ns x ns' (k+2)
def gt(ns:cH)(x:Nat)(ns':cH)(k:Nat):Prop:=∃ path k1,Up ns x path/\path.length<=10000/\Fi (fT ns path.reverse) x ns' k1/\k=path.length+k1
inductive L0 (side:Nat):cH->Nat->cH->Nat->Nat->Prop
 |done {ns:cH} {x:Nat}:lX (ns x) side=none->L0 side ns x ns x 0
 |go {ns ns':cH} {x c y k:Nat}:lX (ns x) side=some c->L0 side (fk ns c) c ns' y k->L0 side ns x ns' y (k+1)
def LR(side:Nat)(ns:cH)(x:Nat)(ns':cH)(y k:Nat):Prop:=∃ ns1 k1 k2,L0 side ns x ns1 y k1/\gt ns1 y ns' k2/\k=k1+k2
def Edge(side:Nat)(ns:cH)(x:Nat)(ns':cH)(y k:Nat):Prop:=∃ ns1 k1 k2,gt ns x ns1 k1/\LR side ns1 x ns' y k2/\k=k1+k2
def ahead(ns:cH)(x:Nat):Int:=match (ns x).l with
 |none=>0
 |some c=>(ns c).size
inductive Fp:cH->Nat->Int->cH->Nat->Nat->Prop
 |left {ns ns':cH} {x c y k:Nat} {p:Int}:p<ahead ns x->(ns x).l=some c->Fp (fk ns c) c p ns' y k->Fp ns x p ns' y (k+1)
 |here {ns ns':cH} {x k:Nat} {p:Int}:p=ahead ns x->gt ns x ns' k->Fp ns x p ns' x k
 |right {ns ns':cH} {x c y k:Nat} {p:Int}:ahead ns x<p->(ns x).r=some c->Fp (fk ns c) c (ei (ei (p-ahead ns x)-1)) ns' y k->Fp ns x p ns' y (k+1)
inductive G8 (want:Int):cH->Nat->cH->Nat->Nat->Prop
 |left {ns ns':cH} {x c y k:Nat}:(ns x).l=some c->(ns c).least=want->G8 want (fk ns c) c ns' y k->G8 want ns x ns' y (k+1)
 |here {ns ns':cH} {x k:Nat}:(∀ c,(ns x).l=some c->(ns c).least≠want)->(ns x).value=want->gt ns x ns' k->G8 want ns x ns' x k
 |right {ns ns':cH} {x c y k:Nat}:(∀ c,(ns x).l=some c->(ns c).least≠want)->(ns x).value≠want->(ns x).r=some c->G8 want (fk ns c) c ns' y k->G8 want ns x ns' y (k+1)
theorem eM.rot{N:Nat}{ns d:cH}{x k:Nat}(h:Fi ns x d k)(a:x<N):eM N ns->eM N d:=by
 induction h with
 |done _=>exact id
 |one e _ _ f=>exact λ c=>f a (c.rotate a (by have:=c.up _ a;rw[e] at this;exact this))
 |line e j _ i _ f=>
  intro c;have hp:=c.up _ a;rw[e] at hp;have l:=c.up _ hp;rw[j] at l;have b:=c.rotate hp l;have g:=b.up _ a;rw[i] at g;exact f a (b.rotate a g)
 |bent e j _ i _ f=>
  intro c;have hp:=c.up _ a;rw[e] at hp;have b:=c.rotate a hp;have g:=b.up _ a;rw[i] at g;exact f a (b.rotate a g)
theorem Up.lt{N:Nat}{ns:cH}(d:eM N ns):∀ {path:LN_} {x:Nat},Up ns x path->x<N->∀ y∈path,y<N
 |[],_,h,_,_,_=>h.elim
 |[z],x,⟨c,_⟩,b,y,a=>by rw[Ni.1 a,<- c];exact b
 |z::e::l,x,⟨c,f,g⟩,b,y,a=>by
  rcases Nn.1 a with rfl|a
  ·rw[<- c];exact b
  ·have:xL N (some e):=f▸d.up x b;exact Up.lt d g this y a
theorem eM.pushes{N:Nat}{ns:cH}(h:eM N ns):∀ {l:LN_},(∀ y∈l,y<N)->eM N (Proofs.YtmcnpaelaieniaaGreatDoor.fT ns l)
 |[],_=>h
 |y::l,hl=>eM.pushes (h.push (hl y ai)) (l:=l) λ z a=>hl z (by simp[a])
theorem eM.splay{N:Nat}{ns a:cH}{x k:Nat}(b:eM N ns)(c:x<N)(h:gt ns x a k):eM N a:=by
 obtain⟨path,k1,d,_,e,_⟩:=h;exact eM.rot e c (b.pushes λ y f=>d.lt b c y (by simpa using f))
theorem eM.dwn{N side:Nat}{ns a:cH}{x y k:Nat}(h:L0 side ns x a y k):x<N->eM N ns->eM N a/\y<N:=by
 induction h with
 |done _=>exact λ c b=>⟨b,c⟩
 |go e _ f=>
  intro c b;have d:=b.down c side;rw[e] at d;exact f d (b.push d)
theorem eM.end_{N side:Nat}{ns a:cH}{x y k:Nat}(c:eM N ns)(d:x<N)(h:LR side ns x a y k):eM N a/\y<N:=by
 obtain⟨e,k1,j,f,g,_⟩:=h;obtain⟨i,b⟩:=eM.dwn f d c;exact⟨i.splay b g,b⟩
theorem eM.edge{N side:Nat}{ns a:cH}{x y k:Nat}(c:eM N ns)(b:x<N)(h:Edge side ns x a y k):eM N a/\y<N:=by
 obtain⟨d,k1,g,e,f,_⟩:=h;exact (c.splay b e).end_ b f
def Mg:UK->Bool
 |.struct _=>false
 |.arr _ _=>false
 |_=>true
def bT(pf gn cap N k:Nat)(ns:cH):Heap:=
 [blk pf 331 [.slice (some ⟨gn,0,none⟩) N cap,.int .i64 (ei k)],.own (.slice (some ⟨gn,0,none⟩) N cap) 334 9 N (iF N ns)]
theorem tF(a b:Int):ei (ei a+b)=ei (a+b):=by unfold ei;simp only[IntKind.wrap_i64];omega
theorem mz{o:Oper}{t b off n e sz c m:Nat}{x ix:Operand}{k:IntKind}{z:Option Value}{uk:UK}{f:Nat}{i:Option Value}(l:o.op=.indexAddr t x ix)(p:val E x=some (.pointer (some ⟨b,off,none⟩)))
 (hi:val E ix=some (.int k (m:Int))) (q:tab t=some ⟨.arr n e,sz,c,z⟩) (he:tab e=some ⟨uk,1,f,i⟩) (hm:m<n):i8 X o E H (.pointer (some ⟨b,off+m,none⟩)):=by
 intro a w h s
 have hu:Tryz.prog.underlying t=some (.array n e):=by
  obtain⟨d,j,r,_,hu,_⟩:=eU q;rw[r];cases d<;>simp[qd] at hu ⊢;exact hu
 have g:=dW he w;simp[execOp,l,h.val p,h.val hi,Instr.indexAt,asIntOf,run_underlying hu,Instr.sureAddr,g,Addr.add_at,hm]
theorem bi{o:Oper}{t b off n e sz by_ m:Nat}{x ix:Operand}{k:IntKind}{z:Option Value}{uk:UK}{by':Nat}{z':Option Value}(h:(o.op,val E x,val E ix,tab t,tab e)=(.indexAddr t x ix,some (.pointer (some ⟨b,off,none⟩)),some (.int k (m:Int)),some ⟨.arr n e,sz,by_,z⟩,some ⟨uk,1,by',z'⟩))(hm:m<n):i8 X o E H (.pointer (some ⟨b,off+m,none⟩)):=by
 simp only[N3] at h;exact mz h.1 h.2.1 h.2.2.1 h.2.2.2.1 h.2.2.2.2 hm
theorem FZ{o:Oper}{t n e sz b m:Nat}{x ix:Operand}{k:IntKind}{z:Option Value}{uk:UK}{c:Nat}{i:Option Value}{cs:LV_}{v:Value}(l:o.op=.index t x ix)(p:val E x=some (.agg cs.toArray))
 (hi:val E ix=some (.int k (m:Int))) (q:tab t=some ⟨.arr n e,sz,b,z⟩) (he:tab e=some ⟨uk,1,c,i⟩) (g:Mg uk=true) (hm:m<n) (r:cs[m]?=some v):i8 X o E H v:=by
 intro a w h y
 have hu:Tryz.prog.underlying t=some (.array n e):=by
  obtain⟨d,j,s,_,hu,_⟩:=eU q;rw[s];cases d<;>simp[qd] at hu ⊢;exact hu
 have f:=dW he w;have u:=tL (uL he (λ fs (e:uk=_)=>by subst e;cases g) (λ n A (e:uk=_)=>by subst e;cases g)) w;simp[execOp,l,h.val p,h.val hi,Instr.index,asIntOf,run_underlying hu,f,hm,part,u,r]
theorem dJ{o:Oper}{t g x f N cap:Nat}{d:Operand}{ns:cH}{v:Value}(k:Nat)(e:o.op=.load t d)(h:val E d=some (.pointer (some ⟨g,x*9+f,none⟩)))
 (i:H[k]?=some (.own (.slice (some ⟨g,0,none⟩) N cap) 334 9 N (iF N ns))) {uk:UK} {a:Nat} {j:Option Value} (l:tab t=some ⟨uk,1,a,j⟩) (m:Mg uk=true)
 (b:x<N) (n:Nat.blt f 9=true) (p:(fM (ns x))[f]?=some v):i8 X o E H v:=by
 have c:f<9:=by simpa using n
 refine aw k e h i ?_;unfold fQ;rw[l]
 cases uk<;>first|exact (kC b c).trans p|cases m
theorem zB{o:Oper}{g x N cap:Nat}{d:Operand}{ns:cH}{t e b:Nat}{z:Option Value}(k:Nat)(h:o.op=.load t d)(i:val E d=some (.pointer (some ⟨g,x*9+1,none⟩)))
 (j:H[k]?=some (.own (.slice (some ⟨g,0,none⟩) N cap) 334 9 N (iF N ns))) (m:tab t=some ⟨.arr 2 e,2,b,z⟩) (a:x<N):i8 X o E H (.agg [Value.int .i64 (enc (ns x).l),.int .i64 (enc (ns x).r)].toArray):=by
 refine aw k h i j ?_;unfold fQ;rw[m];have n:=kC (f:=1) (ns:=ns) a ab;have p:=kC (f:=2) (ns:=ns) a ab;have c:(iF N ns)[x*9+1+1]?=(fM (ns x))[2]?:=p;show (match eI (iF N ns) (x*9+1) 2 with|some l=>some (Value.agg l.toArray)|none=>none)=_;unfold eI;rw[n];unfold eI;rw[c];rfl
theorem eB{o:Oper}{t g x s N cap:Nat}{c:Operand}{ns:cH}(k:Nat)(d:o.op=.load t c)(e:val E c=some (.pointer (some ⟨g,x*9+1+s,none⟩)))
 (h:H[k]?=some (.own (.slice (some ⟨g,0,none⟩) N cap) 334 9 N (iF N ns))) {i:IntKind} {a:Nat} {j:Option Value} (l:tab t=some ⟨.int i,1,a,j⟩)
 (b:x<N) (n:s<2):i8 X o E H (.int .i64 (enc (lX (ns x) s))):=by
 refine aw k d e h ?_;unfold fQ;rw[l];have m:=kC (f:=1+s) (ns:=ns) b aa;show (iF N ns)[x*9+1+s]?=_;rw[N7,m];obtain rfl|rfl:s=0\/s=1:=aa
 ·rfl
 ·rfl
theorem dO{ops l:List Oper}{o:Oper}{t g x f N cap:Nat}{e i:Operand}{ns:cH}{v:Value}(k:Nat)(d:Nd)(j:o.op=.store t e i)(m:val E e=some (.pointer (some ⟨g,x*9+f,none⟩)))(p:val E i=some v)
 (q:H[k]?=some (.own (.slice (some ⟨g,0,none⟩) N cap) 334 9 N (iF N ns))) {uk:UK} {a:Nat} {r:Option Value} (s:tab t=some ⟨uk,1,a,r⟩) (u:v.cells.toList=[v]) (w:v.oneCell'=true)
 (b:x<N) (y:Nat.blt f 9=true) (z:(fM (ns x)).set f v=fM d) (gs:LN_) (A:jD X.n ops gs E o undef=some E')
 (h:JL X ops l Q E' (H.set k (.own (.slice (some ⟨g,0,none⟩) N cap) 334 9 N (iF N (jw ns x d))))):JL X ops (o::l) Q E H:=by
 have c:f<9:=by simpa using y
 refine aW k j m p q (fz s u w (by rw[gJ];omega)) gs A ?_;rw[Hz b c z];exact h
theorem tZ{ops l:List Oper}{o:Oper}{t g x s N cap:Nat}{e i:Operand}{ns:cH}{c:Option Nat}(k:Nat)(j:o.op=.store t e i)(b:val E e=some (.pointer (some ⟨g,x*9+1+s,none⟩)))(m:val E i=some (.int .i64 (enc c)))
 (p:H[k]?=some (.own (.slice (some ⟨g,0,none⟩) N cap) 334 9 N (iF N ns))) {uk:UK} {d:Nat} {v:Option Value} (q:tab t=some ⟨uk,1,d,v⟩)
 (a:x<N) (w:s<2) (gs:LN_) (u:jD X.n ops gs E o undef=some E')
 (h:JL X ops l Q E' (H.set k (.own (.slice (some ⟨g,0,none⟩) N cap) 334 9 N (iF N (jw ns x (dF (ns x) s c)))))):JL X ops (o::l) Q E H:=by
 rw[N7] at b;obtain rfl|rfl:s=0\/s=1:=aa
 ·exact dO (f:=1) k { ns x with l:=c } j b m p q rfl rfl a rfl rfl gs u h
 ·exact dO (f:=2) k { ns x with r:=c } j b m p q rfl rfl a rfl rfl gs u h
theorem JZ(ns:cH)(x:Nat)(d e:Nd):jw (jw ns x d) x e=jw ns x e:=by funext y;unfold jw;split<;>rfl
theorem dX{ops l:List Oper}{o:Oper}{t g x f N cap:Nat}{c e:Operand}{ns:cH}{d0:Nd}{v:Value}(k:Nat)(d:Nd)(i:o.op=.store t c e)(j:val E c=some (.pointer (some ⟨g,x*9+f,none⟩)))(m:val E e=some v)
 (p:H[k]?=some (.own (.slice (some ⟨g,0,none⟩) N cap) 334 9 N (iF N (jw ns x d0)))) {uk:UK} {a:Nat} {q:Option Value} (r:tab t=some ⟨uk,1,a,q⟩) (s:v.cells.toList=[v]) (u:v.oneCell'=true)
 (b:x<N) (w:Nat.blt f 9=true) (y:(fM d0).set f v=fM d) (gs:LN_) (z:jD X.n ops gs E o undef=some E')
 (h:JL X ops l Q E' (H.set k (.own (.slice (some ⟨g,0,none⟩) N cap) 334 9 N (iF N (jw ns x d))))):JL X ops (o::l) Q E H:=by
 refine dO k d i j m p r s u b w (by rw[eo];exact y) gs z ?_;rw[JZ];exact h
theorem gT{c:Option Nat}{x:Nat}(h:c=some x):enc c=(x:Int):=by rw[h];rfl
theorem HN{c:Option Nat}{x:Nat}:enc c=(x:Int)↔c=some x:=by
 cases c with
 |none=>simp[enc]
 |some y=>simp[enc];omega
section
variable {P:Program} {ops:Array Oper} {md:Region.Mode} {S:Array Bool->World->Prop} {F:Exit->Act->World->Prop}
def r7(P:Program)(md:Region.Mode)(ops:Array Oper)(S:Array Bool->World->Prop)(n:Nat)(L:Array Bool->Act->World->Prop):Nat->Array Bool->Act->World->Prop
 |0,listed,a,w=>L listed a w
 |f+1,listed,a,w=>Region.ready md ops listed≠[]/\∀ i∈Region.ready md ops listed,i<n/\wpOp P ops pQ i (λ a' w'=>S (listed.setIfInBounds i true) w'/\r7 P md ops S n L f (listed.setIfInBounds i true) a' w') a w
theorem nE{n g:Nat}{L:Array Bool->Act->World->Prop}{Q':Exit->Act->World->Prop}(c:∀ b a w,L b a w->wpAny P md ops Q' g b a w):
 ∀ (f:Nat) (b:Array Bool) (a:Act) (w:World),r7 P md ops S n L f b a w->wpAny P md ops Q' (f+g) b a w
 |0,b,a,w,h=>by rw[NR];exact c _ _ _ h
 |f+1,b,a,w,h=>by
  rw[show f+1+g=(f+g)+1 by omega];exact⟨λ d=>absurd d h.1,λ i hi=>mP (λ _ _ _ _ h=>h) (wpOp_mono (λ e w' j=>nE c f _ e w' j.2) (h.2 i hi).2)⟩
theorem rk{n i:Nat}{B:Oper}{v:Value}{L:Array Bool->Act->World->Prop}{C:World->Prop}(hi:ops[i]?=some B)(s:∀ (j:Nat) (o:Oper) cs b,ops[j]?=some o->o.op≠.select cs b)
 (hC:∀ c w,HeadInv md ops n c->c.getD i true=false->S c w->C w) (hS:∀ c w,HeadInv md ops n c->S c w->S (c.setIfInBounds i true) w)
 (ht:rG md ops n=true) (D:i<n) (x:∀ c a w,L c a w->∀ j∈Region.ready md ops c,n<=j):
 ∀ (f:Nat) (c:Array Bool) (a:Act) (w:World),HeadInv md ops n c->
   (∀ j y,ops[j]?=some y->j≠i->c.getD j true=false->(∀ e∈y.after,Region.binds md e=true->e.on≠i)->B.apart ops y=true)->
   i∈Region.ready md ops c->YS P ops C B v a->S c w->(∀ c w,S (c.setIfInBounds i true) w->c.getD i true=false->S c w)->
   r7 P md ops S n L f (c.setIfInBounds i true) (a.put B.dst v) w->r7 P md ops S n L (f+1) c a w:=by
 intro f
 induction f with
 |zero=>
  intro c a w inv _ t O m l H;have d:=(mem_ready.1 t).1;refine⟨λ h=>(by rw[h] at t;cases t),λ j z=>?_⟩;have q:=kV ht inv D d j z;refine⟨q,?_⟩;by_cases g:j=i
  ·subst g;exact O.wpOp hi (hC _ _ inv d m) ⟨hS _ _ inv m,H⟩
  ·have:=x _ _ _ H j (ready_mono z g);omega
 |succ f ih=>
  intro c a w inv p t O m l H;have d:=(mem_ready.1 t).1;refine⟨λ h=>(by rw[h] at t;cases t),λ j z=>?_⟩;have q:=kV ht inv D d j z;refine⟨q,?_⟩;by_cases g:j=i
  ·subst g;exact O.wpOp hi (hC _ _ inv d m) ⟨hS _ _ inv m,H⟩
  ·have R:=(H.2 j (ready_mono z g)).2;obtain⟨u,y,A,G⟩:=mem_ready.1 z
   have I:∀ e∈y.after,Region.binds md e=true->e.on≠i:=λ e he hb heq=>by
    have R:=G e he hb;rw[heq,getD_both d] at R
    cases R
   have h2:=zN A (p j y A g u I) (λ cs b=>s i B cs b hi) (λ cs b=>s j y cs b A) O R
   have r:∀ k ok,ops[k]?=some ok->k≠i->(c.setIfInBounds j true).getD k true=false->
    (∀ e∈ok.after,Region.binds md e=true->e.on≠i)->B.apart ops ok=true:=λ k ok hk U d V=>by
    refine p k ok hk U ?_ V;by_cases M:j=k
    ·subst M;exact u
    ·rw[getD_set_ne true M] at d;exact d
   have Y:(c.setIfInBounds j true).getD i true=false:=by rw[getD_set_ne true g];exact d
   refine wpOp_mono (λ a' w' Z=>?_) h2;have N:S (c.setIfInBounds j true) w':=l _ _ (by rw[Array.setIfInBounds_comm _ _ g];exact Z.2.1) Y;refine⟨N,ih (c.setIfInBounds j true) a' w' (inv.set z q) r (ready_mono t (Ne.symm g)) Z.1 N l ?_⟩;rw[Array.setIfInBounds_comm _ _ g];exact Z.2.2
def L2(P:Program)(ops:Array Oper)(S1 S2:World->Prop)(cov:Nat->Bool)(Q:Act->World->Prop):LN_->Nat->List (Nat×Bool)->Act->World->Prop
 |[],k0,rest,a,w=>wpOp P ops pQ k0 (λ a' w'=>S2 w'/\xR P ops S2 Q rest a' w') a w
 |k::l,k0,rest,a,w=>∃ o v,ops[k]?=some o/\YS P ops (if cov k=true then S1 else S2) o v a/\L2 P ops S1 S2 cov Q l k0 rest (a.put o.dst v) w
def mp(md:Region.Mode)(ops:Array Oper)(k0 i:Nat):Bool:=match ops[k0]? with
 |some o=>o.after.toList.any λ e=>Region.binds md e&&Nat.beq e.on i
 |none=>false
def DU(S1 S2:World->Prop)(k0:Nat)(listed:Array Bool)(w:World):Prop:=if listed.getD k0 false=true then S2 w else S1 w
def G9(l:LN_)(k0:Nat):Bool:=l.all λ k=>!(Nat.beq k k0)
theorem oi{n g:Nat}{S1 S2:World->Prop}(q:∀ w,S1 w->S2 w){r:Nat}{I:Act->World->Prop}(f:Region.noSelect ops=true)(A:rG md ops n=true):∀ (l:List (Nat×Bool)) (b:Array Bool) (a:Act) (w:World),HeadInv md ops n b->b.getD r false=true->S2 w->
 ot md ops n g l b=true->xR P ops S2 I l a w->r7 P md ops (DU S1 S2 r) n (λ c B w'=>Region.seqB md ops g n c=true/\I B w') l.length b a w
 |[],b,a,w,_,_,_,s,h=>⟨s,h⟩
 |(k,true)::l,b,a,w,inv,d,D,s,h=>by
  simp only[ot,N6,NX] at s;obtain⟨⟨j,y,M⟩,t⟩:=s;obtain⟨o,v,L,N,O⟩:=h;have e:k∈Region.ready md ops b:=by simpa using y
  have u:=(mem_ready.1 e).1;have x:k≠r:=by rintro rfl;rw[getD_both u] at d;cases d
  have m:∀ (li:Array Bool),(li.setIfInBounds k true).getD r false=li.getD r false:=λ li=>getD_set_ne false x
  refine rk (C:=S2) L (Region.noSelect_spec f) (λ li w _ _ p=>?_) (λ li w _ p=>?_) A j (λ c B w' R=>seqB_ready R.1) l.length b a w inv (Region.free_spec L M) e N ?_ (λ li w p _=>?_)
   (oi q f A l _ _ w (inv.set e j) (by rw[m];exact d) D t O)
  ·unfold DU at p;split at p
   ·exact p
   ·exact q _ p
  ·unfold DU at*;rw[m];exact p
  ·unfold DU;rw[if_pos d];exact D
  ·unfold DU at*;rw[m] at p;exact p
 |(k,false)::l,b,a,w,inv,d,D,s,h=>by
  simp only[ot,N6,NX] at s;obtain⟨⟨j,y⟩,t⟩:=s;refine⟨by rw[y];simp,λ i hi=>?_⟩;have e:k∈Region.ready md ops b:=by rw[y];simp
  have u:=(mem_ready.1 e).1;have x:k≠r:=by rintro rfl;rw[getD_both u] at d;cases d
  rw[y] at hi;obtain rfl:i=k:=by simpa using hi
  have z:(b.setIfInBounds i true).getD r false=true:=by rw[getD_set_ne false x];exact d
  exact⟨j,wpOp_mono (λ B w' G=>⟨by unfold DU;rw[if_pos z];exact G.1,oi q f A l _ _ _ (inv.set e j) z G.1 t G.2⟩) h⟩
theorem xZ{b i:Nat}(h:mp md ops b i=true){n:Nat}{a:Array Bool}(inv:HeadInv md ops n a)(c:a.getD i true=false):a.getD b false=false:=by
 unfold mp at h;split at h
 ·rename_i o f;obtain⟨e,he,d⟩:=List.any_eq_true.1 h;simp only[N6] at d;have g:=Om d.2
  cases j:a.getD b false with
  |false=>rfl
  |true=>
   have:=inv.closed b o f j e (by simpa using he) d.1;rw[g,getD_both c] at this
   cases this
 ·cases h
theorem s7{n g:Nat}{S1 S2:World->Prop}(s:∀ w,S1 w->S2 w){d:Nat}{N:Act->World->Prop}(j:Region.noSelect ops=true)(D:rG md ops n=true){rest:List (Nat×Bool)}:∀ (l:LN_) (b:Array Bool) (a:Act) (w:World),HeadInv md ops n b->G9 l d=true->b.getD d false=false->S1 w->
 ot md ops n g (l.map (λ k=>(k,true))++(d,false)::rest) b=true->L2 P ops S1 S2 (mp md ops d) N l d rest a w->
  r7 P md ops (DU S1 S2 d) n (λ c G w'=>Region.seqB md ops g n c=true/\N G w') (l.length+1+rest.length) b a w
 |[],b,a,w,inv,_,t,I,x,h=>by
  simp only[Og,Oq,ot,N6,NX] at x;obtain⟨⟨m,y⟩,u⟩:=x;rw[show ([]:LN_).length+1+rest.length=rest.length+1 by simp;omega];refine⟨by rw[y];simp,λ i hi=>?_⟩;have p:d∈Region.ready md ops b:=by rw[y];simp
  rw[y] at hi;obtain rfl:i=d:=by simpa using hi
  have z:(b.setIfInBounds i true).getD i false=true:=by
   obtain⟨_,o,R,_⟩:=mem_ready.1 p;have:=(OL.1 R).1;rw[<- inv.size] at this;simp[this]
  exact⟨m,wpOp_mono (λ G w' L=>⟨by unfold DU;rw[if_pos z];exact L.1,oi s j D rest _ _ _ (inv.set p m) z L.1 u L.2⟩) h⟩
 |k::l,b,a,w,inv,r,t,I,x,h=>by
  simp only[Nv,Od,ot,N6,NX] at x;obtain⟨⟨m,y,U⟩,u⟩:=x;obtain⟨o,v,O,V,Y⟩:=h;simp only[G9,Pi,N6,Bool.not_eq_true'] at r;have M:k≠d:=λ e=>by rw[e,Nat.beq_refl] at r;cases r.1
  have p:k∈Region.ready md ops b:=by simpa using y
  have q:∀ (li:Array Bool),(li.setIfInBounds k true).getD d false=li.getD d false:=λ li=>getD_set_ne false M;rw[show (k::l).length+1+rest.length=(l.length+1+rest.length)+1 by simp;omega]
  refine rk (C:=if mp md ops d k=true then S1 else S2) O (Region.noSelect_spec j) (λ li w A B f=>?_) (λ li w _ f=>?_) D m (λ c G w' Z=>seqB_ready Z.1) _ b a w inv (Region.free_spec O U) p V ?_ (λ li w f _=>?_)
   (s7 s j D l _ _ w (inv.set p m) (by simpa [G9] using r.2) (by rw[q];exact t) I u Y)
  ·split
   ·rename_i hc;have:=xZ hc A B;unfold DU at f;rw[this] at f;simpa using f
   ·unfold DU at f;split at f
    ·exact f
    ·exact s _ f
  ·unfold DU at*;rw[q];exact f
  ·unfold DU;rw[t];simpa using I
  ·unfold DU at*;rw[q] at f;exact f
theorem zJ{id:Nat}{Q:Exit->Act->World->Prop}{S1 S2:World->Prop}(i:∀ w,S1 w->S2 w){a:Act}{w:World}{ol:List Oper}(n:Nat)(l:LN_)(f:Nat)(rest:List (Nat×Bool))(hm:P.follows .mixedOrders=true)
 (s:(ut ol.toArray n (l.map (λ k=>(k,true))++(f,false)::rest)&&G9 l f)=true) (v:S1 { w with drawn:=w.drawn+1 })
 (h:L2 P ol.toArray S1 S2 (mp .any ol.toArray f) (λ m w'=>wpList P ol.toArray Q (ol.drop n) m w') l f rest a { w with drawn:=w.drawn+1 }):(Code.region id ol.toArray true).wp P Q a w:=by
 simp only[ut,N6,NX] at s;obtain⟨⟨⟨⟨⟨c,o⟩,hlen⟩,x⟩,p⟩,q⟩:=s
 have d:HeadInv .any ol.toArray n (Array.replicate ol.toArray.size false):=
  ⟨ai,λ j y _ hl=>(by rw[getD_replicate_false] at hl;cases hl),λ t _ o=>getD_in (by simpa using o) (getD_replicate_false _ _)⟩
 have e:(ol.drop n).length=ol.toArray.size-n:=ai;have H:=s7 (md:=.any) (g:=ol.toArray.size-n) i c o l _ a _ d q (getD_replicate_false _ _) v p h;refine wp_region_any hm ?_
 have:=nE (Q':=Q) (g:=ol.toArray.size-n) (λ b m w' u=>by
  have:=wpAny_of_seq (md:=.any) (Q':=Q) (ol.drop n) n b m w' (λ j=>by simp[Ol]) (by rw[e];exact u.1) u.2
  rwa [e] at this) _ _ _ _ H
 have r:l.length+1+rest.length=n:=by rw[<- hlen];simp;omega
 rw[r,show n+(ol.toArray.size-n)=ol.toArray.size by omega] at this;exact this
end
section
variable {X:Cx} {Q:fb} {E E':Env} {H Sf:Heap} {K:Env->Heap->Prop}
def JE(X:Cx)(ops:List Oper)(l:LN_)(k0:Nat)(rest:List (Nat×Bool))(Sf:Heap)(K:Env->Heap->Prop)(E:Env)(H:Heap):Prop:=
 ∀ a w,gz X.n a E->dN X.w0 X.M w H->L2 Tryz.prog ops.toArray (λ w=>dN X.w0 X.M w Sf) (λ w=>dN X.w0 X.M w []) (mp .any ops.toArray k0) (λ a' w'=>∃ E' H',gz X.n a' E'/\dN X.w0 X.M w' H'/\K E' H') l k0 rest a w
theorem tV{P:Program}{ops:Array Oper}{S:World->Prop}{Q1 c:Act->World->Prop}(b:∀ a w,Q1 a w->c a w):∀ l a w,xR P ops S Q1 l a w->xR P ops S c l a w
 |[],a,w,h=>b a w h
 |(k,true)::l,a,w,⟨o,v,e,f,g⟩=>⟨o,v,e,f,tV b l _ _ g⟩
 |(k,false)::l,a,w,h=>wpOp_mono (λ i w' d=>⟨d.1,tV b l _ _ d.2⟩) h
theorem yD{P:Program}{ops:Array Oper}{S1 S2:World->Prop}{b:Nat->Bool}{Q1 c:Act->World->Prop}(d:∀ a w,Q1 a w->c a w){e:Nat}{rest:List (Nat×Bool)}:∀ l a w,L2 P ops S1 S2 b Q1 l e rest a w->L2 P ops S1 S2 b c l e rest a w
 |[],a,w,h=>wpOp_mono (λ m w' f=>⟨f.1,tV d rest _ _ f.2⟩) h
 |k::l,a,w,⟨o,v,g,i,j⟩=>⟨o,v,g,i,yD d l _ _ j⟩
theorem fZ{id:Nat}{ol:List Oper}(n:Nat)(l:LN_)(b:Nat)(rest:List (Nat×Bool))(g:(ut ol.toArray n (l.map (λ k=>(k,true))++(b,false)::rest)&&G9 l b)=true)
 (h:JE X ol l b rest H (λ E' H'=>JL X ol (ol.drop n) Q E' H') E H):J X (.region id ol.toArray true) Q E H:=by
 intro a w i f;refine zJ (S1:=λ w=>dN X.w0 X.M w H) (S2:=λ w=>dN X.w0 X.M w []) (λ w h=>h.mono (λ c j=>by cases j) List.Pairwise.nil) n l b rest C7 g f.drew<|yD ?_ _ _ _ (h a _ i f.drew);rintro a w ⟨E',H',d,e,m⟩;exact m a w d e
theorem cV{ops:List Oper}{l:LN_}{c k:Nat}{rest:List (Nat×Bool)}{o:Oper}{v:Value}(gs:LN_)(e:ops[k]?=some o)(f:mp .any ops.toArray c k=true)(g:i8 X o E Sf v)(i:jD X.n ops gs E o v=some E')(h:JE X ops l c rest Sf K E' H):JE X ops (k::l) c rest Sf K E H:=by
 intro a w d j;obtain⟨m,hp⟩:=d7 i;refine⟨o,v,by simpa using e,.inl ⟨fB d m,λ w' b=>g a w' d ?_⟩,h _ w (d.putE hp) j⟩;rw[if_pos f] at b;exact b
theorem js{ops:List Oper}{l:LN_}{d k:Nat}{rest:List (Nat×Bool)}{o:Oper}{gs:LN_}(e:ops[k]?=some o)(he:IL X.n ops gs E o=some E')(h:JE X ops l d rest Sf K E' H):JE X ops (k::l) d rest Sf K E H:=by
 unfold IL at he;intro a w b f;split at he
 ·rename_i c;split at he
  ·rename_i v g;have:=b.putE he;exact⟨o,v,by simpa using e,.inl ⟨fB b c,λ w' _=>mc (X:=⟨w',[],X.n⟩) (H:=[]) g a w' b ⟨rfl,rfl,rfl,Nr _,λ _ _ _=>rfl,λ _ h=>(by cases h),λ _ h=>(by cases h),List.Pairwise.nil⟩⟩,h _ w this f⟩
  ·cases he
 ·rename_i c;exact⟨o,undef,by simpa using e,.inr ⟨fB b c,rfl⟩,h _ w (b.putE he) f⟩
 ·cases he
theorem gS{ops:List Oper}{l:LN_}{e k:Nat}{rest:List (Nat×Bool)}{o:Oper}{v:Value}(gs:LN_)(f:ops[k]?=some o)(g:i8 X o E [] v)(i:jD X.n ops gs E o v=some E')(h:JE X ops l e rest Sf K E' H):JE X ops (k::l) e rest Sf K E H:=by
 intro a w d j;obtain⟨m,hp⟩:=d7 i;refine⟨o,v,by simpa using f,.inl ⟨fB d m,λ w' b=>g a w' d ?_⟩,h _ w (d.putE hp) j⟩;split at b
 ·exact b.mono (λ c p=>by cases p) List.Pairwise.nil
 ·exact b
theorem il{ops:List Oper}{b:Nat}{rest:List (Nat×Bool)}{o:Oper}(c:ops[b]?=some o)(h:JL X ops [o] (Is X ops rest [] K) E H):JE X ops [] b rest Sf K E H:=by
 intro a w d e;exact xG c h a w d e
end
variable {pf gn cap N:Nat}
theorem tv(k:Nat)(ns:cH)(c:Option Nat)(d:xL N c)(a:Int)(t:Bool):Fn 281 [.pointer (some ⟨pf,0,none⟩),.int .i64 (enc c),.int .i64 a,.bool t] (aC (bT pf gn cap N k ns)) ([]++bT pf gn cap N k ns)
 λ _ H'=>H'=bT pf gn cap N k (iY ns c a t):=by
 generalize hM:aC _=M
 refine aT Tryz.func281 λ w0=>?_;refine ao ?_
 cases c with
 |none=>
  refine nd 10 rfl rfl<|dr ?_;exact bN ⟨_,rfl,rfl⟩
 |some x=>
  have b:x<N:=d;refine lQ 10 rfl (by show ¬ ((x:Int)=-1);omega)<|bo rfl (ag ?_);refine iM ?_;refine cq ?_;refine fZ 40 [0,1,2,3,4,5,6,7,8,9,10,11,12,13,14,15,16,17,18,19,20,21,22,23,24,25,26,27,28,29] 30 (dT [31,32]++[(33,false)]++dT [34,35]++[(36,false)]++dT [37,38]++[(39,false)]) aX<|zt ?_
  (first|refine dX 1 { ns x with value:=ei ((ns x).value+a) } rfl rfl rfl rfl rfl rfl rfl bH rfl rfl [] rfl ?_|refine dO 1 { ns x with value:=ei ((ns x).value+a) } rfl rfl rfl rfl rfl rfl rfl bH rfl rfl [] rfl ?_)
  refine oh ?_
  (first|refine dX 1 { ns x with value:=ei ((ns x).value+a),least:=ei ((ns x).least+a) } rfl rfl rfl rfl rfl rfl rfl bH rfl rfl [] rfl ?_|refine dO 1 { ns x with value:=ei ((ns x).value+a),least:=ei ((ns x).least+a) } rfl rfl rfl rfl rfl rfl rfl bH rfl rfl [] rfl ?_)
  refine oh ?_
  (first|refine dX 1 { ns x with value:=ei ((ns x).value+a),least:=ei ((ns x).least+a),most:=ei ((ns x).most+a) } rfl rfl rfl rfl rfl rfl rfl bH rfl rfl [] rfl ?_|refine dO 1 { ns x with value:=ei ((ns x).value+a),least:=ei ((ns x).least+a),most:=ei ((ns x).most+a) } rfl rfl rfl rfl rfl rfl rfl bH rfl rfl [] rfl ?_)
  refine oh ?_
  (first|refine dX 1 { ns x with value:=ei ((ns x).value+a),least:=ei ((ns x).least+a),most:=ei ((ns x).most+a),add:=ei ((ns x).add+a) } rfl rfl rfl rfl rfl rfl rfl bH rfl rfl [] rfl ?_|refine dO 1 { ns x with value:=ei ((ns x).value+a),least:=ei ((ns x).least+a),most:=ei ((ns x).most+a),add:=ei ((ns x).add+a) } rfl rfl rfl rfl rfl rfl rfl bH rfl rfl [] rfl ?_)
  refine b6 []<|gA ?_;show J _ _ _ _ (bT pf gn cap N k (jw ns x { ns x with value:=ei ((ns x).value+a),least:=ei ((ns x).least+a),most:=ei ((ns x).most+a),add:=ei ((ns x).add+a) }));refine ao ?_
  cases t with
  |false=>
   refine bo rfl (ag ⟨_,rfl,?_⟩);rfl
  |true=>
   refine dr ?_;refine fZ 29 [0,1,2,3,4,5,6,7,8,9,10,11,12,13,14,15,16,17,18,19,20,22,23] 21 (dT [24]++[(25,false)]++dT [26,27]++[(28,false)]) aX ?_
   (repeat' (first|refine js (gs:=[999]) rfl rfl ?_|refine gS [999] rfl (bi (m:=0) rfl ab) rfl ?_|refine gS [999] rfl (bi (m:=1) rfl ab) rfl ?_|refine cV [999] rfl rfl (dJ (v:=af (enc (ns x).l)) (f:=1) 1 rfl rfl rfl rfl rfl b rfl (by rw[eo];rfl)) rfl ?_|refine cV [999] rfl rfl (dJ (v:=af (enc (ns x).r)) (f:=2) 1 rfl rfl rfl rfl rfl b rfl (by rw[eo];rfl)) rfl ?_|refine cV [999] rfl rfl (dJ (v:=.bool (ns x).turned) (f:=8) 1 rfl rfl rfl rfl rfl b rfl (by rw[eo];rfl)) rfl ?_))
   refine il rfl ?_
   (first|refine dX 1 { ns x with value:=ei ((ns x).value+a),least:=ei ((ns x).least+a),most:=ei ((ns x).most+a),add:=ei ((ns x).add+a),l:=(ns x).r } rfl rfl rfl rfl rfl rfl rfl bH rfl rfl [] rfl ?_|refine dO 1 { ns x with value:=ei ((ns x).value+a),least:=ei ((ns x).least+a),most:=ei ((ns x).most+a),add:=ei ((ns x).add+a),l:=(ns x).r } rfl rfl rfl rfl rfl rfl rfl bH rfl rfl [] rfl ?_)
   refine b6 []<|m8 ?_;refine aG [999] rfl (bi (m:=1) rfl ab) rfl<|m8 ?_;refine cz ?_
   (first|refine dX (f:=2) 1 { ns x with value:=ei ((ns x).value+a),least:=ei ((ns x).least+a),most:=ei ((ns x).most+a),add:=ei ((ns x).add+a),l:=(ns x).r,r:=(ns x).l } rfl rfl rfl rfl rfl rfl rfl bH rfl rfl [] rfl ?_|refine dO (f:=2) 1 { ns x with value:=ei ((ns x).value+a),least:=ei ((ns x).least+a),most:=ei ((ns x).most+a),add:=ei ((ns x).add+a),l:=(ns x).r,r:=(ns x).l } rfl rfl rfl rfl rfl rfl rfl bH rfl rfl [] rfl ?_)
   refine oh ?_
   (first|refine dX 1 { ns x with value:=ei ((ns x).value+a),least:=ei ((ns x).least+a),most:=ei ((ns x).most+a),add:=ei ((ns x).add+a),l:=(ns x).r,r:=(ns x).l,turned:=!(ns x).turned } rfl rfl rfl rfl rfl rfl rfl bH rfl rfl [] rfl ?_|refine dO 1 { ns x with value:=ei ((ns x).value+a),least:=ei ((ns x).least+a),most:=ei ((ns x).most+a),add:=ei ((ns x).add+a),l:=(ns x).r,r:=(ns x).l,turned:=!(ns x).turned } rfl rfl rfl rfl rfl rfl rfl bH rfl rfl [] rfl ?_)
   exact b6 []<|cM<|ah ⟨_,rfl,rfl⟩
variable {pf gn cap N:Nat}
def qC(ns:cH)(x:Nat):Nat->cH
 |0=>ns
 |1=>iY ns (ns x).l (ns x).add (ns x).turned
 |_=>iY (iY ns (ns x).l (ns x).add (ns x).turned) (ns x).r (iY ns (ns x).l (ns x).add (ns x).turned x).add (iY ns (ns x).l (ns x).add (ns x).turned x).turned
def xE(d:Nd)(i:Nat):Option Nat:=if i=0 then d.l else d.r
theorem lL(k:Nat)(ns:cH)(a:eM N ns)(x:Nat)(c:x<N):Fn 278 [.pointer (some ⟨pf,0,none⟩),.int .i64 (x:Int)] (aC (bT pf gn cap N k ns)) ([]++bT pf gn cap N k ns)
 λ _ H'=>H'=bT pf gn cap N (k+1) (fk ns x):=by
 generalize hM:aC _=M
 refine aT Tryz.func278 λ w0=>?_;refine iM ?_;refine aA 11 (v':=af (ei ((k+1:Nat):Int))) rfl (Na (Value.int .i64) (tF _ _))<|io ?_;refine iA ?_;show J _ _ _ _ (bT pf gn cap N (k+1) ns);refine iM ?_;refine iM ?_;refine aF (zB 1 rfl rfl rfl rfl c) ?_;refine io ?_;refine aq ?_
 refine bP (σ:=Nat) (λ i=>[(24,af (i:Int)),(23,.agg [af (enc (ns x).l),af (enc (ns x).r)].toArray),(4,ap gn (x*9)),(1,af (x:Int)),(0,ap pf 0)])
  (λ i=>bT pf gn cap N (k+1) (qC ns x i)) (λ i=>i<=2) (λ i=>2-i) 0 [0,1] a7 ab rfl aa ?_
 intro i hi;refine ao ?_;refine am (ak rfl (λ b=>ag ?_) (λ f=>aO ?_))
 ·have b:i<2:=by omega
  have e:eM N (qC ns x i):=by
   obtain rfl|rfl:i=0\/i=1:=aa
   ·exact a
   ·exact a.lay (a.l x c) _ _
  refine am (aq ?_);refine bu ?_
  have d:[af (enc (ns x).l),af (enc (ns x).r)][i]?=some (af (enc (xE (ns x) i))):=by
   obtain rfl|rfl:i=0\/i=1:=aa
   ·rfl
   ·rfl
  refine aF (FZ rfl rfl rfl rfl rfl (by rfl) b d) ?_;refine io ?_;refine cq ?_;refine fZ 11 [0,1,2,3,4,5,6,7,8,9] 10 [] aX<|zt ?_;refine rW (tv (k+1) (qC ns x i) (xE (ns x) i) (by unfold xE;split;exact a.l x c;exact a.r x c) (qC ns x i x).add (qC ns x i x).turned) rfl ay.refl an ?_;rintro v H' rfl;refine b6 []<|cM<|dv ?_;refine⟨i+1,[0,1],⟨?_,rfl,rfl,rfl,rfl,an⟩,ab,?_,aa,aa⟩
  ·refine m0 ?_;rw[cp aa];rfl
  ·obtain rfl|rfl:i=0∨i=1:=by omega
   ·rfl
   ·rfl
 ·obtain rfl:i=2:=by omega
  refine iM ?_
  (first|refine dX 1 { qC ns x 2 x with add:=0 } rfl rfl rfl rfl rfl rfl rfl bH rfl rfl [] rfl ?_|refine dO 1 { qC ns x 2 x with add:=0 } rfl rfl rfl rfl rfl rfl rfl bH rfl rfl [] rfl ?_)
  refine io ?_
  (first|refine dX 1 { qC ns x 2 x with add:=0,turned:=false } rfl rfl rfl rfl rfl rfl rfl bH rfl rfl [] rfl ?_|refine dO 1 { qC ns x 2 x with add:=0,turned:=false } rfl rfl rfl rfl rfl rfl rfl bH rfl rfl [] rfl ?_)
  exact ah ⟨_,rfl,rfl⟩
variable {pf gn cap N:Nat}
def ev(ns:cH)(x:Nat):Nat->cH
 |0=>jw ns x { ns x with size:=1,least:=(ns x).value,most:=(ns x).value }
 |1=>iR (jw ns x { ns x with size:=1,least:=(ns x).value,most:=(ns x).value }) x (ns x).l
 |_=>ik ns x
theorem tA(k:Nat)(ns:cH)(g:eM N ns)(x:Nat)(e:x<N):Fn 276 [.pointer (some ⟨pf,0,none⟩),.int .i64 (x:Int)] (aC (bT pf gn cap N k ns)) ([]++bT pf gn cap N k ns)
 λ _ H'=>H'=bT pf gn cap N k (ik ns x):=by
 generalize hM:aC _=M
 refine aT Tryz.func276 λ w0=>?_;refine iM ?_;refine cq ?_;refine fZ 20 [0,1,2,3,4,5,6,7,8,9,10,11,12] 13 (dT [14,15]++[(16,false)]++dT [17,18]++[(19,false)]) aX<|zt ?_
 (first|refine dX 1 { ns x with size:=1 } rfl rfl rfl rfl rfl rfl rfl bH rfl rfl [] rfl ?_|refine dO 1 { ns x with size:=1 } rfl rfl rfl rfl rfl rfl rfl bH rfl rfl [] rfl ?_)
 refine oh ?_
 (first|refine dX 1 { ns x with size:=1,least:=(ns x).value } rfl rfl rfl rfl rfl rfl rfl bH rfl rfl [] rfl ?_|refine dO 1 { ns x with size:=1,least:=(ns x).value } rfl rfl rfl rfl rfl rfl rfl bH rfl rfl [] rfl ?_)
 refine oh ?_
 (first|refine dX 1 { ns x with size:=1,least:=(ns x).value,most:=(ns x).value } rfl rfl rfl rfl rfl rfl rfl bH rfl rfl [] rfl ?_|refine dO 1 { ns x with size:=1,least:=(ns x).value,most:=(ns x).value } rfl rfl rfl rfl rfl rfl rfl bH rfl rfl [] rfl ?_)
 refine b6 []<|gA ?_;show J _ _ _ _ (bT pf gn cap N k (ev ns x 0));refine iM ?_
 have j:(ev ns x 0 x).l=(ns x).l/\(ev ns x 0 x).r=(ns x).r:=by
  show (jw ns x _ x).l=_/\(jw ns x _ x).r=_;rw[eo];exact⟨rfl,rfl⟩
 refine aF (zB 1 rfl rfl rfl rfl e) ?_;rw[j.1,j.2];refine io ?_;refine aq ?_
 refine bP (σ:=Nat) (λ i=>[(35,af (i:Int)),(34,.agg [af (enc (ns x).l),af (enc (ns x).r)].toArray),(4,ap gn (x*9)),(1,af (x:Int)),(0,ap pf 0)])
  (λ i=>bT pf gn cap N k (ev ns x i)) (λ i=>i<=2) (λ i=>2-i) 0 [0,1] a7 ab rfl aa ?_
 intro i hi;refine ao ?_;refine am (ak rfl (λ b=>ag ?_) (λ o=>aO ?_))
 ·have b:i<2:=by omega
  have f:[af (enc (ns x).l),af (enc (ns x).r)][i]?=some (af (enc (xE (ns x) i))):=by
   obtain rfl|rfl:i=0\/i=1:=aa
   ·rfl
   ·rfl
  have d:xL N (xE (ns x) i):=by unfold xE;split;exact g.l x e;exact g.r x e
  have a:ev ns x (i+1)=iR (ev ns x i) x (xE (ns x) i):=by
   obtain rfl|rfl:i=0\/i=1:=aa
   ·rfl
   ·rfl
  refine am (aq ?_);refine bu ?_;refine aF (FZ rfl rfl rfl rfl rfl (by rfl) b f) ?_;refine io ?_;refine ao ?_
  cases n:xE (ns x) i with
  |none=>
   rw[n] at a;refine lQ 39 rfl (by simp[enc])<|bo rfl (ag ?_);refine ao ?_;refine⟨i+1,[0,1],⟨?_,rfl,rfl,rfl,rfl,an⟩,ab,?_,aa,aa⟩
   ·refine m0 ?_;rw[cp aa];rfl
   ·rw[a];rfl
  |some c=>
   rw[n] at a d;have p:c<N:=d;refine nd 39 rfl (by simp[enc])<|dr ?_;refine iM ?_;refine cq ?_;refine fZ 39 [0,1,2,3,4,5,6,7,8,9,10,11,12,13,14,15,16,17,18,19,20,21,22,23,24,25,26,27,28,29,30,31] 32 (dT [33,34]++[(35,false)]++dT [36,37]++[(38,false)]) aX<|zt ?_
   (first|refine dX 1 { ev ns x i x with size:=ei ((ev ns x i x).size+(ev ns x i c).size) } rfl rfl rfl rfl rfl rfl rfl bH rfl rfl [] rfl ?_|refine dO 1 { ev ns x i x with size:=ei ((ev ns x i x).size+(ev ns x i c).size) } rfl rfl rfl rfl rfl rfl rfl bH rfl rfl [] rfl ?_)
   refine oh ?_
   (first|refine dX 1 { ev ns x i x with size:=ei ((ev ns x i x).size+(ev ns x i c).size),least:=yC (ev ns x i x).least (ev ns x i c).least } rfl rfl rfl rfl rfl rfl rfl bH rfl rfl [] rfl ?_|refine dO 1 { ev ns x i x with size:=ei ((ev ns x i x).size+(ev ns x i c).size),least:=yC (ev ns x i x).least (ev ns x i c).least } rfl rfl rfl rfl rfl rfl rfl bH rfl rfl [] rfl ?_)
   refine oh ?_
   (first|refine dX 1 { ev ns x i x with size:=ei ((ev ns x i x).size+(ev ns x i c).size),least:=yC (ev ns x i x).least (ev ns x i c).least,most:=Dr (ev ns x i x).most (ev ns x i c).most } rfl rfl rfl rfl rfl rfl rfl bH rfl rfl [] rfl ?_|refine dO 1 { ev ns x i x with size:=ei ((ev ns x i x).size+(ev ns x i c).size),least:=yC (ev ns x i x).least (ev ns x i c).least,most:=Dr (ev ns x i x).most (ev ns x i c).most } rfl rfl rfl rfl rfl rfl rfl bH rfl rfl [] rfl ?_)
   refine b6 []<|cM<|dv ?_;refine⟨i+1,[0,1],⟨?_,rfl,rfl,rfl,rfl,an⟩,ab,?_,aa,aa⟩
   ·refine m0 ?_;rw[cp aa];rfl
   ·rw[a];rfl
 ·obtain rfl:i=2:=by omega
  exact⟨_,rfl,rfl⟩
theorem tH(k:Nat)(ns:cH)(c:eM N ns)(x p:Nat)(b:x<N)(hp:(ns x).up=some p):Fn 279 [.pointer (some ⟨pf,0,none⟩),.int .i64 (x:Int)] (aC (bT pf gn cap N k ns)) ([]++bT pf gn cap N k ns)
 λ v H'=>v=.int .i64 (eQ ns x p:Nat)/\H'=bT pf gn cap N k ns:=by
 have d:p<N:=by have:=c.up x b;rw[hp] at this;exact this
 generalize hM:aC _=M
 refine aT Tryz.func279 λ w0=>?_;refine iL ?_;refine bM 18 (dT [0,1,2,3,4,5,6,7,8,9,10,11,12,13,14,15,16,17]) [0,1] aX ab rfl<|CI ?_;refine aG [999] rfl (dJ (v:=af (p:Int)) (f:=0) 1 rfl rfl rfl rfl rfl b rfl (by show some (af (enc (ns x).up))=_;rw[hp];rfl)) rfl<|CI ?_;refine gA ?_;unfold eQ;by_cases a:(ns p).r=some x
 ·rw[if_pos a];refine nd 22 rfl (HN.2 a)<|cq ?_;refine iL ?_;exact j0
 ·rw[if_neg a];refine lQ 22 rfl (λ h=>a (HN.1 h))<|cq ?_;refine ao ?_;exact j0
theorem xz(k:Nat)(ns:cH)(f:eM N ns)(c:Option Nat)(d:xL N c)(b:Nat)(e:b<N)(s:Nat)(a:s<2):Fn 275 [.pointer (some ⟨pf,0,none⟩),.int .i64 (enc c),.int .i64 (b:Int),.int .i64 (s:Int)] (aC (bT pf gn cap N k ns)) ([]++bT pf gn cap N k ns)
 λ _ H'=>H'=bT pf gn cap N k (gy ns c b s):=by
 generalize hM:aC _=M
 refine aT Tryz.func275 λ w0=>?_;refine iM ?_;refine aF (bi rfl a) ?_;refine tZ 1 rfl rfl rfl rfl rfl e a [] rfl<|ah<|?_;show J _ _ _ _ (bT pf gn cap N k (jw ns b (dF (ns b) s c)));refine ao ?_
 cases c with
 |none=>
  exact lQ 19 rfl (by simp[enc])<|bo rfl (ag ⟨_,rfl,rfl⟩)
 |some x=>
  have g:x<N:=d;refine nd 19 rfl (by simp[enc])<|dr ?_;refine iM ?_
  (first|refine dX 1 { jw ns b (dF (ns b) s (some x)) x with up:=some b } rfl rfl rfl rfl rfl rfl rfl bH rfl rfl [] rfl ?_|refine dO 1 { jw ns b (dF (ns b) s (some x)) x with up:=some b } rfl rfl rfl rfl rfl rfl rfl bH rfl rfl [] rfl ?_)
  exact ah ⟨_,rfl,rfl⟩
variable {pf gn cap N:Nat}
theorem xW(ns:cH)(x p:Nat):eQ ns x p<2:=by unfold eQ;split<;>omega
theorem I4(ns:cH)(p:Nat):rq ns p<2:=by
 unfold rq;split
 ·omega
 ·exact xW _ _ _
theorem l7(k:Nat)(ns:cH)(j:eM N ns)(x p:Nat)(b:x<N)(hp:(ns x).up=some p):Fn 280 [.pointer (some ⟨pf,0,none⟩),.int .i64 (x:Int)] (aC (bT pf gn cap N k ns)) ([]++bT pf gn cap N k ns)
 λ _ H'=>H'=bT pf gn cap N (k+1) (ef ns x p):=by
 have a:p<N:=by have:=j.up x b;rw[hp] at this;exact this
 have i:xL N (ns p).up:=j.up p a;have D:=xW ns x p;have z:=I4 ns p
 generalize hM:aC _=M
 refine aT Tryz.func280 λ w0=>?_;refine iM ?_;refine aA 12 (v':=af (ei ((k+1:Nat):Int))) rfl (Na (Value.int .i64) (tF _ _))<|io ?_;refine iA ?_;show J _ _ _ _ (bT pf gn cap N (k+1) ns);refine iM ?_;refine bD 4 (v':=af (p:Int)) rfl (Na (Value.int .i64) (gT hp))<|cq ?_;refine bM 13 (dT [0,1,2,3,4,5,6,7,8,9]++[(10,false)]++dT [11,12]) [0,1] aX ab rfl<|CI ?_;refine aG [999] rfl (dJ (f:=0) 1 rfl rfl rfl rfl rfl a rfl rfl) rfl<|CI ?_;refine cz ?_;refine iy (tH (k+1) ns j x p b hp) rfl ay.refl an ?_;refine b6 [0,1]<|m8 ?_;refine gA ?_;show J _ _ _ _ (bT pf gn cap N (k+1) ns);refine ao ?_;refine fN [(7,af (rq ns p:Nat)),(6,af (eQ ns x p:Nat)),(5,af (enc (ns p).up)),(4,af (p:Int)),(1,af (x:Int)),(0,ap pf 0)] (bT pf gn cap N (k+1) ns) ?_ ?_
 ·refine ao ?_
  cases q:(ns p).up with
  |none=>
   have e:rq ns p=0:=by unfold rq;rw[q]
   refine lQ 35 rfl (by simp[enc])<|bo rfl (ag ⟨[0,1],⟨?_,rfl,rfl,rfl,rfl,rfl,an⟩,ab,rfl⟩);rw[e];rfl
  |some g=>
   have e:rq ns p=eQ ns p g:=by unfold rq;rw[q]
   refine nd 35 rfl (by simp[enc])<|dr ?_;refine iM ?_;refine iy (tH (k+1) ns j p g a q) rfl ay.refl an ?_;refine io ?_;refine⟨[0,1],⟨?_,rfl,rfl,rfl,rfl,rfl,an⟩,ab,rfl⟩;rw[e];rfl
 ·obtain⟨s,t⟩:∃ s,eQ ns x p=s:=⟨_,rfl⟩;obtain⟨tp,u⟩:∃ s,rq ns p=s:=⟨_,rfl⟩;unfold ef;rw[t,u];rw[t] at D;rw[u] at z;have E:IntKind.i64.wrap (1-(s:Int))=((1-s:Nat):Int):=by rw[cp aa];omega
  have w:=j.hang (j.down b (1-s)) a s;have o:=w.hang (c:=some p) a b (1-s);have A:=o.upd (x:=x) (d:={ gy (gy ns (lX (ns x) (1-s)) p s) (some p) x (1-s) x with up:=(ns p).up }) i (o.l x b) (o.r x b);have y:=A.setG i b tp;have B:=y.pull a;refine iM ?_;refine aA 46 (v':=af ((1-s:Nat):Int)) rfl (Na (Value.int .i64) E) ?_
  (repeat' (first|refine ah ?_|refine cE (gs:=[999]) rfl ?_|refine ae [999] (ad 0 rfl) rfl ?_|refine ae [999] (et rfl bH) rfl ?_|refine ae [999] (bi (m:=0) rfl ab) rfl ?_|refine ae [999] (bi (m:=1) rfl ab) rfl ?_|refine ae [999] (eB 1 rfl rfl rfl rfl bH bH) rfl ?_|refine ae [999] (dJ 1 rfl rfl rfl rfl rfl bH rfl rfl) rfl ?_))
  refine aF (bi rfl aa) ?_
  (repeat' (first|refine ah ?_|refine cE (gs:=[999]) rfl ?_|refine ae [999] (ad 0 rfl) rfl ?_|refine ae [999] (et rfl bH) rfl ?_|refine ae [999] (bi (m:=0) rfl ab) rfl ?_|refine ae [999] (bi (m:=1) rfl ab) rfl ?_|refine ae [999] (eB 1 rfl rfl rfl rfl bH bH) rfl ?_|refine ae [999] (dJ 1 rfl rfl rfl rfl rfl bH rfl rfl) rfl ?_))
  refine rW (xz (k+1) ns j (lX (ns x) (1-s)) (j.down b _) p a s D) rfl ay.refl an ?_;rintro v H' rfl;refine ah ?_;show J _ _ _ _ (bT pf gn cap N (k+1) _)
  (repeat' (first|refine am ?_|refine ag ?_|refine bF rfl ?_|refine bo rfl ?_))
  refine aE ?_
  (repeat' (first|refine ah ?_|refine cE (gs:=[999]) rfl ?_|refine ae [999] (ad 0 rfl) rfl ?_|refine ae [999] (et rfl bH) rfl ?_|refine ae [999] (bi (m:=0) rfl ab) rfl ?_|refine ae [999] (bi (m:=1) rfl ab) rfl ?_|refine ae [999] (eB 1 rfl rfl rfl rfl bH bH) rfl ?_|refine ae [999] (dJ 1 rfl rfl rfl rfl rfl bH rfl rfl) rfl ?_))
  refine aA 58 (v':=af ((1-s:Nat):Int)) rfl (Na (Value.int .i64) E)<|rW (xz (k+1) _ w (some p) a x b (1-s) aa) rfl ay.refl an ?_;rintro v H' rfl;refine ah ?_;show J _ _ _ _ (bT pf gn cap N (k+1) _)
  (repeat' (first|refine am ?_|refine ag ?_|refine bF rfl ?_|refine bo rfl ?_))
  refine aE ?_
  (repeat' (first|refine ah ?_|refine cE (gs:=[999]) rfl ?_|refine ae [999] (ad 0 rfl) rfl ?_|refine ae [999] (et rfl bH) rfl ?_|refine ae [999] (bi (m:=0) rfl ab) rfl ?_|refine ae [999] (bi (m:=1) rfl ab) rfl ?_|refine ae [999] (eB 1 rfl rfl rfl rfl bH bH) rfl ?_|refine ae [999] (dJ 1 rfl rfl rfl rfl rfl bH rfl rfl) rfl ?_))
  (first|refine dX 1 { gy (gy ns (lX (ns x) (1-s)) p s) (some p) x (1-s) x with up:=(ns p).up } rfl rfl rfl rfl rfl rfl rfl bH rfl rfl [] rfl ?_|refine dO 1 { gy (gy ns (lX (ns x) (1-s)) p s) (some p) x (1-s) x with up:=(ns p).up } rfl rfl rfl rfl rfl rfl rfl bH rfl rfl [] rfl ?_)
  refine ah ?_;show J _ _ _ _ (bT pf gn cap N (k+1) _)
  generalize F:jw _ _ _=C at*
  refine fN [(4,af (p:Int)),(1,af (x:Int)),(0,ap pf 0)] (bT pf gn cap N (k+1) (HB C (ns p).up tp x)) ?_ ?_
  ·refine ao ?_
   cases q:(ns p).up with
   |none=>
    exact lQ 69 rfl (by simp[enc])<|bo rfl (ag ⟨[0,1],a7,ab,rfl⟩)
   |some g=>
    rw[q] at i;have n:g<N:=i;refine nd 69 rfl (by simp[enc])<|dr ?_;refine bu ?_
    (repeat' (refine cE (gs:=[999]) rfl ?_))
    refine ae [999] (ad 0 rfl) rfl ?_
    (repeat' (refine cE (gs:=[999]) rfl ?_))
    refine aA 74 (v':=af (g:Int)) rfl (Na (Value.int .i64) (by first|exact gT q|rfl))<|ae [999] (et rfl n) rfl<|?_
    (repeat' (refine cE (gs:=[999]) rfl ?_))
    refine aF (bi rfl z) ?_;exact tZ (c:=some x) 1 rfl rfl rfl rfl rfl n z [] rfl<|ah ⟨[0,1],a7,ab,rfl⟩
  ·(repeat' (first|refine am ?_|refine ag ?_|refine bF rfl ?_|refine bo rfl ?_))
   refine aE ?_
   (repeat' (first|refine ah ?_|refine cE (gs:=[999]) rfl ?_|refine ae [999] (ad 0 rfl) rfl ?_|refine ae [999] (et rfl bH) rfl ?_|refine ae [999] (bi (m:=0) rfl ab) rfl ?_|refine ae [999] (bi (m:=1) rfl ab) rfl ?_|refine ae [999] (eB 1 rfl rfl rfl rfl bH bH) rfl ?_|refine ae [999] (dJ 1 rfl rfl rfl rfl rfl bH rfl rfl) rfl ?_))
   refine rW (tA (k+1) _ y p a) rfl ay.refl an ?_;rintro v H' rfl;refine ah ?_;show J _ _ _ _ (bT pf gn cap N (k+1) _)
   (repeat' (first|refine am ?_|refine ag ?_|refine bF rfl ?_|refine bo rfl ?_))
   refine aE ?_
   (repeat' (first|refine ah ?_|refine cE (gs:=[999]) rfl ?_|refine ae [999] (ad 0 rfl) rfl ?_|refine ae [999] (et rfl bH) rfl ?_|refine ae [999] (bi (m:=0) rfl ab) rfl ?_|refine ae [999] (bi (m:=1) rfl ab) rfl ?_|refine ae [999] (eB 1 rfl rfl rfl rfl bH bH) rfl ?_|refine ae [999] (dJ 1 rfl rfl rfl rfl rfl bH rfl rfl) rfl ?_))
   refine rW (tA (k+1) _ B x b) rfl ay.refl an ?_;rintro v H' rfl;exact ah ⟨_,rfl,by subst F;rfl⟩
def rQ(l:List Oper):Bool:=l.all λ o=>match o.op with
 |.defer _=>false
 |_=>true
section
variable {P:Program} {ops:Array Oper} {R:Exit->Act->World->Prop}
theorem zu{n r:Nat}{row:String}{args:Array Value}{w:World}{K:Value->World->Prop}(h:Rows P row args w K):RowsIn (Fence.wide.inRound r) n P row args w K:=
 λ c cs _=>by obtain⟨v,w',r,s⟩:=h c cs;exact⟨v,w',r,stepsIn_wide.2 s⟩
theorem sW{r n:Nat}(b:¬ LetsOut R):∀ (l:List Oper) (a:Act) (w:World),rQ l=true->wpList P ops R l a w->wpListIn (Fence.wide.inRound r) n P ops R l a w
 |[],_,_,_,h=>h
 |o::l,a,w,hp,h=>by
  simp only[rQ,Pi,N6] at hp;have d:=λ a w=>sW (r:=r) (n:=n) b l a w hp.2;unfold wpList at h;unfold wpListIn;split
  ·rename_i hw;rw[if_pos hw] at h
   rcases h with h|⟨_,h⟩
   ·refine⟨fun _ _=>trivial,?_⟩;have i:o.semAt (Fence.wide.inRound r).round a.eval=execOp a.eval o:=Oper.semAt_eq _ a.eval o fun c j=>by rw[j] at hp;cases hp.1
    rw[i];unfold Oper.wp at h
    generalize (execOp a.eval o).run P w=res at*
    cases res with
    |ok x w'=>
     cases x<;>simp only[Oper.upon,Oper.uponIn] at h ⊢<;>first|exact d _ _ h|exact h.elim|skip
     ·refine⟨fun f=>(by simp[Fence.wide] at f),(CallsIn.inRound r (callsIn_wide.2 h)).mono ?_⟩;intro e g he
      cases e with
      |returned v=>exact d _ _ he
      |panicked p=>exact he
      |outgrown=>exact he
     ·exact⟨λ f=>(by simp[Fence.wide] at f),zu (h.mono λ v g m=>d _ _ m)⟩
    |halt x w'=>cases x<;>simp only[Oper.upon,Oper.uponIn] at h ⊢<;>first|exact h|exact h.elim
   ·exact absurd h b
  ·rename_i hw;rw[if_neg hw] at h;exact⟨λ _ _=>trivial,d _ _ h⟩
end
section
variable {X:Cx} {E E':Env} {H:Heap} {K:Env->Heap->Prop}
def JR(X:Cx)(r:Nat)(c:Code)(K:Env->Heap->Prop)(E:Env)(H:Heap):Prop:=∀ a w,gz X.n a E->dN X.w0 X.M w H->c.wpIn (Fence.wide.inRound r) 0 Tryz.prog (qv X (IN K)) a w
theorem CE:¬ LetsOut (qv X (IN K)):=λ ⟨_,_,_,_,_,_,h⟩=>h
theorem jq{r id:Nat}{l:List Oper}(hp:rQ l=true)(h:JL X l l (IN K) E H):JR X r (.region id l.toArray false) K E H:=
 λ a w b c=>wpIn_region_lit (sW CE l a w hp (h a w b c))
theorem yI{r id:Nat}{c:Code}(h:JR X r c K E H):JR X r (.block id c) K E H:=λ a w d f=>by
 refine wpIn_block (wpIn_mono (h a w d f) ?_);rintro e j w' ⟨E',H',g,i,b⟩
 cases e with
 |normal=>exact⟨E',H',g,i,b⟩
 |_=>exact b.elim
theorem By{r:Nat}{x y:Code}(h:JR X r x (λ E' H'=>JR X r y K E' H') E H):JR X r (.seq x y) K E H:=λ a w c d=>by
 refine wpIn_seq (wpIn_mono (h a w c d) ?_);rintro e f w' ⟨E',H',g,i,b⟩
 cases e with
 |normal=>exact b f w' g i
 |_=>exact b.elim
end
def K1(gf:FuncId)(lb:LV_)(S:Heap)(nr:Nat)(x:Nat->LV_):Prop:=
 ∀ (l:Nat) (J:Nat->World->Prop) (W:World),(∀ k W,J k W->∀ c∈S,c.holds W)->(∀ k W W',J k W->dN W [] W' []->J k W')->
   (∀ k W,k<nr->J k W->YieldAt Fence.wide 0 Tryz.prog l (x k).toArray W λ e W'=>e=.returned (.bool true)/\J (k+1) W')->
   J 0 W->Calls Tryz.prog gf (#[.func (.yield l) #[] #[]]++lb.toArray) W λ e W'=>(∃ v,e=.returned v)/\J nr W'
def wi:LN_->LV_->Env->Env
 |p::ps,v::vs,E=>wi ps vs ((p,v)::E)
 |_,_,E=>E
theorem gz.bind{n:Nat}:∀ (ps:LN_) (vs:LV_) (tmps:Array Value) (E:Env),(ps.all λ p=>Nat.blt p n)=true->gz ⟨n,[]⟩ { tmps:=tmps,defers:=[] } E->
 gz ⟨n,[]⟩ { tmps:=(ps.zip vs).foldl (λ t (p,v)=>t.setIfInBounds p v) tmps,defers:=[] } (wi ps vs E)
 |[],_,_,_,_,h=>h
 |p::ps,[],tmps,E,_,h=>h
 |p::ps,v::vs,tmps,E,hp,h=>by
  simp only[Pi,N6] at hp;have a:gz ⟨n,[]⟩ { tmps:=tmps.setIfInBounds p v,defers:=[] } ((p,v)::E):=h.put (d:=p) (by simpa using hp.1) v;exact gz.bind ps vs _ _ hp.2 a
abbrev sI(D:Nat):Deferred:={ target:=.collected D,args:=#[] }
abbrev ua:Obj:=.deferred (some [])
section
variable {w0:World} {M:LN_} {n:Nat} {E:Env} {H:Heap} {R:Exit->Act->World->Prop}
theorem dN.turn{w:World}{o o':Obj}{r:Nat}{K:Heap}(h:dN w0 M w (.obj r o::K)):dN w0 M (w.putObj r o') (.obj r o'::K):=by
 have c:w.heap[r]?=some o:=h.holds (.obj r o) ai;have a:=(OL.1 c).1;refine h.step (d:=.obj r o') 0 rfl rfl rfl rfl ai (λ k _ f=>World.putObj_heap_other (λ e=>f (by rw[e];rfl))) (World.putObj_heap_same a) (λ b g=>.inl g)
theorem dN.tail{w:World}{c:aY}{K:Heap}(h:dN w0 M w (c::K)):dN w0 M w K:=h.sub (NW c K)
theorem dN.after{w w':World}{K:Heap}(h:dN w0 M w K)(a:dN w [] w' []):dN w0 M w' K:=by
 have f:∀ k,k<w.heap.size->w'.heap[k]?=w.heap[k]?:=λ k d=>a.keep k d ai;refine⟨a.os.trans h.os,a.tape.trans h.tape,a.output.trans h.output,Ov h.size a.size,λ k d hM=>?_,λ c g=>?_,h.own,h.dis⟩
 ·rw[f k (O9 d h.size)];exact h.keep k d hM
 ·exact aY.holds_of (h.holds c g) λ b e=>f b (aY.at_lt (h.holds c g) e)
theorem Ic{X:Cx}{x y:Code}(h:W X x (Exit.then (y.wp Tryz.prog R) R) E H):W X (.seq x y) R E H:=λ a w b c=>wp_seq (h a w b c)
theorem Ca{X:Cx}{id:Nat}{c:Code}(h:W X c (Exit.inBlock id R) E H):W X (.block id c) R E H:=λ a w b d=>wp_block (h a w b d)
theorem Jt{g:Operand}{ps:LN_}{assign body:Code}{gf:FuncId}{lb:LV_}{S:Heap}{nr:Nat}{x:Nat->LV_}(d:Nat->Heap)(hg:val E g=some (.func (.func gf) #[] lb.toArray))(hc:ee gf=true)
 (hit:K1 gf lb S nr x) (A:∀ k,k<nr->(x k).length=ps.length) (B:(ps.all λ p=>Nat.blt p n)=true) (hS:∀ k W,dN w0 M W (d k)->∀ c∈S,c.holds W)
 (f:∀ r D k (o q:Obj),k<nr->JR ⟨w0,M,⟨n,[]⟩⟩ r assign (λ Z H1=>H1=(.obj r o::.obj D ua::d k)/\
  JR ⟨w0,M,⟨n,[]⟩⟩ r body (λ _ H2=>∃ ix:LN_,ix.Nodup/\cK H2 ix=some (.obj r q::.obj D ua::d (k+1))) Z (.obj r q::.obj D ua::d k)) (wi ps (x k) E) (.obj r o::.obj D ua::d k))
 (i:∀ D a w,gz ⟨n,[sI D]⟩ a E->dN w0 M w (.obj D ua::d nr)->R .normal a w):W ⟨w0,M,⟨n,[]⟩⟩ (.rangeFunc g ps.toArray assign body) R E (d 0):=by
 intro a w m hH;refine (wpIn_wide (n:=0)).1 (wpIn_rangeFunc ?_);intro fn _;obtain⟨rec,b⟩:∃ rec:LoopState->Option Code->Loop,rec=λ st pe=>{ state:=st,pending:=pe,fn,tmps:=a.tmps,params:=ps.toArray,assign,body,defers:=w.heap.size }:=⟨_,rfl⟩;obtain⟨j,s⟩:∃ j,(w.alloc (.deferred (some []))).alloc (.loop (rec .ready none))=j:=⟨_,rfl⟩
 have C:dN w0 M j (.obj (w.heap.size+1) (.loop (rec .ready none))::.obj w.heap.size ua::d 0):=by
  have:=(hH.alloc ua).alloc (.loop (rec .ready none));rw[World.size_alloc] at this;rw[<- s];exact this
 have I:a.eval g=.func (.func gf) #[] lb.toArray:=m.val hg;refine⟨w.heap.size+1,[sI w.heap.size],j,{ target:=.fn (.func gf) lb.toArray,args:=#[.func (.yield (w.heap.size+1)) #[] #[]] },j,gf,#[.func (.yield (w.heap.size+1)) #[] #[]]++lb.toArray,j,?_,?_,λ _ _=>trivial,?_,λ hd=>(by simp[Fence.wide] at hd),?_⟩
 ·rw[<- s,b];exact run_enterLoop_outer _ _ _ _ _
 ·simp only[resolve,I];simp[go_sem]
 ·simp[invoke,iI hc]
 ·refine (callsIn_wide.2 (hit (w.heap.size+1) (λ k W=>dN w0 M W (.obj (w.heap.size+1) (.loop (rec .ready none))::.obj w.heap.size ua::d k)) j (λ k W h=>hS k W h.tail.tail) (λ k W W' h h'=>h.after h') ?_ C)).mono ?_
  ·intro k W hk h;have hl:W.heap[w.heap.size+1]?=some (.loop (rec .ready none)):=h.holds (.obj _ _) ai;have hy:=run_yield (P:=Tryz.prog) (args:=(x k).toArray) hl (by rw[b];simp[A k hk]);rw[b] at hy;refine⟨fn,_,assign,body,hy,roundIn_of_wpIn trivial ?_⟩
   have L:gz ⟨n,[]⟩ { tmps:=((ps.toArray.zip (x k).toArray).foldl (λ t (p,v)=>t.setIfInBounds p v) a.tmps),defers:=[] } (wi ps (x k) E):=by
    have:=gz.bind ps (x k) a.tmps E B ⟨m.size,rfl,m.get⟩
    have e:(ps.toArray.zip (x k).toArray).foldl (λ t (p,v)=>t.setIfInBounds p v) a.tmps=(ps.zip (x k)).foldl (λ t (p,v)=>t.setIfInBounds p v) a.tmps:=by
     rw[<- PZ];simp
    rw[e];exact this
   refine wpIn_mono (f (w.heap.size+1) w.heap.size k (.loop (rec .ready none)) (.loop { rec .ready none with state:=.busy }) hk _ W L h) ?_;rintro e a1 N ⟨Z,H1,O,u,hq⟩
   cases e with
   |normal=>
    obtain⟨rfl,hb⟩:=hq;have Q:N.heap[w.heap.size+1]?=some (.loop (rec .ready none)):=u.holds (.obj _ _) ai;refine⟨_,run_beginRound Q (by rw[b]),?_⟩;refine wpIn_mono (hb a1 _ O u.turn) ?_;rintro e a3 W3 ⟨E3,H3,h1,U,y⟩
    cases e with
    |normal=>
     obtain⟨ix,V,hp⟩:=y;have z:=U.picks ix V hp;have Y:W3.heap[w.heap.size+1]?=some (.loop { rec .ready none with state:=.busy }):=z.holds (.obj _ _) ai;refine⟨_,_,run_endRound none Y,rfl,?_⟩;have:=z.turn (o':=.loop (rec .ready none));rw[b] at this ⊢;exact this
    |_=>exact y.elim
   |_=>exact hq.elim
  ·rintro e N ⟨⟨v,rfl⟩,h⟩;have hl:N.heap[w.heap.size+1]?=some (.loop (rec .ready none)):=h.holds (.obj _ _) ai;refine⟨none,_,by have:=run_endLoop (P:=Tryz.prog) hl (by rw[b];simp);rw[b] at this;exact this,?_⟩;have z:=h.turn (o':=.loop (rec .exhausted none));rw[b] at z;exact i w.heap.size _ _ ⟨m.size,by show [_]++a.defers=_;rw[m.defers];rfl,m.get⟩ z.tail
def KN(fn:Func)(w0:World)(M:LN_)(Rr:Value->Heap->Prop):Exit->Act->World->Prop:=λ e a w=>
 (e=.normal\/e=.ret)/\∃ E' H' D,gz ⟨fn.ntmps,[sI D]⟩ a E'/\dN w0 M w (.obj D ua::H')/\∃ vs,u9 E' fn.results.toList=some vs/\Rr (mH vs) H'
def MR(D:Nat)(rs:List ResultVar)(Rr:Value->Heap->Prop):fb:=λ e E H=>(e=.normal\/e=.ret)/\∃ H' ix,List.Nodup ix/\cK H ix=some (.obj D ua::H')/\∃ vs,u9 E rs=some vs/\Rr (mH vs) H'
theorem KC{D:Nat}{fn:Func}{c:Code}{Rr:Value->Heap->Prop}(h:J ⟨w0,M,⟨fn.ntmps,[sI D]⟩⟩ c (MR D fn.results.toList Rr) E H){a:Act}{w:World}(g:gz ⟨fn.ntmps,[sI D]⟩ a E)(i:dN w0 M w H):c.wp Tryz.prog (KN fn w0 M Rr) a w:=by
 refine wp_mono (h a w g i) ?_;rintro e p w' ⟨E',H',b,d,he,j,ix,f,hp,vs,m,o⟩;exact⟨he,E',j,D,b,d.picks ix f hp,vs,m,o⟩
theorem In{f:FuncId}{fn:Func}{c:Code}{args:LV_}{Rr:Value->Heap->Prop}(i:Tryz.prog.funcs[f]?=some fn)(j:fn.body=some c)(m:Nat.ble args.length fn.ntmps=true)
 (h:∀ w0,W ⟨w0,M,⟨fn.ntmps,[]⟩⟩ c (KN fn w0 M Rr) (pE 0 args) H):Fn f args M H Rr:=by
 intro w o;refine (callsIn_wide (n:=0)).1 (callsIn_of_wp_marks i j an (wpIn_wide.2 ?_));refine wp_mono (h w _ w (np m) o) ?_
 have key:∀ a w',(∃ E' H' D,gz ⟨fn.ntmps,[sI D]⟩ a E'/\dN w M w' (.obj D ua::H')/\∃ vs,u9 E' fn.results.toList=some vs/\Rr (mH vs) H')->
  LeavesInM Fence.wide 0 Tryz.prog fn a.tmps (λ e w'=>∃ v H',e=.returned v/\dN w M w' H'/\Rr v H') a.defers .returning w':=by
  rintro a w' ⟨E',H',D,b,d,vs,p,q⟩;rw[b.defers];have r:w'.heap[D]?=some (.deferred (some [])):=d.holds (.obj D ua) ai;refine⟨ai,.inl ⟨D,_,rfl,run_takeDeferred r,?_⟩⟩;exact⟨mH vs,jH b p _,mH vs,H',rfl,(d.turn (o':=.deferred none)).tail,q⟩
 rintro e a w' ⟨rfl|rfl,g⟩
 ·exact key a w' g
 ·exact key a w' g
end
section
variable {G:Nat->World->Prop} {n:Nat} {S:Heap} {E F:Env} {k nr l:Nat} {x:Nat->LV_} {ops:List Oper} {R:Exit->Act->World->Prop}
def zF:Heap->Bool
 |[]=>true
 |.seg ..::H=>zF H
 |_=>false
theorem oR:∀ {S:Heap},zF S=true->∀ c∈S,c.mine=none
 |[],_,c,a=>by cases a
 |.seg ..::S,h,c,a=>by
  rcases Nn.1 a with rfl|a
  ·rfl
  ·exact oR (S:=S) h c a
 |.obj ..::_,h,_,_=>by cases h
 |.own ..::_,h,_,_=>by cases h
 |.tab ..::_,h,_,_=>by cases h
theorem xU{w:World}(d:zF S=true)(h:∀ c∈S,c.holds w):dN w [] w S:=by
 refine⟨rfl,rfl,rfl,Nr _,λ _ _ _=>rfl,h,λ c e b a=>(by rw[oR d c e] at a;cases a),?_⟩;rw[N9];intro i j hi f _;have g:=oR d _ (Oz hi);have m:=oR d _ (Oz f);exact⟨λ b a=>(by rw[g] at a;cases a),λ b a=>(by rw[m] at a;cases a)⟩
def JY(G:Nat->World->Prop)(n:Nat)(ops l:List Oper)(R:Exit->Act->World->Prop)(E:Env)(k:Nat):Prop:=∀ a w,gz ⟨n,[]⟩ a E->G k w->wpListIn Fence.wide 0 Tryz.prog ops.toArray R l a w
theorem qD{P:Program}{ops:Array Oper}{R Rn:Exit->Act->World->Prop}{i:List Oper}(b:¬ LetsOut Rn)(j:∀ e a w,e≠.normal->¬ Rn e a w)(p:∀ a w,Rn .normal a w->wpListIn Fence.wide 0 P ops R i a w):
 ∀ (d:List Oper) (a:Act) (w:World),rQ d=true->wpList P ops Rn d a w->wpListIn Fence.wide 0 P ops R (d++i) a w
 |[],a,w,_,h=>p a w h
 |o::d,a,w,hp,h=>by
  simp only[rQ,Pi,N6] at hp;have g:=λ a w=>qD b j p d a w hp.2;unfold wpList at h;show wpListIn _ _ _ _ _ (o::(d++i)) a w;unfold wpListIn;split
  ·rename_i hw;rw[if_pos hw] at h
   rcases h with h|⟨_,h⟩
   ·refine⟨λ _ _=>trivial,?_⟩;have q:o.semAt Fence.wide.round a.eval=execOp a.eval o:=Oper.semAt_none a.eval o;rw[q];unfold Oper.wp at h
    generalize (execOp a.eval o).run P w=res at*
    cases res with
    |ok x w'=>
     cases x<;>simp only[Oper.upon,Oper.uponIn] at h ⊢<;>first|exact g _ _ h|exact h.elim|skip
     ·refine⟨fun m=>(by simp[Fence.wide] at m),(callsIn_wide.2 h).mono ?_⟩;intro e f he
      cases e with
      |returned v=>exact g _ _ he
      |panicked t=>exact absurd he (j _ _ _ ai)
      |outgrown=>exact absurd he b
     ·refine⟨λ m=>(by simp[Fence.wide] at m),λ c cs _=>?_⟩;obtain⟨v,f,r,s⟩:=h c cs;exact⟨v,f,g _ _ r,stepsIn_wide.2 s⟩
    |halt x w'=>cases x<;>simp only[Oper.upon,Oper.uponIn] at h ⊢<;>first|exact absurd h (j _ _ _ ai)|exact h.elim
   ·exact absurd h b
  ·rename_i hw;rw[if_neg hw] at h;exact⟨λ _ _=>trivial,g _ _ h⟩
theorem wM{b:List Oper}(m:Nat)(q:zF S=true)(f:∀ k W,G k W->∀ c∈S,c.holds W)(g:∀ k W o,G k W->dN W [] o []->G k o)(hp:rQ (b.take m)=true)(r:∀ w,JL ⟨w,[],⟨n,[]⟩⟩ ops (b.take m) (IN λ E' _=>nn E' F) E S)(s:JY G n ops (b.drop m) R F k):JY G n ops b R E k:=by
 intro a w t p;rw[<- Oa m b];refine qD (Rn:=qv ⟨w,[],⟨n,[]⟩⟩ (IN λ E' _=>nn E' F)) CE (λ e a w h d=>?_) ?_ _ a w hp (r w a w t (xU q (f k w p)))
 ·obtain⟨_,_,_,_,d⟩:=d
  cases e with
  |normal=>exact h rfl
  |_=>exact d
 ·rintro u w' ⟨E',H',i,j,d⟩;exact s u w' (i.ents F d) (g k w w' p (j.mono (λ c v=>by cases v) List.Pairwise.nil))
theorem FG{d:List Oper}{o:Oper}{f:Operand}{args:Array Operand}{ts:Array TypeId}{E':Env}(i:∀ k W,k<nr->G k W->YieldAt Fence.wide 0 Tryz.prog l (x k).toArray W λ e g=>e=.returned (.bool true)/\G (k+1) g)(j:k<nr)
 (m:o.op=.call ⟨.value f,args,ts⟩) (p:o.guard=none) (q:val E f=some (.func (.yield l) #[] #[])) (r:vals E args.toList=some (x k)) (s:w8 ⟨n,[]⟩ o.dst (.bool true) E=some E') (h:JY G n ops d R E' (k+1)):JY G n ops (o::d) R E k:=by
 intro a w b t;obtain⟨fn,tmps,assign,body,u,v⟩:=i k w j t;unfold wpListIn;rw[if_pos (by simp[Region.wanted,p])];refine⟨λ _ _=>trivial,?_⟩
 have y:args.map a.eval=(x k).toArray:=by
  rw[<- b.vals _ _ r];exact Array.ext' ai
 have z:o.semAt Fence.wide.round a.eval=execOp a.eval o:=Oper.semAt_none a.eval o
 have he:(execOp a.eval o).run Tryz.prog w=.ok (.round l fn tmps assign body) w:=by
  simp[execOp,m,resolve,invoke,Deferred.ofValue,b.val q,y,u]
 rw[z,he,Oper.uponIn_round];refine⟨λ A=>(by simp[Fence.wide] at A),v.mono ?_⟩;rintro e g ⟨rfl,c⟩;exact h _ _ (b.putE s) c
theorem Ha(h:∀ a w,gz ⟨n,[]⟩ a E->G k w->R .normal a w):JY G n ops [] R E k:=h
def WG(G:Nat->World->Prop)(n:Nat)(c:Code)(R:Exit->Act->World->Prop)(E:Env)(k:Nat):Prop:=∀ a w,gz ⟨n,[]⟩ a E->G k w->c.wp Tryz.prog R a w
theorem ww{id:Nat}{l:List Oper}(h:JY G n l l R E k):WG G n (.region id l.toArray false) R E k:=λ a w b c=>(wpIn_wide (n:=0)).1 (wpIn_region_lit (h a w b c))
theorem mO{x y:Code}(h:WG G n x (Exit.then (y.wp Tryz.prog R) R) E k):WG G n (.seq x y) R E k:=λ a w b c=>wp_seq (h a w b c)
theorem nk{c:Code}{Q:fb}(o:zF S=true)(d:∀ k W,G k W->∀ c∈S,c.holds W)(f:∀ k W j,G k W->dN W [] j []->G k j)(h:∀ w,J ⟨w,[],⟨n,[]⟩⟩ c Q E S)
 (p:∀ e E' a w',gz ⟨n,[]⟩ a E'->G k w'->(∃ w H',dN w [] w' H'/\Q e E' H')->R e a w'):WG G n c R E k:=by
 intro a w q m;refine wp_mono (h w a w q (xU o (d k w m))) ?_;rintro e r w' ⟨E',H',g,b,i⟩;exact p e E' r w' g (f k w w' m (b.mono (λ c s=>by cases s) List.Pairwise.nil)) ⟨w,H',b,i⟩
end
def jF(W:LN_):LV_:=aj (W.map λ (i:Nat)=>(i:Int))
theorem DC{W:LN_}{k r:Nat}(h:W[k]?=some r):(jF W)[k]?=some (.int .i64 (r:Int)):=ep (by rw[Nk,h];rfl)
theorem zq(A:OA_)(m c:Nat):Fn 277 [.slice A m c] [] [] λ v H'=>∃ b,v=.func (.func 282) #[] #[.pointer (some ⟨b,0,none⟩)]/\H'=[blk b 23 [.slice A m c]]:=by
 refine aT Tryz.func277 λ w0=>?_;refine bu ?_;refine cY λ b=>?_;refine cR ?_;exact bN ⟨_,rfl,b,rfl,rfl⟩
def Fy(W:LN_)(k:Nat):LV_:=[.int .i64 ((W.length-1-k:Nat):Int),.int .i64 ((W.getD (W.length-1-k) 0:Nat):Int)]
theorem Ah(W:LN_)(b g c:Nat)(U:W.length<=100000):K1 282 [.pointer (some ⟨b,0,none⟩)] [.seg b 0 [.slice (some ⟨g,0,none⟩) W.length c],.seg g 0 (jF W)] W.length (Fy W):=by
 intro l G w f o L M;refine calls_of_wp Tryz.func282 rfl ?_;have C:=np (n:=19) (args:=[.func (.yield l) #[] #[],ap b 0]) rfl
 suffices d:WG G 19 _ (bodyPost Tryz.prog _ λ e N=>(∃ v,e=.returned v)/\G W.length N) (pE 0 [.func (.yield l) #[] #[],ap b 0]) 0 from d _ _ C M
 refine mO (nk (Q:=IN λ t _=>nn t [(3,af ((W.length:Int)-1)),(1,ap b 0),(0,.func (.yield l) #[] #[])]) (S:=[.seg b 0 [ax g 0 W.length c],.seg g 0 (jF W)]) rfl f o (λ w=>?_) ?_)
 ·refine aE<|sf ?_;refine az ?_;refine ah ⟨?_,rfl,rfl,an⟩;exact Na some (Na (Value.int .i64) (cp aa))
 ·rintro e t a w' q r ⟨I,H',_,u⟩
  cases e with
  |normal=>
   have q:=q.ents _ u
   clear u
   refine wp_block (wp_loop_ghost (λ m a w=>∃ k,m=W.length-k/\k<=W.length/\gz ⟨19,[]⟩ a [(3,af ((W.length:Int)-1-k)),(1,ap b 0),(0,.func (.yield l) #[] #[])]/\G k w) W.length ⟨0,rfl,Nl _,?_,r⟩ ?_)
   ·have e:(W.length:Int)-1-((0:Nat):Int)=(W.length:Int)-1:=by omega
    rw[e];exact q
   clear q r
   rintro m a w ⟨k,rfl,V,q,r⟩
   suffices d:WG G 19 _ _ [(3,af ((W.length:Int)-1-k)),(1,ap b 0),(0,.func (.yield l) #[] #[])] k from d _ _ q r
   clear q r
   by_cases y:k<W.length
   ·have O:(W.length:Int)-1-k=((W.length-1-k:Nat):Int):=by omega
    obtain⟨j,K⟩:∃ j,W.length-1-k=j:=⟨_,rfl⟩;have z:j<W.length:=aa;have A:W[j]?=some (W.getD j 0):=by rw[Nf,be z];rfl
    rw[O,K];refine mO (nk (Q:=IN λ t _=>nn t [(3,af (j:Int)),(1,ap b 0),(0,.func (.yield l) #[] #[])]) (S:=[.seg b 0 [ax g 0 W.length c],.seg g 0 (jF W)]) rfl f o (λ w=>?_) ?_)
    ·refine ao ?_;exact nd 8 rfl aa<|bF rfl (ag a7)
    ·rintro e P R I p s ⟨_,_,_,u⟩
     cases e with
     |normal=>
      have p:=p.ents _ u
      suffices d:WG G 19 _ _ [(3,af (j:Int)),(1,ap b 0),(0,.func (.yield l) #[] #[])] k from d _ _ p s
      refine mO λ a w q r=>wp_block ?_
      suffices d:WG G 19 _ _ [(3,af (j:Int)),(1,ap b 0),(0,.func (.yield l) #[] #[])] k from d _ _ q r
      refine mO (ww ?_);refine wM (S:=[.seg b 0 [ax g 0 W.length c],.seg g 0 (jF W)]) (F:=[(16,af ((W.getD j 0:Nat):Int)),(12,af (j:Int)),(11,.func (.yield l) #[] #[]),(3,af (j:Int)),(1,ap b 0),(0,.func (.yield l) #[] #[])]) 6 rfl f o rfl (λ w=>?_) ?_
      ·show JL _ _ [_,_,_,_,_,_] _ _ _;refine az ?_;refine sf ?_;refine az ?_;refine aF (bn rfl z) ?_;refine aF (fJ (i:=j) 1 rfl rfl rfl (NR _).symm (DC A)) ?_;exact ah a7
      ·refine FG L y rfl rfl rfl (by unfold Fy;rw[K];rfl) rfl<|wM (S:=[.seg b 0 [ax g 0 W.length c],.seg g 0 (jF W)]) (F:=[(18,.bool false),(3,af (j:Int)),(1,ap b 0),(0,.func (.yield l) #[] #[])]) 1 rfl f o rfl (fun w=>?_) (Ha fun a w q r=>?_)
       ·exact db [] rfl a7
       ·refine wp_cond_false (q.val (x:=.tmp 18) rfl) (wp_skip ?_)
        suffices d:WG G 19 _ _ [(18,.bool false),(3,af (j:Int)),(1,ap b 0),(0,.func (.yield l) #[] #[])] (k+1) from d _ _ q r
        refine nk (Q:=IN λ t _=>nn t [(3,af ((W.length:Int)-1-((k+1:Nat):Int))),(1,ap b 0),(0,.func (.yield l) #[] #[])]) (S:=[.seg b 0 [ax g 0 W.length c],.seg g 0 (jF W)]) rfl f o (λ w=>?_) ?_
        ·refine ao ?_;refine⟨?_,rfl,rfl,an⟩;exact Na some (Na (Value.int .i64) ((cp aa).trans aa))
        ·rintro e X a2 Y D H ⟨_,_,_,B⟩
         cases e with
         |normal=>exact⟨W.length-(k+1),aa,k+1,rfl,y,D.ents _ B,H⟩
         |_=>exact B.elim
     |_=>exact u.elim
   ·obtain rfl:k=W.length:=by omega
    refine mO (nk (Q:=λ e _ _=>e=.exit 0) (S:=[.seg b 0 [ax g 0 W.length c],.seg g 0 (jF W)]) rfl f o (λ w=>?_) ?_)
    ·refine ao ?_;exact lQ 8 rfl aa<|bo rfl (aO rfl)
    ·rintro e P R I p s ⟨_,_,_,rfl⟩;simp only[Exit.then,Exit.inBlock,O7];exact⟨p.defers,_,jH (E:=[]) (p.ents [] an) rfl _,⟨_,rfl⟩,s⟩
  |_=>exact u.elim
variable {pf gn cap N:Nat}
theorem Up.get{ns:cH}:∀ {path:LN_} {x i y:Nat},Up ns x path->path[i]?=some y->(ns y).up=path[i+1]?
 |[],_,_,_,h,_=>h.elim
 |[z],x,0,y,⟨b,c⟩,a=>by
  simp only[Ok,Nc] at a;subst a;subst b;simpa using c
 |[z],x,i+1,y,_,a=>by simp at a
 |z::d::l,x,0,y,⟨b,c,_⟩,a=>by
  simp only[Ok,Nc] at a;subst a;subst b;simpa using c
 |z::d::l,x,i+1,y,⟨_,_,e⟩,a=>by
  have:=Up.get (i:=i) (y:=y) e (by simpa using a)
  simpa using this
theorem Up.head{ns:cH}{path:LN_}{x:Nat}(h:Up ns x path):path[0]?=some x:=by
 match path,h with
 |[z],⟨a,_⟩=>rw[a];rfl
 |z::_::_,⟨a,_⟩=>rw[a];rfl
theorem uS(ns:cH):∀ (l:LN_) (x:Nat),fT ns (l++[x])=fk (fT ns l) x
 |[],_=>rfl
 |y::l,x=>uS (fk ns y) l x
theorem AH(W:LN_)(i:Nat)(y:Nat)(h:W[i]?=some y):jF (W.take i)++aj [(y:Int)]=jF (W.take (i+1)):=by
 rw[Nu,h];simp[jF,aj]
theorem GD(k:Nat)(ns:cH)(Z:eM N ns)(x:Nat)(hx:x<N)(path:LN_)(Y:Up ns x path)(hr:path.length<=10000)(e:cH)(k1:Nat)(hR:Fi (fT ns path.reverse) x e k1):
 Fn 264 [.pointer (some ⟨pf,0,none⟩),.int .i64 (x:Int)] (aC (bT pf gn cap N k ns)) ([]++bT pf gn cap N k ns) λ _ H'=>H'=bT pf gn cap N (k+(path.length+k1)) e:=by
 have o:=Y.lt Z hx
 generalize hM:aC _=M
 refine In Tryz.func264 rfl rfl λ w0=>pI (aE ?_);refine cY λ t=>?_;refine ah<|pI (aE ?_);refine az ?_;refine dp λ pg=>?_;refine lx 1 1 rfl ab<|az ?_;refine ah<|pI (am (aE ?_));have C:=Y.head;have hlen:0<path.length:=(Ng.1 C).1
 (repeat' (first|refine cE (gs:=[999]) rfl ?_|refine ae [999] (ad 1 rfl) rfl ?_|refine ae [999] (ad 2 rfl) rfl ?_|refine ae [999] (et rfl bH) rfl ?_|refine ae [999] (dJ 3 rfl rfl rfl rfl rfl bH rfl rfl) rfl ?_))
 refine ah ?_;have e1:(Value.int IntKind.i64 (x:Int)).cells.toList++[]=jF (path.take (0+1)):=by rw[Nu,C];rfl
 rw[e1];refine bD 5 (v':=af (enc path[0+1]?)) rfl (Na (λ c=>af (enc c)) (Y.get C))<|aq<|?_
 refine bP (σ:=Nat×OA_×Nat) (λ s=>[(5,af (enc path[s.1+1]?)),(4,.slice s.2.1 (s.1+1) s.2.2),(2,ap t 0),(1,af (x:Int)),(0,ap pf 0)])
  (λ s=>[.own (.slice s.2.1 (s.1+1) s.2.2) 3 1 (s.1+1) (jF (path.take (s.1+1))),blk t 315 [ap pf 0]]++bT pf gn cap N k ns) (λ s=>s.1<path.length) (λ s=>path.length-s.1) (0,aL pg 0,1) [0,1,2,3] a7 ab rfl hlen ?_
 rintro⟨i,A,c⟩ hi;simp only at hi ⊢;refine ao ?_
 cases u:path[i+1]? with
 |some y=>
  have L:=o y (Nb u);have B:i+1<path.length:=(Ng.1 u).1;refine bD 20 (v':=.bool true) rfl (Na Value.bool (aQ (by simp[enc]))) (bF rfl (ag ?_));refine am (aq ?_);refine aI ?_;refine dp λ g4=>?_;refine bx (n:=i+1) (m:=1) (off:=0) (news:=aj [(y:Int)]) 1 0 rfl rfl rfl rfl rfl rfl ab rfl rfl (aS g4 _ _ (0,0)) aK rfl rfl aa aa (λ _ _=>rfl) λ A4 c4=>?_;rw[AH path (i+1) y u];refine az ?_;refine ah ?_;show J _ _ _ _ ([_,_,_]++bT pf gn cap N k ns);refine bu ?_
  (repeat' (first|refine cE (gs:=[999]) rfl ?_|refine ae [999] (ad 2 rfl) rfl ?_|refine ae [999] (ad 3 rfl) rfl ?_|refine ae [999] (et rfl bH) rfl ?_|refine ae [999] (dJ 4 rfl rfl rfl rfl rfl bH rfl rfl) rfl ?_))
  exact ah<|⟨(i+1,A4,c4),[1,2,3,4],⟨Na some (Na (λ c=>af (enc c)) (Y.get u)),rfl,rfl,rfl,rfl,an⟩,ab,rfl,B,by simp only;omega⟩
 |none=>
  have B:i+1=path.length:=by have:=List.getElem?_eq_none_iff.1 u;omega
  refine bD 20 (v':=.bool false) rfl (Na Value.bool (aU (by simp[enc]))) (bo rfl (aO ?_));rw[B,NH];show W _ _ _ _ ([_,_]++bT pf gn cap N k ns)
  clear hi u B
  refine Ic ?_;intro a w O F
  obtain⟨f,rfl⟩:∃ f,A=aL f 0:=by
   obtain⟨_,_,h3,_⟩:=aH (X:=⟨w0,M,⟨82,[]⟩⟩) 0 rfl w F;exact h3 hlen
  revert a w O F
  suffices hW:W ⟨w0,M,⟨82,[]⟩⟩ _ _ [(4,ax f 0 path.length c),(2,ap t 0),(1,af (x:Int))] ([.own (ax f 0 path.length c) 3 1 path.length (jF path),blk t 315 [ap pf 0]]++bT pf gn cap N k ns) from
   λ a w O F=>hW a w (O.ents _ a7) F
  refine pI (aE ?_);refine az ?_;refine eW (zq (aL f 0) path.length c) rfl an ?_;rintro v H' ⟨P,rfl,rfl⟩;refine ah<|Ca<|?_
  refine Jt (nr:=path.length) (x:=Fy path) (gf:=282) (lb:=[ap P 0]) (S:=[.seg P 0 [ax f 0 path.length c],.seg f 0 (jF path)])
   (λ i=>[blk P 23 [ax f 0 path.length c],.own (ax f 0 path.length c) 3 1 path.length (jF path),blk t 315 [ap pf 0]]++bT pf gn cap N (k+i) (fT ns (path.reverse.take i)))
   rfl aX (Ah path P f c aa) (λ i _=>rfl) rfl ?_ ?_ ?_
  ·intro i W h ch Q;simp only[Nn,Nt,or_false] at Q
   rcases Q with rfl|rfl
   ·exact aS _ _ _ _ W (h.holds (blk P 23 [ax f 0 path.length c]) ai)
   ·exact ca W (h.holds (.own (ax f 0 path.length c) 3 1 path.length (jF path)) ai)
  ·intro r D i hb hf hi;refine jq rfl<|db [] rfl ⟨rfl,?_⟩
   have l:path.reverse[i]?=some (path.getD (path.length-1-i) 0):=by
    rw[List.getElem?_reverse hi,Nf,be aa];rfl
   obtain⟨y,u⟩:∃ y,path.getD (path.length-1-i) 0=y:=⟨_,rfl⟩;rw[u] at l;have L:y<N:=o y (by have:=Nb l;simpa using this);have h1:eM N (fT ns (path.reverse.take i)):=Z.pushes λ z hz=>o z (by have:=Oi hz;simpa using this);refine yI (jq rfl ?_);refine bj (v:=ap pf 0) 4 ?_;refine az ?_;refine aA 38 (v':=af (y:Int)) rfl (Na (λ z:Nat=>af (z:Int)) u)<|cD (ay.re (A:=[_,_,_,_,_]++bT pf gn cap N (k+i) (fT ns (path.reverse.take i))) (R:=[]) [5,6,0,1,2,3,4] rfl ab)<|dI (lL (k+i) _ h1 y L) rfl ay.refl an ?_;rintro v H' rfl;refine⟨rfl,ah ⟨[2,3,4,5,6,0,1],ab,?_⟩⟩;rw[Nu,l];show _=some (_::_::([_,_,_]++bT pf gn cap N (k+i+1) (fT ns (path.reverse.take i++[y]))));rw[uS];rfl
  ·intro D a w O F;have I:path.reverse.take path.length=path.reverse:=List.take_of_length_le ai;rw[I] at F;show Code.wp Tryz.prog _ _ a w;refine KC (fn:=Tryz.f264) (E:=[(2,ap t 0),(1,af (x:Int))]) (H:=bT pf gn cap N (k+path.length) (fT ns path.reverse)++[.obj D ua,blk t 315 [ap pf 0]]) (D:=D) (Rr:=fun _ H'=>H'=bT pf gn cap N (k+(path.length+k1)) e) ?_ (O.ents _ a7) (F.picks [4,5,0,3] ab rfl);have h2:eM N (fT ns path.reverse):=Z.pushes fun z hz=>o z (by simpa using hz);refine aq ?_
   refine bP (σ:=cH×Nat) (λ _=>[(2,ap t 0),(1,af (x:Int))])
    (λ s=>bT pf gn cap N (k+path.length+(k1-s.2)) s.1++[.obj D ua,blk t 315 [ap pf 0]]) (λ s=>eM N s.1/\Fi s.1 x e s.2/\s.2<=k1) (λ s=>s.2) (fT ns path.reverse,k1) [0,1,2,3] a7 ab ?_ ⟨h2,hR,Nr _⟩ ?_
   ·simp only[OE,OZ];rfl
   rintro⟨m,j⟩ ⟨hNm,U,hj⟩;simp only at hNm U hj ⊢;refine Fo ?_
   cases U with
   |done hup=>
    refine bD 48 (v':=.bool false) rfl (Na Value.bool (aU (by show ¬ enc (e x).up≠-1;rw[hup];simp[enc]))) (bo rfl (aO ?_));refine⟨.inl rfl,bT pf gn cap N (k+path.length+(k1-0)) e,[2,0,1],ab,rfl,[],rfl,?_⟩;show _=bT _ _ _ _ _ _;rw[show k+path.length+(k1-0)=k+(path.length+k1) by omega]
   |one hup hup2 b=>
    rename_i p j;have hpN:p<N:=by have:=hNm.up x hx;rw[hup] at this;exact this
    refine bD 48 (v':=.bool true) rfl (Na Value.bool (aQ (by show enc (m x).up≠-1;rw[hup];simp[enc]))) (bF rfl (ag ?_));refine B0 ?_;refine bD 65 (v':=.bool false) rfl (Na Value.bool (aU (by show ¬ enc (m p).up≠-1;rw[hup2];simp[enc]))) (bo rfl (ag ?_))
    (repeat' (first|refine am ?_|refine ag ?_|refine bF rfl ?_|refine bo rfl ?_))
    refine aE<|bj 3 ?_;refine bp [] ?_;refine dI (l7 _ m hNm x p hx hup) rfl ay.refl an ?_;rintro v H' rfl;refine⟨rfl,ah ?_⟩;refine⟨(ef m x p,j),[0,1,2,3],a7,ab,?_,⟨hNm.rotate hx hpN,b,aa⟩,by simp only;omega⟩;show some (bT _ _ _ _ (k+path.length+(k1-(j+1))+1) _++_)=_;rw[show k+path.length+(k1-(j+1))+1=k+path.length+(k1-j) by omega]
   |line hup hup2 hs V b=>
    rename_i p g q j;have hpN:p<N:=by have:=hNm.up x hx;rw[hup] at this;exact this
    refine bD 48 (v':=.bool true) rfl (Na Value.bool (aQ (by show enc (m x).up≠-1;rw[hup];simp[enc]))) (bF rfl (ag ?_));refine B0 ?_;refine bD 65 (v':=.bool true) rfl (Na Value.bool (aQ (by show enc (m p).up≠-1;rw[hup2];simp[enc]))) (bF rfl ?_);refine KX ?_;refine gA ?_;refine bD 72 (v':=.bool true) rfl (Na Value.bool (aQ (by rw[hs]))) (bF rfl ?_);have hv:g<N:=by have:=hNm.up p hpN;rw[hup2] at this;exact this
    have d:=hNm.rotate hpN hv;refine BV ?_;refine dI (l7 _ m hNm p g hpN hup2) rfl ay.refl an ?_;rintro v H' rfl;refine⟨rfl,ah ?_⟩
    (repeat' (first|refine am ?_|refine ag ?_|refine bF rfl ?_|refine bo rfl ?_))
    refine aE<|bj 3 ?_;refine bp [] ?_;refine dI (l7 _ (ef m p g) d x q hx V) rfl ay.refl an ?_;rintro v H' rfl;refine⟨rfl,ah ?_⟩;have K:q<N:=by have:=d.up x hx;rw[V] at this;exact this
    refine⟨(ef (ef m p g) x q,j),[0,1,2,3],a7,ab,?_,⟨d.rotate hx K,b,aa⟩,by simp only;omega⟩;show some (bT _ _ _ _ (k+path.length+(k1-(j+2))+1+1) _++_)=_;rw[show k+path.length+(k1-(j+2))+1+1=k+path.length+(k1-j) by omega]
   |bent hup hup2 hs V b=>
    rename_i p g q j;have hpN:p<N:=by have:=hNm.up x hx;rw[hup] at this;exact this
    refine bD 48 (v':=.bool true) rfl (Na Value.bool (aQ (by show enc (m x).up≠-1;rw[hup];simp[enc]))) (bF rfl (ag ?_));refine B0 ?_;refine bD 65 (v':=.bool true) rfl (Na Value.bool (aQ (by show enc (m p).up≠-1;rw[hup2];simp[enc]))) (bF rfl ?_);refine KX ?_;refine gA ?_;refine bD 72 (v':=.bool false) rfl (Na Value.bool (aU aa)) (bo rfl ?_);have d:=hNm.rotate hx hpN;refine BV ?_;refine dI (l7 _ m hNm x p hx hup) rfl ay.refl an ?_;rintro v H' rfl;refine⟨rfl,ah ?_⟩;refine BV ?_;refine dI (l7 _ (ef m x p) d x q hx V) rfl ay.refl an ?_;rintro v H' rfl;refine⟨rfl,ah ?_⟩;have K:q<N:=by have:=d.up x hx;rw[V] at this;exact this
    refine⟨(ef (ef m x p) x q,j),[0,1,2,3],a7,ab,?_,⟨d.rotate hx K,b,aa⟩,by simp only;omega⟩;show some (bT _ _ _ _ (k+path.length+(k1-(j+2))+1+1) _++_)=_;rw[show k+path.length+(k1-(j+2))+1+1=k+path.length+(k1-j) by omega]
variable {pf gn cap N:Nat}
theorem eY(k:Nat)(ns:cH)(b:eM N ns)(x:Nat)(c:x<N)(a:cH)(j:Nat)(h:gt ns x a j):
 Fn 264 [.pointer (some ⟨pf,0,none⟩),.int .i64 (x:Int)] (aC (bT pf gn cap N k ns)) ([]++bT pf gn cap N k ns) λ _ H'=>H'=bT pf gn cap N (k+j) a:=by
 obtain⟨path,k1,d,e,f,rfl⟩:=h;exact GD k ns b x c path d e a k1 f
theorem iC(k:Nat)(ns:cH)(x:Nat)(a:x<N):Fn 263 [.pointer (some ⟨pf,0,none⟩),.int .i64 (x:Int)] (aC (bT pf gn cap N k ns)) ([]++bT pf gn cap N k ns)
 λ v H'=>v=.bool true/\H'=bT pf gn cap N k ns:=by
 generalize hM:aC _=M
 refine aT Tryz.func263 λ w0=>?_;refine c9 ?_;refine dt 7 rfl aa<|io ?_;exact nd 4 rfl aa<|j0
theorem tt(k:Nat)(ns:cH)(l:eM N ns)(x:Nat)(n:x<N)(s:Nat)(o:s<2)(b:cH)(y j:Nat)(h:LR s ns x b y j):
 Fn 265 [.pointer (some ⟨pf,0,none⟩),.int .i64 (x:Int),.int .i64 (s:Int)] (aC (bT pf gn cap N k ns)) ([]++bT pf gn cap N k ns) λ v H'=>v=.int .i64 (y:Int)/\H'=bT pf gn cap N (k+j) b:=by
 obtain⟨d,k1,u,q,w,rfl⟩:=h
 generalize hM:aC _=M
 refine aT Tryz.func265 λ w0=>?_;refine ao ?_;refine fN [(1,af (y:Int)),(0,ap pf 0)] (bT pf gn cap N (k+k1) d) ?_ ?_
 ·refine aq ?_
  refine bP (σ:=cH×Nat×Nat) (λ t=>[(2,af (s:Int)),(1,af (t.2.1:Int)),(0,ap pf 0)])
   (λ t=>bT pf gn cap N (k+(k1-t.2.2)) t.1) (λ t=>eM N t.1/\t.2.1<N/\L0 s t.1 t.2.1 d y t.2.2/\t.2.2<=k1) (λ t=>t.2.2) (ns,x,k1) [0,1] a7 ab ?_ ⟨l,n,q,Nr _⟩ ?_
  ·simp only[OE,OZ];rfl
  rintro⟨m,z,j⟩ ⟨a,r,e,A⟩;simp only at a r e A ⊢;refine iM ?_;refine aF (bi rfl o) ?_;refine io ?_
  cases e with
  |done B=>
   refine bD 17 (v':=.bool false) rfl (Na Value.bool (aU (by rw[B];simp[enc]))) (bo rfl (aO ?_));exact qm
  |go g C=>
   rename_i c j;have f:=a.down r s;rw[g] at f;refine bD 17 (v':=.bool true) rfl (Na Value.bool (aQ (by rw[g];simp[enc]))) (bF rfl (ag ?_));refine aq<|iM ?_;refine aF (bi rfl o) ?_;refine io ?_;refine bD 1 (v':=af (c:Int)) rfl (Na (Value.int .i64) (gT g))<|aI ?_;refine dI (lL _ m a c f) rfl ay.refl an ?_;rintro v H' rfl;refine⟨rfl,ah ?_⟩;refine⟨(fk m c,c,j),[0,1],a7,ab,?_,⟨a.push f,f,C,by show j<=k1;omega⟩,by show j<j+1;omega⟩;show some (bT _ _ _ _ (k+(k1-(j+1))+1) _)=_;rw[show k+(k1-(j+1))+1=k+(k1-j) by omega]
 ·obtain⟨i,D⟩:=eM.dwn q n l;refine aI ?_;refine dI (eY _ _ i _ D _ _ w) rfl ay.refl an ?_;rintro v H' rfl;refine⟨rfl,ah ?_⟩;refine ao ?_;refine bN ⟨_,rfl,rfl,?_⟩;show bT _ _ _ _ (k+k1+u) _=_;rw[N7]
theorem ET(k:Nat)(ns:cH)(d:eM N ns)(x:Nat)(b:x<N)(a:cH)(y j:Nat)(h:Edge 0 ns x a y j):
 Fn 274 [.pointer (some ⟨pf,0,none⟩),.int .i64 (x:Int)] (aC (bT pf gn cap N k ns)) ([]++bT pf gn cap N k ns) λ v H'=>v=.int .i64 (y:Int)/\H'=bT pf gn cap N (k+j) a:=by
 obtain⟨c,k1,e,f,hE,rfl⟩:=h
 generalize hM:aC _=M
 refine aT Tryz.func274 λ w0=>?_
 (repeat' (first|refine am ?_|refine ag ?_|refine bF rfl ?_|refine bo rfl ?_))
 refine aE<|cW [] ?_
 (repeat' (first|refine am ?_|refine ag ?_|refine bF rfl ?_|refine bo rfl ?_))
 refine aE<|bp [] ?_;refine iy (iC _ _ _ b) rfl ay.refl an ?_
 (repeat' (first|refine ah ?_|refine cE (gs:=[999]) rfl ?_|refine ae [999] (ad 0 rfl) rfl ?_|refine ae [999] (et rfl bH) rfl ?_|refine ae [999] (bi (m:=0) rfl ab) rfl ?_|refine ae [999] (bi (m:=1) rfl ab) rfl ?_|refine ae [999] (eB 1 rfl rfl rfl rfl bH bH) rfl ?_|refine ae [999] (dJ 1 rfl rfl rfl rfl rfl bH rfl rfl) rfl ?_))
 (repeat' (first|refine am ?_|refine ag ?_|refine bF rfl ?_|refine bo rfl ?_))
 (repeat' (first|refine am ?_|refine ag ?_|refine bF rfl ?_|refine bo rfl ?_))
 refine aE<|bp [] ?_;refine dI (eY _ _ d _ b _ _ f) rfl ay.refl an ?_;rintro v H' rfl;refine⟨rfl,ah ?_⟩
 (repeat' (first|refine am ?_|refine ag ?_|refine bF rfl ?_|refine bo rfl ?_))
 refine aE<|bp [] ?_;refine iy (tt _ c (d.splay b f) x b 0 ab a y e hE) rfl ay.refl an ?_;refine io ?_;refine cq ?_;refine bN ⟨_,rfl,rfl,?_⟩;show bT _ _ _ _ (k+k1+e) _=_;rw[N7]
theorem uo(k:Nat)(ns:cH)(d:eM N ns)(x:Nat)(b:x<N)(a:cH)(y j:Nat)(h:Edge 1 ns x a y j):
 Fn 251 [.pointer (some ⟨pf,0,none⟩),.int .i64 (x:Int)] (aC (bT pf gn cap N k ns)) ([]++bT pf gn cap N k ns) λ v H'=>v=.int .i64 (y:Int)/\H'=bT pf gn cap N (k+j) a:=by
 obtain⟨c,k1,e,f,hE,rfl⟩:=h
 generalize hM:aC _=M
 refine aT Tryz.func251 λ w0=>?_
 (repeat' (first|refine am ?_|refine ag ?_|refine bF rfl ?_|refine bo rfl ?_))
 refine aE<|cW [] ?_
 (repeat' (first|refine am ?_|refine ag ?_|refine bF rfl ?_|refine bo rfl ?_))
 refine aE<|bp [] ?_;refine iy (iC _ _ _ b) rfl ay.refl an ?_
 (repeat' (first|refine ah ?_|refine cE (gs:=[999]) rfl ?_|refine ae [999] (ad 0 rfl) rfl ?_|refine ae [999] (et rfl bH) rfl ?_|refine ae [999] (bi (m:=0) rfl ab) rfl ?_|refine ae [999] (bi (m:=1) rfl ab) rfl ?_|refine ae [999] (eB 1 rfl rfl rfl rfl bH bH) rfl ?_|refine ae [999] (dJ 1 rfl rfl rfl rfl rfl bH rfl rfl) rfl ?_))
 (repeat' (first|refine am ?_|refine ag ?_|refine bF rfl ?_|refine bo rfl ?_))
 (repeat' (first|refine am ?_|refine ag ?_|refine bF rfl ?_|refine bo rfl ?_))
 refine aE<|bp [] ?_;refine dI (eY _ _ d _ b _ _ f) rfl ay.refl an ?_;rintro v H' rfl;refine⟨rfl,ah ?_⟩
 (repeat' (first|refine am ?_|refine ag ?_|refine bF rfl ?_|refine bo rfl ?_))
 refine aE<|bp [] ?_;refine iy (tt _ c (d.splay b f) x b 1 ab a y e hE) rfl ay.refl an ?_;refine io ?_;refine cq ?_;refine bN ⟨_,rfl,rfl,?_⟩;show bT _ _ _ _ (k+k1+e) _=_;rw[N7]
variable {pf gn cap N:Nat}
theorem Gz(k:Nat)(ns:cH)(b:eM N ns)(x:Nat)(hx:x<N)(a:cH)(j:Nat)(h:gt ns x a j):
 Fn 266 [.pointer (some ⟨pf,0,none⟩),.int .i64 (x:Int)] (aC (bT pf gn cap N k ns)) ([]++bT pf gn cap N k ns) λ v H'=>v=.int .i64 (a x).value/\H'=bT pf gn cap N (k+j) a:=by
 generalize hM:aC _=M
 refine aT Tryz.func266 λ w0=>?_;refine Fw ?_;refine dI (eY _ _ b _ hx _ _ h) rfl ay.refl an ?_;rintro v H' rfl;refine⟨rfl,ah ?_⟩
 (repeat' (first|refine am ?_|refine ag ?_|refine bF rfl ?_|refine bo rfl ?_))
 refine aE ?_
 (repeat' (first|refine ah ?_|refine cE (gs:=[999]) rfl ?_|refine ae [999] (ad 0 rfl) rfl ?_|refine ae [999] (et rfl bH) rfl ?_|refine ae [999] (bi (m:=0) rfl ab) rfl ?_|refine ae [999] (bi (m:=1) rfl ab) rfl ?_|refine ae [999] (eB 1 rfl rfl rfl rfl bH bH) rfl ?_|refine ae [999] (dJ 1 rfl rfl rfl rfl rfl bH rfl rfl) rfl ?_))
 refine cq ?_;exact j0
theorem yA(k:Nat)(ns:cH)(c:eM N ns)(x:Nat)(b:x<N)(a:cH)(j:Nat)(h:gt ns x a j):
 Fn 267 [.pointer (some ⟨pf,0,none⟩),.int .i64 (x:Int)] (aC (bT pf gn cap N k ns)) ([]++bT pf gn cap N k ns) λ _ H'=>H'=bT pf gn cap N (k+j) (iY a (some x) 0 true):=by
 generalize hM:aC _=M
 refine aT Tryz.func267 λ w0=>?_;refine aI ?_;refine iy (iC _ _ _ b) rfl ay.refl an ?_;refine io ?_;refine cq ?_;refine aI ?_;refine dI (eY _ _ c _ b _ _ h) rfl ay.refl an ?_;rintro v H' rfl;refine⟨rfl,ah ?_⟩
 (repeat' (first|refine am ?_|refine ag ?_|refine bF rfl ?_|refine bo rfl ?_))
 refine aE<|bp [] ?_;refine dI (tv _ a (some x) b 0 true) rfl ay.refl an ?_;rintro v H' rfl;refine⟨rfl,ah ?_⟩;exact⟨_,rfl,rfl⟩
theorem v6(k:Nat)(ns:cH)(n:eM N ns)(x:Nat)(hx:x<N)(a:cH)(j:Nat)(h:gt ns x a j):
 Fn 273 [.pointer (some ⟨pf,0,none⟩),.int .i64 (x:Int)] (aC (bT pf gn cap N k ns)) ([]++bT pf gn cap N k ns) λ _ H'=>H'=bT pf gn cap N (k+j) (match (a x).l with
  |none=>a
  |some c=>ik (jw (jw a c { a c with up:=none }) x (dF (jw a c { a c with up:=none } x) 0 none)) x):=by
 have b:=n.splay hx h
 generalize hM:aC _=M
 refine aT Tryz.func273 λ w0=>?_;refine Fw ?_;refine dI (eY _ _ n _ hx _ _ h) rfl ay.refl an ?_;rintro v H' rfl;refine⟨rfl,ah ?_⟩
 (repeat' (first|refine am ?_|refine ag ?_|refine bF rfl ?_|refine bo rfl ?_))
 refine aE ?_
 (repeat' (first|refine ah ?_|refine cE (gs:=[999]) rfl ?_|refine ae [999] (ad 0 rfl) rfl ?_|refine ae [999] (et rfl bH) rfl ?_|refine ae [999] (bi (m:=0) rfl ab) rfl ?_|refine ae [999] (bi (m:=1) rfl ab) rfl ?_|refine ae [999] (eB 1 rfl rfl rfl rfl bH bH) rfl ?_|refine ae [999] (dJ 1 rfl rfl rfl rfl rfl bH rfl rfl) rfl ?_))
 refine ao ?_
 cases hl:(a x).l with
 |none=>
  refine bD 23 (v':=.bool false) rfl (Na Value.bool (aU (by show ¬ enc (a x).l≠-1;rw[hl];simp[enc]))) (bo rfl (ag ?_));refine ao ?_;exact bN ⟨_,rfl,rfl⟩
 |some c=>
  have o:=b.l x hx;rw[hl] at o;have e:c<N:=o;refine bD 23 (v':=.bool true) rfl (Na Value.bool (aQ (by show enc (a x).l≠-1;rw[hl];simp[enc]))) (bF rfl ?_);refine bD 5 (v':=af (c:Int)) rfl (Na (Value.int .i64) (gT hl)) ?_;have g:=b.upd (x:=c) (d:={ a c with up:=none }) an (b.l c e) (b.r c e);have i:=g.setDown hx (c:=none) an 0;refine cq ?_;refine fZ 17 [0,1,2,3,4,5,6,7,8,9,10,11,13,14] 12 [(15,true),(16,false)] aX<|zt ?_;refine dO (f:=0) (v:=af (enc none)) 1 { a c with up:=none } rfl rfl rfl rfl rfl rfl rfl e rfl rfl [] rfl<|b6 []<|?_
  (repeat' (first|refine eJ (gs:=[999]) rfl rfl ?_|refine aG [999] rfl (et rfl bH) rfl ?_|refine aG [999] rfl (bi (m:=0) rfl ab) rfl ?_))
  refine cz ?_;refine tZ (s:=0) (c:=none) 1 rfl rfl rfl rfl rfl hx ab [] rfl<|b6 []<|gA ?_;show J _ _ _ _ (bT pf gn cap N (k+j) (jw (jw a c { a c with up:=none }) x (dF (jw a c { a c with up:=none } x) 0 none)));refine aI ?_;refine dI (tA _ _ i x hx) rfl ay.refl an ?_;rintro v H' rfl;refine⟨rfl,ah ?_⟩;refine ao ?_;exact bN ⟨_,rfl,rfl⟩
theorem I3{X:Cx}{E:Env}{H:Heap}{o:Oper}{g x N cap:Nat}{d:Operand}{ns:cH}(k:Nat)(e:o.op=.load 334 d)(h:val E d=some (.pointer (some ⟨g,x*9,none⟩)))
 (i:H[k]?=some (.own (.slice (some ⟨g,0,none⟩) N cap) 334 9 N (iF N ns))) {fs:List (Nat×Nat×Nat)} {a:Nat} {z:Option Value} (j:tab 334=some ⟨.struct fs,9,a,z⟩) (b:x<N):i8 X o E H (.agg (fM (ns x)).toArray):=by
 refine aw k e h i ?_;unfold fQ;rw[j];have m:∀ f,f<9->(iF N ns)[x*9+f]?=(fM (ns x))[f]?:=λ f c=>kC b c
 have key:∀ n f,f+n=9->eI (iF N ns) (x*9+f) n=some ((fM (ns x)).drop f):=by
  intro n
  induction n with
  |zero=>intro f c;obtain rfl:f=9:=by omega
         rfl
  |succ n p=>
   intro f c;unfold eI;have hl:f<(fM (ns x)).length:=by show f<9;omega
   rw[m f aa,be hl];show (match eI (iF N ns) (x*9+(f+1)) n with|some l=>some (_::l)|none=>none)=_;rw[p (f+1) aa,N5 hl]
 have:=key 9 0 rfl;show (match eI (iF N ns) (x*9) 9 with|some l=>some (Value.agg l.toArray)|none=>none)=_;rw[show x*9=x*9+0 from rfl,this];rfl
theorem JD(k:Nat)(ns:cH)(f:eM N ns)(x:Nat)(hx:x<N)(a:cH)(j:Nat)(h:gt ns x a j)(d:Int)(g:-9223372036854775808<=d/\d<=9223372036854775807)(c:0<=d->(a x).most<=4611686018427387904-d)(e:d<0→-4611686018427387904-d<=(a x).least):
 Fn 269 [.pointer (some ⟨pf,0,none⟩),.int .i64 (x:Int),.int .i64 d] (aC (bT pf gn cap N k ns)) ([]++bT pf gn cap N k ns) λ _ H'=>H'=bT pf gn cap N (k+j) (iY a (some x) d false):=by
 generalize hM:aC _=M
 refine aT Tryz.func269 λ w0=>?_;refine Fw ?_;refine dI (eY _ _ f _ hx _ _ h) rfl ay.refl an ?_;rintro v H' rfl;refine⟨rfl,ah ?_⟩
 (repeat' (first|refine am ?_|refine ag ?_|refine bF rfl ?_|refine bo rfl ?_))
 refine aE ?_
 (repeat' (first|refine ah ?_|refine cE (gs:=[999]) rfl ?_|refine ae [999] (ad 0 rfl) rfl ?_|refine ae [999] (et rfl bH) rfl ?_|refine ae [999] (bi (m:=0) rfl ab) rfl ?_|refine ae [999] (bi (m:=1) rfl ab) rfl ?_|refine ae [999] (eB 1 rfl rfl rfl rfl bH bH) rfl ?_|refine ae [999] (dJ 1 rfl rfl rfl rfl rfl bH rfl rfl) rfl ?_))
 refine aF (I3 1 rfl rfl rfl rfl hx) ?_;refine dD λ p7=>?_;refine iA ?_;by_cases b:0<=d
 ·have c:=c b;refine aI ?_;refine dt 24 rfl b<|io ?_;refine dc 31 rfl (by rw[cp aa];omega)<|io ?_;refine dc 34 rfl aa<|io ?_
  (repeat' (first|refine am ?_|refine ag ?_|refine bF rfl ?_|refine bo rfl ?_))
  refine bS (ay.re (A:=[_]++bT pf gn cap N (k+j) a) (R:=[]) [1,2] rfl ab) ?_
  (repeat' (first|refine am ?_|refine ag ?_|refine bF rfl ?_|refine bo rfl ?_))
  refine aE<|bp [] ?_;refine dI (tv _ a (some x) hx d false) rfl ay.refl an ?_;rintro v H' rfl;refine⟨rfl,ah ?_⟩
  (repeat' (first|refine am ?_|refine ag ?_|refine bF rfl ?_|refine bo rfl ?_))
  refine aE<|cW [] ?_;exact bN ⟨_,rfl,rfl⟩
 ·have e:=e aa;refine aI ?_;refine dc 24 rfl b<|io ?_;refine dt 34 rfl aa<|io ?_;refine lQ 41 rfl (by rw[cp aa];omega) ?_
  (repeat' (first|refine am ?_|refine ag ?_|refine bF rfl ?_|refine bo rfl ?_))
  refine bS (ay.re (A:=[_]++bT pf gn cap N (k+j) a) (R:=[]) [1,2] rfl ab) ?_
  (repeat' (first|refine am ?_|refine ag ?_|refine bF rfl ?_|refine bo rfl ?_))
  refine aE<|bp [] ?_;refine dI (tv _ a (some x) hx d false) rfl ay.refl an ?_;rintro v H' rfl;refine⟨rfl,ah ?_⟩
  (repeat' (first|refine am ?_|refine ag ?_|refine bF rfl ?_|refine bo rfl ?_))
  refine aE<|cW [] ?_;exact bN ⟨_,rfl,rfl⟩
variable {pf gn cap N:Nat}
def ux(ns:cH)(a b:Nat)(ns':cH)(k:Nat):Prop:=∃ n1 n2 n3 n4 k1 k2 k3 k4 a' b',gt ns a n1 k1/\gt n1 b n2 k2/\(n2 a).up=none/\LR 1 n2 a n3 a' k3/\LR 0 n3 b n4 b' k4/\ns'=ik (gy n4 (some a') b' 0) b'/\k=k1+k2+k3+k4
theorem Jr(k:Nat)(ns:cH)(y:eM N ns)(a b:Nat)(e:a<N)(f:b<N)(H:a≠b)(g:cH)(j:Nat)(h:ux ns a b g j):
 Fn 262 [.pointer (some ⟨pf,0,none⟩),.int .i64 (a:Int),.int .i64 (b:Int)] (aC (bT pf gn cap N k ns)) ([]++bT pf gn cap N k ns) λ _ H'=>H'=bT pf gn cap N (k+j) g:=by
 obtain⟨I,z,A,B,k1,s,q,r,t,u,C,D,w,E,F,rfl,rfl⟩:=h;have i:=y.splay e C;have l:=i.splay f D;obtain⟨n,o⟩:=l.end_ e E;obtain⟨p,d⟩:=n.end_ f F;have x:=p.hang (c:=some t) o d 0
 generalize hM:aC _=M
 refine aT Tryz.func262 λ w0=>?_;refine jN ?_;refine aI ?_;refine iy (iC _ _ _ e) rfl ay.refl an ?_;refine io ?_;refine bK [999] (iC _ _ _ f) rfl rfl rfl rfl aX ay.refl an aK<|kD ?_;refine io ?_;refine cq ?_;refine ao ?_;refine bD 18 (v':=.bool false) rfl (Na Value.bool (aU aa)) (bo rfl (ag ?_));show J _ _ _ _ (bT pf gn cap N k ns);refine aI ?_;refine dI (eY _ _ y _ e _ _ C) rfl ay.refl an ?_;rintro v H' rfl;refine⟨rfl,ah ?_⟩;refine aI ?_;refine dI (eY _ _ i _ f _ _ D) rfl ay.refl an ?_;rintro v H' rfl;refine⟨rfl,ah ?_⟩;refine iM ?_;refine bD 43 (v':=.bool false) rfl (Na Value.bool (aU (by show ¬ enc (z a).up≠-1;rw[w];simp[enc]))) (bo rfl (ag ?_));refine aI ?_;refine iy (tt _ z l a e 1 ab A t q E) rfl ay.refl an ?_;refine io ?_;refine iy (tt _ A n b f 0 ab B u r F) rfl ay.refl an ?_;refine io ?_;refine aI ?_;refine dI (xz _ B p (some t) o u d 0 ab) rfl ay.refl an ?_;rintro v H' rfl;refine⟨rfl,ah ?_⟩;refine aI ?_;refine dI (tA _ _ x u d) rfl ay.refl an ?_;rintro v H' rfl;refine⟨rfl,ah ?_⟩;refine ao ?_;refine bN ⟨_,rfl,?_⟩;show bT _ _ _ _ (k+k1+s+q+r) _=_;rw[show k+k1+s+q+r=k+(k1+s+q+r) by omega]
def M0(ns:cH)(x:Nat)(p:Int)(ns':cH)(y:Option Nat)(k:Nat):Prop:=∃ n1 k1,gt ns x n1 k1/\
 ((p<0\/(n1 x).size<=p)/\y=none/\ns'=n1/\k=k1\/0<=p/\p<(n1 x).size/\∃ z k2,Fp n1 x p ns' z k2/\y=some z/\k=k1+k2)
theorem Mm(k:Nat)(ns:cH)(B:eM N ns)(x:Nat)(o:x<N)(p:Int)(f:cH)(y:Option Nat)(j:Nat)(h:M0 ns x p f y j):
 Fn 270 [.pointer (some ⟨pf,0,none⟩),.int .i64 (x:Int),.int .i64 p] (aC (bT pf gn cap N k ns)) ([]++bT pf gn cap N k ns) λ v H'=>v=.int .i64 (enc y)/\H'=bT pf gn cap N (k+j) f:=by
 obtain⟨E,k1,C,d⟩:=h;have w:=B.splay o C
 generalize hM:aC _=M
 refine aT Tryz.func270 λ w0=>?_
 (repeat' (first|refine am ?_|refine ag ?_|refine bF rfl ?_|refine bo rfl ?_))
 refine aE<|cW [] ?_
 (repeat' (first|refine am ?_|refine ag ?_|refine bF rfl ?_|refine bo rfl ?_))
 refine aE<|bp [] ?_;refine iy (iC _ _ _ o) rfl ay.refl an ?_
 (repeat' (first|refine ah ?_|refine cE (gs:=[999]) rfl ?_|refine ae [999] (ad 0 rfl) rfl ?_|refine ae [999] (et rfl bH) rfl ?_|refine ae [999] (bi (m:=0) rfl ab) rfl ?_|refine ae [999] (bi (m:=1) rfl ab) rfl ?_|refine ae [999] (eB 1 rfl rfl rfl rfl bH bH) rfl ?_|refine ae [999] (dJ 1 rfl rfl rfl rfl rfl bH rfl rfl) rfl ?_))
 (repeat' (first|refine am ?_|refine ag ?_|refine bF rfl ?_|refine bo rfl ?_))
 (repeat' (first|refine am ?_|refine ag ?_|refine bF rfl ?_|refine bo rfl ?_))
 refine aE<|bp [] ?_;refine dI (eY _ _ B _ o _ _ C) rfl ay.refl an ?_;rintro v H' rfl;refine⟨rfl,ah ?_⟩
 rcases d with ⟨hp,rfl,rfl,rfl⟩|⟨F,G,z,b,H,rfl,rfl⟩
 ·by_cases D:p<0
  ·(repeat' (first|refine am ?_|refine ag ?_|refine bF rfl ?_|refine bo rfl ?_))
   refine aE<|bp [] ?_;refine dt 18 rfl D ?_
   (repeat' (first|refine ah ?_|refine cE (gs:=[999]) rfl ?_|refine ae [999] (ad 0 rfl) rfl ?_|refine ae [999] (et rfl bH) rfl ?_|refine ae [999] (bi (m:=0) rfl ab) rfl ?_|refine ae [999] (bi (m:=1) rfl ab) rfl ?_|refine ae [999] (eB 1 rfl rfl rfl rfl bH bH) rfl ?_|refine ae [999] (dJ 1 rfl rfl rfl rfl rfl bH rfl rfl) rfl ?_))
   (repeat' (first|refine am ?_|refine ag ?_|refine bF rfl ?_|refine bo rfl ?_))
   (repeat' (first|refine am ?_|refine ag ?_|refine bF rfl ?_|refine bo rfl ?_))
   refine aE<|cW [] ?_
   (repeat' (first|refine am ?_|refine ag ?_|refine bF rfl ?_|refine bo rfl ?_))
   exact bN ⟨_,rfl,rfl,rfl⟩
  ·(repeat' (first|refine am ?_|refine ag ?_|refine bF rfl ?_|refine bo rfl ?_))
   refine aE<|bp [] ?_;refine dc 18 rfl D ?_
   (repeat' (first|refine ah ?_|refine cE (gs:=[999]) rfl ?_|refine ae [999] (ad 0 rfl) rfl ?_|refine ae [999] (et rfl bH) rfl ?_|refine ae [999] (bi (m:=0) rfl ab) rfl ?_|refine ae [999] (bi (m:=1) rfl ab) rfl ?_|refine ae [999] (eB 1 rfl rfl rfl rfl bH bH) rfl ?_|refine ae [999] (dJ 1 rfl rfl rfl rfl rfl bH rfl rfl) rfl ?_))
   refine bD 29 (v':=.bool true) rfl (Na Value.bool (aQ aa)) (bF rfl ?_)
   (repeat' (first|refine am ?_|refine ag ?_|refine bF rfl ?_|refine bo rfl ?_))
   refine aE<|cW [] ?_
   (repeat' (first|refine am ?_|refine ag ?_|refine bF rfl ?_|refine bo rfl ?_))
   exact bN ⟨_,rfl,rfl,rfl⟩
 ·(repeat' (first|refine am ?_|refine ag ?_|refine bF rfl ?_|refine bo rfl ?_))
  refine aE<|bp [] ?_;refine dc 18 rfl aa ?_
  (repeat' (first|refine ah ?_|refine cE (gs:=[999]) rfl ?_|refine ae [999] (ad 0 rfl) rfl ?_|refine ae [999] (et rfl bH) rfl ?_|refine ae [999] (bi (m:=0) rfl ab) rfl ?_|refine ae [999] (bi (m:=1) rfl ab) rfl ?_|refine ae [999] (eB 1 rfl rfl rfl rfl bH bH) rfl ?_|refine ae [999] (dJ 1 rfl rfl rfl rfl rfl bH rfl rfl) rfl ?_))
  refine bD 29 (v':=.bool false) rfl (Na Value.bool (aU aa)) (bo rfl (ag ?_));refine aq ?_
  refine bP (σ:=cH×Nat×Int×Nat) (λ t=>[(2,af t.2.2.1),(1,af (t.2.1:Int)),(0,ap pf 0)])
   (λ t=>bT pf gn cap N (k+k1+(b-t.2.2.2)) t.1) (λ t=>eM N t.1/\t.2.1<N/\Fp t.1 t.2.1 t.2.2.1 f z t.2.2.2/\t.2.2.2<=b) (λ t=>t.2.2.2) (E,x,p,b) [0,1] a7 ab ?_ ⟨w,o,H,Nr _⟩ ?_
  ·simp only[OE,OZ];rfl
  rintro⟨m,u,q,i⟩ ⟨a,hu,n,hi⟩;simp only at a hu n hi ⊢;refine aq ?_
  (repeat' (first|refine am ?_|refine ag ?_|refine bF rfl ?_|refine bo rfl ?_))
  refine aE ?_
  (repeat' (first|refine ah ?_|refine cE (gs:=[999]) rfl ?_|refine ae [999] (ad 0 rfl) rfl ?_|refine ae [999] (et rfl bH) rfl ?_|refine ae [999] (bi (m:=0) rfl ab) rfl ?_|refine ae [999] (bi (m:=1) rfl ab) rfl ?_|refine ae [999] (eB 1 rfl rfl rfl rfl bH bH) rfl ?_|refine ae [999] (dJ 1 rfl rfl rfl rfl rfl bH rfl rfl) rfl ?_))
  refine fN [(8,af (ahead m u)),(7,af (enc (m u).l)),(2,af q),(1,af (u:Int)),(0,ap pf 0)] (bT pf gn cap N (k+k1+(b-i)) m) ?_ ?_
  ·(repeat' (first|refine am ?_|refine ag ?_|refine bF rfl ?_|refine bo rfl ?_))
   refine aE<|cW [] ?_
   cases hl:(m u).l with
   |none=>
    have e:ahead m u=0:=by unfold ahead;rw[hl]
    refine bD 40 (v':=.bool false) rfl (Na Value.bool (aU (by show ¬ enc (m u).l≠-1;rw[hl];simp[enc]))) (bo rfl (ag ⟨[0,1],⟨by rw[e];rfl,by rw[<- hl];rfl,rfl,rfl,rfl,an⟩,ab,rfl⟩))
   |some c=>
    have d:=a.l u hu;rw[hl] at d;have I:c<N:=d;have e:ahead m u=(m c).size:=by unfold ahead;rw[hl]
    refine bD 40 (v':=.bool true) rfl (Na Value.bool (aQ (by show enc (m u).l≠-1;rw[hl];simp[enc]))) (bF rfl ?_);refine bD 7 (v':=af (c:Int)) rfl (Na (Value.int .i64) (gT hl)) ?_
    (repeat' (first|refine am ?_|refine ag ?_|refine bF rfl ?_|refine bo rfl ?_))
    refine aE ?_
    (repeat' (first|refine ah ?_|refine cE (gs:=[999]) rfl ?_|refine ae [999] (ad 0 rfl) rfl ?_|refine ae [999] (et rfl bH) rfl ?_|refine ae [999] (bi (m:=0) rfl ab) rfl ?_|refine ae [999] (bi (m:=1) rfl ab) rfl ?_|refine ae [999] (eB 1 rfl rfl rfl rfl bH bH) rfl ?_|refine ae [999] (dJ 1 rfl rfl rfl rfl rfl bH rfl rfl) rfl ?_))
    exact⟨[0,1],⟨by rw[e];rfl,rfl,rfl,rfl,rfl,an⟩,ab,rfl⟩
  ·(repeat' (first|refine am ?_|refine ag ?_|refine bF rfl ?_|refine bo rfl ?_))
   refine aq ?_
   (repeat' (first|refine am ?_|refine ag ?_|refine bF rfl ?_|refine bo rfl ?_))
   refine aE<|cW [] ?_
   cases n with
   |left s g A=>
    rename_i c i;have d:=a.l u hu;rw[g] at d;refine bD 62 (v':=.bool true) rfl (Na Value.bool (aQ s)) (bF rfl ?_)
    (repeat' (first|refine am ?_|refine ag ?_|refine bF rfl ?_|refine bo rfl ?_))
    refine aE<|cW [] ?_;refine bD 1 (v':=af (c:Int)) rfl (Na (Value.int .i64) (gT g)) ?_;show J _ _ _ _ (bT pf gn cap N (k+k1+(b-(i+1))) m)
    (repeat' (first|refine am ?_|refine ag ?_|refine bF rfl ?_|refine bo rfl ?_))
    refine aE<|bp [] ?_;refine dI (lL _ m a c d) rfl ay.refl an ?_;rintro v H' rfl;refine⟨rfl,ah ?_⟩;refine⟨(fk m c,c,q,i),[0,1],a7,ab,?_,⟨a.push d,d,A,by show i<=b;omega⟩,by show i<i+1;omega⟩;show some (bT _ _ _ _ (k+k1+(b-(i+1))+1) _)=_;rw[show k+k1+(b-(i+1))+1=k+k1+(b-i) by omega]
   |here s g=>
    refine bD 62 (v':=.bool false) rfl (Na Value.bool (aU aa)) (bo rfl ?_)
    (repeat' (first|refine am ?_|refine ag ?_|refine bF rfl ?_|refine bo rfl ?_))
    refine aE<|cW [] ?_;refine bD 67 (v':=.bool true) rfl (Na Value.bool (aQ s)) (bF rfl ?_);show J _ _ _ _ (bT pf gn cap N (k+k1+(b-i)) m)
    (repeat' (first|refine am ?_|refine ag ?_|refine bF rfl ?_|refine bo rfl ?_))
    refine aE<|bp [] ?_;refine dI (eY _ _ a _ hu _ _ g) rfl ay.refl an ?_;rintro v H' rfl;refine⟨rfl,ah ?_⟩
    (repeat' (first|refine am ?_|refine ag ?_|refine bF rfl ?_|refine bo rfl ?_))
    refine aE<|cW [] ?_;refine bN ⟨_,rfl,rfl,?_⟩;show bT _ _ _ _ (k+k1+(b-i)+i) _=_;rw[show k+k1+(b-i)+i=k+(k1+b) by omega]
   |right s g A=>
    rename_i c i;have d:=a.r u hu;rw[g] at d;refine bD 62 (v':=.bool false) rfl (Na Value.bool (aU aa)) (bo rfl ?_)
    (repeat' (first|refine am ?_|refine ag ?_|refine bF rfl ?_|refine bo rfl ?_))
    refine aE<|cW [] ?_;refine bD 67 (v':=.bool false) rfl (Na Value.bool (aU aa)) (bo rfl ?_)
    (repeat' (first|refine am ?_|refine ag ?_|refine bF rfl ?_|refine bo rfl ?_))
    refine aE ?_
    (repeat' (first|refine ah ?_|refine cE (gs:=[999]) rfl ?_|refine ae [999] (ad 0 rfl) rfl ?_|refine ae [999] (et rfl bH) rfl ?_|refine ae [999] (bi (m:=0) rfl ab) rfl ?_|refine ae [999] (bi (m:=1) rfl ab) rfl ?_|refine ae [999] (eB 1 rfl rfl rfl rfl bH bH) rfl ?_|refine ae [999] (dJ 1 rfl rfl rfl rfl rfl bH rfl rfl) rfl ?_))
    refine bD 1 (v':=af (c:Int)) rfl (Na (Value.int .i64) (gT g)) ?_;show J _ _ _ _ (bT pf gn cap N (k+k1+(b-(i+1))) m)
    (repeat' (first|refine am ?_|refine ag ?_|refine bF rfl ?_|refine bo rfl ?_))
    refine aE<|bp [] ?_;refine dI (lL _ m a c d) rfl ay.refl an ?_;rintro v H' rfl;refine⟨rfl,ah ?_⟩;refine⟨(fk m c,c,ei (ei (q-ahead m u)-1),i),[0,1],a7,ab,?_,⟨a.push d,d,A,by show i<=b;omega⟩,by show i<i+1;omega⟩;show some (bT _ _ _ _ (k+k1+(b-(i+1))+1) _)=_;rw[show k+k1+(b-(i+1))+1=k+k1+(b-i) by omega]
def MZ(ns:cH)(x:Nat)(ns':cH)(y k:Nat):Prop:=∃ n1 k1 k2,gt ns x n1 k1/\G8 (n1 x).least n1 x ns' y k2/\k=k1+k2
variable {pf gn cap N:Nat}
theorem D6(k:Nat)(ns:cH):Fn 245 [.pointer (some ⟨pf,0,none⟩)] (aC (bT pf gn cap N k ns)) ([]++bT pf gn cap N k ns) λ v H'=>v=.int .i64 (ei k)/\H'=bT pf gn cap N k ns:=by
 generalize hM:aC _=M
 refine aT Tryz.func245 λ w0=>?_;refine ao ?_;refine iM ?_;exact j0
theorem Ec(k:Nat)(ns:cH)(B:eM N ns)(x:Nat)(s:x<N)(f:cH)(y j:Nat)(h:MZ ns x f y j):
 Fn 268 [.pointer (some ⟨pf,0,none⟩),.int .i64 (x:Int)] (aC (bT pf gn cap N k ns)) ([]++bT pf gn cap N k ns) λ v H'=>v=.int .i64 (y:Int)/\H'=bT pf gn cap N (k+j) f:=by
 obtain⟨C,k1,b,D,E,rfl⟩:=h;have z:=B.splay s D
 generalize hM:aC _=M
 refine aT Tryz.func268 λ w0=>?_
 (repeat' (first|refine am ?_|refine ag ?_|refine bF rfl ?_|refine bo rfl ?_))
 refine aE<|cW [] ?_
 (repeat' (first|refine am ?_|refine ag ?_|refine bF rfl ?_|refine bo rfl ?_))
 refine aE<|bp [] ?_;refine iy (iC _ _ _ s) rfl ay.refl an ?_
 (repeat' (first|refine ah ?_|refine cE (gs:=[999]) rfl ?_|refine ae [999] (ad 0 rfl) rfl ?_|refine ae [999] (et rfl bH) rfl ?_|refine ae [999] (bi (m:=0) rfl ab) rfl ?_|refine ae [999] (bi (m:=1) rfl ab) rfl ?_|refine ae [999] (eB 1 rfl rfl rfl rfl bH bH) rfl ?_|refine ae [999] (dJ 1 rfl rfl rfl rfl rfl bH rfl rfl) rfl ?_))
 (repeat' (first|refine am ?_|refine ag ?_|refine bF rfl ?_|refine bo rfl ?_))
 (repeat' (first|refine am ?_|refine ag ?_|refine bF rfl ?_|refine bo rfl ?_))
 refine aE<|bp [] ?_;refine dI (eY _ _ B _ s _ _ D) rfl ay.refl an ?_;rintro v H' rfl;refine⟨rfl,ah ?_⟩
 (repeat' (first|refine am ?_|refine ag ?_|refine bF rfl ?_|refine bo rfl ?_))
 refine aE ?_
 (repeat' (first|refine ah ?_|refine cE (gs:=[999]) rfl ?_|refine ae [999] (ad 0 rfl) rfl ?_|refine ae [999] (et rfl bH) rfl ?_|refine ae [999] (bi (m:=0) rfl ab) rfl ?_|refine ae [999] (bi (m:=1) rfl ab) rfl ?_|refine ae [999] (eB 1 rfl rfl rfl rfl bH bH) rfl ?_|refine ae [999] (dJ 1 rfl rfl rfl rfl rfl bH rfl rfl) rfl ?_))
 obtain⟨want,hw⟩:∃ w,(C x).least=w:=⟨_,rfl⟩;rw[hw] at E;refine bD 5 (v':=af want) rfl (Na (Value.int .i64) hw)<|aq<|?_
 refine bP (σ:=cH×Nat×Nat) (λ t=>[(5,af want),(1,af (t.2.1:Int)),(0,ap pf 0)])
  (λ t=>bT pf gn cap N (k+k1+(b-t.2.2)) t.1) (λ t=>eM N t.1/\t.2.1<N/\G8 want t.1 t.2.1 f y t.2.2/\t.2.2<=b) (λ t=>t.2.2) (C,x,b) [0,1] a7 ab ?_ ⟨z,s,E,Nr _⟩ ?_
 ·simp only[OE,OZ];rfl
 rintro⟨m,u,i⟩ ⟨a,hu,n,hi⟩;simp only at a hu n hi ⊢;refine aq ?_
 (repeat' (first|refine am ?_|refine ag ?_|refine bF rfl ?_|refine bo rfl ?_))
 refine aE ?_
 (repeat' (first|refine ah ?_|refine cE (gs:=[999]) rfl ?_|refine ae [999] (ad 0 rfl) rfl ?_|refine ae [999] (et rfl bH) rfl ?_|refine ae [999] (bi (m:=0) rfl ab) rfl ?_|refine ae [999] (bi (m:=1) rfl ab) rfl ?_|refine ae [999] (eB 1 rfl rfl rfl rfl bH bH) rfl ?_|refine ae [999] (dJ 1 rfl rfl rfl rfl rfl bH rfl rfl) rfl ?_))
 cases n with
 |left h1 o g=>
  rename_i c i;have e:=a.l u hu;rw[h1] at e;have F:c<N:=e;refine bD 6 (v':=af (c:Int)) rfl (Na (Value.int .i64) (gT h1))<|aI ?_;refine dt 33 rfl aa<|io ?_;refine bD 44 (v':=.bool true) rfl (Na Value.bool (aQ o)) (bF rfl ?_)
  (repeat' (first|refine am ?_|refine ag ?_|refine bF rfl ?_|refine bo rfl ?_))
  refine aE<|cW [] ?_;show J _ _ _ _ (bT pf gn cap N (k+k1+(b-(i+1))) m)
  (repeat' (first|refine am ?_|refine ag ?_|refine bF rfl ?_|refine bo rfl ?_))
  refine aE<|bp [] ?_;refine dI (lL _ m a c e) rfl ay.refl an ?_;rintro v H' rfl;refine⟨rfl,ah ?_⟩;refine⟨(fk m c,c,i),[0,1],a7,ab,?_,⟨a.push e,e,g,by show i<=b;omega⟩,by show i<i+1;omega⟩;show some (bT _ _ _ _ (k+k1+(b-(i+1))+1) _)=_;rw[show k+k1+(b-(i+1))+1=k+k1+(b-i) by omega]
 |here h1 o g=>
  refine fN [(44,.bool false),(5,af want),(1,af (y:Int)),(0,ap pf 0)] (bT pf gn cap N (k+k1+(b-i)) m) ?_ ?_
  ·cases hl:(m y).l with
   |none=>
    refine aI ?_;refine dc 33 rfl (by show ¬ enc (m y).l≠-1;rw[hl];simp[enc])<|io ?_;exact qm
   |some d=>
    have q:=a.l y hu;rw[hl] at q;have A:d<N:=q;exact Gs
  refine bo rfl<|iM ?_
  ·refine bD 55 (v':=.bool true) rfl (Na Value.bool (aQ o)) (bF rfl ?_);refine aI ?_;refine dI (eY _ _ a _ hu _ _ g) rfl ay.refl an ?_;rintro v H' rfl;refine⟨rfl,ah ?_⟩;refine ao ?_;refine bN ⟨_,rfl,rfl,?_⟩;show bT _ _ _ _ (k+k1+(b-i)+i) _=_;rw[show k+k1+(b-i)+i=k+(k1+b) by omega]
 |right h1 o g H=>
  rename_i c i;have e:=a.r u hu;rw[g] at e;refine fN [(44,.bool false),(5,af want),(1,af (u:Int)),(0,ap pf 0)] (bT pf gn cap N (k+k1+(b-(i+1))) m) ?_ ?_
  ·cases hl:(m u).l with
   |none=>
    refine aI ?_;refine dc 33 rfl (by show ¬ enc (m u).l≠-1;rw[hl];simp[enc])<|io ?_;exact qm
   |some d=>
    have q:=a.l u hu;rw[hl] at q;have A:d<N:=q;exact Gs
  refine bo rfl ?_
  (repeat' (first|refine am ?_|refine ag ?_|refine bF rfl ?_|refine bo rfl ?_))
  refine aE ?_
  (repeat' (first|refine ah ?_|refine cE (gs:=[999]) rfl ?_|refine ae [999] (ad 0 rfl) rfl ?_|refine ae [999] (et rfl bH) rfl ?_|refine ae [999] (bi (m:=0) rfl ab) rfl ?_|refine ae [999] (bi (m:=1) rfl ab) rfl ?_|refine ae [999] (eB 1 rfl rfl rfl rfl bH bH) rfl ?_|refine ae [999] (dJ 1 rfl rfl rfl rfl rfl bH rfl rfl) rfl ?_))
  ·refine bD 55 (v':=.bool false) rfl (Na Value.bool (aU o)) (bo rfl ?_)
   (repeat' (first|refine am ?_|refine ag ?_|refine bF rfl ?_|refine bo rfl ?_))
   refine aE ?_
   (repeat' (first|refine ah ?_|refine cE (gs:=[999]) rfl ?_|refine ae [999] (ad 0 rfl) rfl ?_|refine ae [999] (et rfl bH) rfl ?_|refine ae [999] (bi (m:=0) rfl ab) rfl ?_|refine ae [999] (bi (m:=1) rfl ab) rfl ?_|refine ae [999] (eB 1 rfl rfl rfl rfl bH bH) rfl ?_|refine ae [999] (dJ 1 rfl rfl rfl rfl rfl bH rfl rfl) rfl ?_))
   refine bD 1 (v':=af (c:Int)) rfl (Na (Value.int .i64) (gT g)) ?_;show J _ _ _ _ (bT pf gn cap N (k+k1+(b-(i+1))) m)
   (repeat' (first|refine am ?_|refine ag ?_|refine bF rfl ?_|refine bo rfl ?_))
   refine aE<|bp [] ?_;refine dI (lL _ m a c e) rfl ay.refl an ?_;rintro v H' rfl;refine⟨rfl,ah ?_⟩;refine⟨(fk m c,c,i),[0,1],a7,ab,?_,⟨a.push e,e,H,by show i<=b;omega⟩,by show i<i+1;omega⟩;show some (bT _ _ _ _ (k+k1+(b-(i+1))+1) _)=_;rw[show k+k1+(b-(i+1))+1=k+k1+(b-i) by omega]
abbrev OV:=Nat->Option Nat
def bJ(ov:OV)(x:Nat)(c:Option Nat):OV:=λ y=>if y=x then c else ov y
def HQ(N:Nat)(ov:OV):LV_:=aj ((List.range N).map λ x=>enc (ov x))
theorem AT(N:Nat)(ov:OV):(HQ N ov).length=N:=by simp[HQ,aj]
theorem J1{N x:Nat}{ov:OV}(h:x<N):(HQ N ov)[x]?=some (.int .i64 (enc (ov x))):=ep (by simp[h])
theorem Jg{N x:Nat}{ov:OV}(c:Option Nat):(HQ N ov).set x (.int .i64 (enc c))=HQ N (bJ ov x c):=by
 unfold HQ aj
 apply Pl
 intro i;by_cases h:x=i
 ·subst h;by_cases a:x<N
  ·rw[Nq (by simp[a])];simp[a,bJ]
  ·rw[N4 eK,N4 eK]
 ·rw[Ns h];by_cases hi:i<N
  ·simp[hi,bJ,Ne.symm h]
  ·rw[N4 eK,N4 eK]
structure i1 where
 ns:cH
 ov:OV
 k:Nat
def lT(pt ps go gn co cap N:Nat)(s:i1):Heap:=
 bT ps gn cap N s.k s.ns++[blk pt 319 [.pointer (some ⟨ps,0,none⟩),.slice (some ⟨go,0,none⟩) N co,.int .i64 (N:Int)],.own (.slice (some ⟨go,0,none⟩) N co) 3 1 N (HQ N s.ov)]
def jQ(ns:cH)(x:Nat):cH:=match (ns x).l with
 |none=>ns
 |some c=>ik (jw (jw ns c { ns c with up:=none }) x (dF (jw ns c { ns c with up:=none } x) 0 none)) x
theorem eM.split{N:Nat}{ns:cH}(h:eM N ns){x:Nat}(b:x<N):eM N (jQ ns x):=by
 unfold jQ;have hl:=h.l x b;split
 ·exact h
 ·rename_i c e;rw[e] at hl;have a:c<N:=hl;exact (eM.setDown (h.upd (x:=c) (d:={ ns c with up:=none }) an (h.l c a) (h.r c a)) b (c:=none) an 0).pull b
theorem eM.joined{N:Nat}{ns d:cH}{a b k:Nat}(o:eM N ns)(m:a<N)(n:b<N)(h:ux ns a b d k):eM N d:=by
 obtain⟨v,w,x,y,k1,z,A,B,p,C,q,r,s,t,u,rfl,rfl⟩:=h;have f:=o.splay m q;have g:=f.splay n r;obtain⟨i,j⟩:=g.end_ m t;obtain⟨l,e⟩:=i.end_ n u;exact (l.hang (c:=some p) j e 0).pull e
structure pC (N:Nat) (s:i1):Prop where
 ns:eM N s.ns
 ov:∀ x,x<N->xL N (s.ov x)
def D3(s:i1)(v:Nat)(s':i1):Prop:=∃ n1 deep k1,Edge 0 s.ns v n1 deep k1/\
 (deep=v/\s'=⟨n1,s.ov,s.k+k1⟩\/deep≠v/\∃ n2 k2 n3 top k3,gt n1 v n2 k2/\Edge 1 (jQ n2 v) deep n3 top k3/\s'=⟨n3,bJ s.ov top (some v),s.k+k1+k2+k3⟩)
inductive zm (v:Nat):i1->i1->Nat->Prop
 |done {s:i1} {n1:cH} {top k1:Nat}:Edge 1 s.ns v n1 top k1->s.ov top=none->zm v s ⟨n1,s.ov,s.k+k1⟩ 0
 |go {s s2 s':i1} {n1 n4:cH} {top k1 w k4 i:Nat}:Edge 1 s.ns v n1 top k1->s.ov top=some w->D3 ⟨n1,s.ov,s.k+k1⟩ w s2->v≠w->ux s2.ns v w n4 k4->zm v ⟨n4,bJ s2.ov top none,s2.k+k4⟩ s' i->zm v s s' (i+1)
def Kz(s:i1)(v:Nat)(s':i1):Prop:=∃ s1 i,D3 s v s1/\zm v s1 s' i
theorem pC.part{N:Nat}{s c:i1}{v:Nat}(h:pC N s)(a:v<N)(hp:D3 s v c):pC N c:=by
 obtain⟨j,deep,k1,d,⟨_,rfl⟩|⟨_,k,l,m,top,n,e,f,rfl⟩⟩:=hp
 ·exact⟨(h.ns.edge a d).1,h.ov⟩
 ·obtain⟨b,g⟩:=h.ns.edge a d;refine⟨(((b.splay a e).split a).edge g f).1,λ x i=>?_⟩;simp only[bJ];split
  ·exact a
  ·exact h.ov x i
theorem pC.ovn{N:Nat}{s:i1}{x:Nat}(h:pC N s)(ns:cH)(a:eM N ns)(k:Nat):pC N ⟨ns,bJ s.ov x none,k⟩:=by
 refine⟨a,λ y b=>?_⟩;simp only[bJ];split
 ·trivial
 ·exact h.ov y b
theorem pC.accL{N v:Nat}{s f:i1}{i:Nat}(h:zm v s f i)(c:v<N):pC N s->pC N f:=by
 induction h with
 |done d _=>exact λ a=>⟨(a.ns.edge c d).1,a.ov⟩
 |go d g j n k _ l=>
  intro a;obtain⟨e,m⟩:=a.ns.edge c d;have hw:=a.ov _ m;rw[g] at hw;have b:=pC.part (s:=⟨_,_,_⟩) ⟨e,a.ov⟩ hw j;exact l (b.ovn _ (b.ns.joined c hw k) _)
theorem pC.acc{N v:Nat}{s a:i1}(h:pC N s)(b:v<N)(c:Kz s v a):pC N a:=by
 obtain⟨s1,i,d,e⟩:=c;exact pC.accL e b (h.part b d)
section
variable {pt ps go gn co cap N:Nat}
theorem uB{X:Cx}{Q:fb}{E d:Env}{H:Heap}{ops l:List Oper}{o:Oper}{t x:Nat}{e f:Operand}{ov:OV}{c:Option Nat}(k:Nat)(g:o.op=.store t e f)(i:val E e=some (.pointer (some ⟨go,x,none⟩)))(j:val E f=some (.int .i64 (enc c)))
 (m:H[k]?=some (.own (.slice (some ⟨go,0,none⟩) N co) 3 1 N (HQ N ov))) {uk:UK} {a:Nat} {p:Option Value} (q:tab t=some ⟨uk,1,a,p⟩) (b:x<N) (gs:LN_) (r:jD X.n ops gs E o undef=some d)
 (h:JL X ops l Q d (H.set k (.own (.slice (some ⟨go,0,none⟩) N co) 3 1 N (HQ N (bJ ov x c))))):JL X ops (o::l) Q E H:=by
 refine aW k g i j m (fz q rfl rfl (by rw[AT];exact b)) gs r ?_;rw[Jg];exact h
theorem Cf(s:i1)(g:pC N s)(v:Nat)(b:v<N)(i:i1)(h:D3 s v i):Fn 261 [.pointer (some ⟨pt,0,none⟩),.int .i64 (v:Int)] (aC (lT pt ps go gn co cap N s)) ([]++lT pt ps go gn co cap N s) λ _ H'=>H'=lT pt ps go gn co cap N i:=by
 obtain⟨ns,ov,k⟩:=s;obtain⟨j,deep,k1,l,t⟩:=h;obtain⟨d,m⟩:=g.ns.edge b l
 generalize hM:aC _=M
 refine aT Tryz.func261 λ w0=>?_;refine ib ?_;refine iy (ET _ _ g.ns v b j deep k1 l) rfl ay.refl an ?_;refine nc ?_;refine dv ?_
 rcases t with ⟨rfl,rfl⟩|⟨u,n,o,w,top,x,p,q,rfl⟩
 ·refine bD 13 (v':=.bool true) rfl (Na Value.bool (aQ rfl)) (bF rfl (bN ⟨_,rfl,rfl⟩))
 ·have f:=d.splay b p;have e:=f.split b;have a:=(e.edge m q).2;refine bD 13 (v':=.bool false) rfl (Na Value.bool (aU aa)) (bo rfl (ag ?_));refine ib ?_;refine dI (v6 _ j d v b n o p) rfl ay.refl an ?_;rintro r H' rfl;refine⟨rfl,ah ?_⟩;show J _ _ _ _ (bT ps gn cap N (k+k1+o) (jQ n v)++_);refine cq ?_;refine bM 13 (dT [0,1,2,3,4,5,6,7,8,10]++[(9,false)]++dT [11]++[(12,false)]) [2] aX ab rfl<|q6 ?_;refine cz ?_;refine dI (uo _ _ e deep m w top x q) rfl ay.refl an ?_;rintro r H' ⟨rfl,rfl⟩;refine⟨rfl,b6 [2] ?_⟩
  (repeat' (first|refine eJ (gs:=[999]) rfl rfl ?_|refine aG [999] rfl (bn rfl a) rfl ?_))
  refine cz ?_;exact uB (c:=some v) 3 rfl rfl rfl rfl rfl a [] rfl<|b6 [2]<|cM<|ah ⟨_,rfl,rfl⟩
end
variable {pt ps go gn co cap N:Nat}
theorem v8(s:i1)(D:pC N s)(v:Nat)(f:v<N)(g:i1)(h:Kz s v g):Fn 250 [.pointer (some ⟨pt,0,none⟩),.int .i64 (v:Int)] (aC (lT pt ps go gn co cap N s)) ([]++lT pt ps go gn co cap N s) λ _ H'=>H'=lT pt ps go gn co cap N g:=by
 obtain⟨s1,i0,hP,E⟩:=h;have x:=D.part f hP
 generalize hM:aC _=M
 refine aT Tryz.func250 λ w0=>?_;refine aI ?_;refine dI (Cf s D v f s1 hP) rfl ay.refl an ?_;rintro r H' rfl;refine⟨rfl,ah ?_⟩;refine aq<|bP (σ:=i1×Nat) (λ _=>[(1,af (v:Int)),(0,ap pt 0)]) (λ t=>lT pt ps go gn co cap N t.1) (λ t=>pC N t.1/\zm v t.1 g t.2) (λ t=>t.2) (s1,i0) [0,1,2,3] a7 ab rfl ⟨x,E⟩<|?_;rintro⟨m,i⟩ ⟨hm,l⟩;simp only at hm l ⊢;refine aq<|ib ?_
 obtain⟨d,top,k1,hE,F⟩:∃ d top k1,Edge 1 m.ns v d top k1/\(m.ov top=none/\g=⟨d,m.ov,m.k+k1⟩\/∃ w,m.ov top=some w/\∃ s2 n o j,D3 ⟨d,m.ov,m.k+k1⟩ w s2/\v≠w/\ux s2.ns v w n o/\zm v ⟨n,bJ s2.ov top none,s2.k+o⟩ g j/\i=j+1):=by
  cases l with
  |done y z=>exact⟨_,_,_,y,.inl ⟨z,rfl⟩⟩
  |go y z q A u B=>exact⟨_,_,_,y,.inr ⟨_,z,_,_,_,_,q,A,u,B,rfl⟩⟩
 obtain⟨C,a⟩:=hm.ns.edge f hE;refine iy (uo _ _ hm.ns v f d top k1 hE) rfl ay.refl an ?_;refine nc ?_;refine ah<|ib ?_;refine aF (bn rfl a) ?_;refine aF (aw (v:=af (enc (m.ov top))) 3 rfl rfl rfl (J1 a)) ?_;refine nc ?_;refine dv ?_
 rcases F with ⟨H,rfl⟩|⟨w,hw,s2,n,o,j,q,A,u,B,rfl⟩
 ·refine bD 23 (v':=.bool true) rfl (Na Value.bool (aQ (by show enc (m.ov top)=-1;rw[H];rfl))) (bF rfl (bN ⟨_,rfl,rfl⟩))
 ·have b:=hm.ov _ a;rw[hw] at b;refine bD 23 (v':=.bool false) rfl (Na Value.bool (aU (by show ¬ enc (m.ov top)=-1;rw[hw];simp[enc]))) (bo rfl (ag ?_));refine bD 5 (v':=af (w:Int)) rfl (Na (Value.int .i64) (gT hw)) ?_;have p:pC N ⟨d,m.ov,m.k+k1⟩:=⟨C,hm.ov⟩;have e:=p.part b q;show J _ _ _ _ (lT pt ps go gn co cap N ⟨d,m.ov,m.k+k1⟩);refine aI ?_;refine dI (Cf _ p w b s2 q) rfl ay.refl an ?_;rintro r H' rfl;refine⟨rfl,ah ?_⟩;show J _ _ _ _ (lT pt ps go gn co cap N s2);refine ib ?_;refine aF (bn rfl a) ?_;refine uB (c:=none) 3 rfl rfl rfl rfl rfl a [] rfl<|ah<|?_;show J _ _ _ _ (bT ps gn cap N s2.k s2.ns++_);refine ib ?_;refine dI (Jr _ _ e.ns v w f b A n o u) rfl ay.refl an ?_;rintro r H' rfl;refine⟨rfl,ah ?_⟩;exact⟨(⟨n,bJ s2.ov top none,s2.k+o⟩,j),[0,1,2,3],a7,ab,rfl,⟨e.ovn _ (e.ns.joined f b u) _,B⟩,by show j<j+1;omega⟩
theorem oK(s:i1)(v:Nat)(a:v<N):Fn 249 [.pointer (some ⟨pt,0,none⟩),.int .i64 (v:Int)] (aC (lT pt ps go gn co cap N s)) ([]++lT pt ps go gn co cap N s) λ r H'=>r=.bool true/\H'=lT pt ps go gn co cap N s:=by
 generalize hM:aC _=M
 refine aT Tryz.func249 λ w0=>?_;refine c9 ?_;refine dt 7 rfl aa<|nc ?_;exact ah<|nd 4 rfl aa<|j0
def zR(s:i1)(v:Nat)(s':i1)(y:Nat):Prop:=∃ s1 n1 k1,Kz s v s1/\Edge 1 s1.ns v n1 y k1/\s'=⟨n1,s1.ov,s1.k+k1⟩
def wQ(s:i1)(v:Nat)(s':i1)(y:Option Nat):Prop:=∃ s1 n1 k1,Kz s v s1/\M0 s1.ns v 1 n1 y k1/\s'=⟨n1,s1.ov,s1.k+k1⟩
def MG(s:i1)(v:Nat)(s':i1):Prop:=∃ n1 k1,gt s.ns v n1 k1/\s'=⟨n1,s.ov,s.k+k1⟩
def KH(s:i1)(v w:Nat)(s':i1):Prop:=∃ s1 s2 s3 z,zR s v s1 v/\zR s1 w s2 z/\z≠v/\Kz s2 v s3/\s'=⟨s3.ns,bJ s3.ov v (some w),s3.k⟩
def MC(s:i1)(v:Nat)(s':i1):Prop:=∃ s1 u n1 k1,wQ s v s1 (some u)/\gt s1.ns u n1 k1/\s'=⟨jQ n1 u,s1.ov,s1.k+k1⟩
def Iz(s:i1)(v:Nat)(s':i1)(y:Nat):Prop:=∃ s1 n1 k1 n2 k2 n3 k3,Kz s v s1/\gt s1.ns v n1 k1/\MZ (iY n1 (some v) 0 true) v n2 y k2/\gt n2 v n3 k3/\s'=⟨iY n3 (some v) 0 true,s1.ov,s1.k+k1+k2+k3⟩
def Mr(s:i1)(v:Nat)(d:Int)(s':i1):Prop:=∃ s1 n1 k1,Kz s v s1/\gt s1.ns v n1 k1/\(0<=d->(n1 v).most<=4611686018427387904-d)/\(d<0→-4611686018427387904-d<=(n1 v).least)/\s'=⟨iY n1 (some v) d false,s1.ov,s1.k+k1⟩
theorem eM.leR{N:Nat}{want:Int}{ns d:cH}{x y k:Nat}(h:G8 want ns x d y k):x<N->eM N ns->eM N d/\y<N:=by
 induction h with
 |left g _ _ e=>
  intro c a;have b:=a.l _ c;rw[g] at b;exact e b (a.push b)
 |here _ _ f=>exact λ c a=>⟨a.splay c f,c⟩
 |right _ _ f _ e=>
  intro c a;have b:=a.r _ c;rw[f] at b;exact e b (a.push b)
theorem eM.atR{N:Nat}{p:Int}{ns d:cH}{x y k:Nat}(h:Fp ns x p d y k):x<N->eM N ns->eM N d/\y<N:=by
 induction h with
 |left _ g _ e=>
  intro c a;have b:=a.l _ c;rw[g] at b;exact e b (a.push b)
 |here _ f=>exact λ c a=>⟨a.splay c f,c⟩
 |right _ f _ e=>
  intro c a;have b:=a.r _ c;rw[f] at b;exact e b (a.push b)
theorem pC.above{N v:Nat}{s c:i1}{u:Nat}(e:pC N s)(b:v<N)(h:wQ s v c (some u)):pC N c/\u<N:=by
 obtain⟨s1,k,k1,f,hE,rfl⟩:=h;have a:=e.acc b f;obtain⟨m1,l,g,⟨_,i,_⟩|⟨_,_,z,m,j,d,_⟩⟩:=hE
 ·cases i
 ·simp only[Nc] at d;subst d;obtain⟨g1,g2⟩:=eM.atR j b (a.ns.splay b g);exact⟨⟨g1,a.ov⟩,g2⟩
theorem pC.root{N v:Nat}{s b:i1}{y:Nat}(d:pC N s)(c:v<N)(h:zR s v b y):pC N b:=by
 obtain⟨s1,f,k1,e,hE,rfl⟩:=h;have a:=d.acc c e;exact⟨(a.ns.edge c hE).1,a.ov⟩
theorem xw(s:i1)(hs:pC N s)(v:Nat)(hv:v<N)(b:i1)(y:Nat)(h:zR s v b y):Fn 240 [.pointer (some ⟨pt,0,none⟩),.int .i64 (v:Int)] (aC (lT pt ps go gn co cap N s)) ([]++lT pt ps go gn co cap N s) λ r H'=>r=.int .i64 (y:Int)/\H'=lT pt ps go gn co cap N b:=by
 obtain⟨s1,c,k1,hA,hE,rfl⟩:=h;have a:=hs.acc hv hA
 generalize hM:aC _=M
 refine aT Tryz.func240 λ w0=>?_;refine B6 ?_;rintro r H' rfl;refine⟨rfl,ah ?_⟩;refine ib ?_;refine iy (uo _ _ a.ns v hv c y k1 hE) rfl ay.refl an ?_;refine nc ?_;refine fC ?_;exact j0
theorem yb(s:i1)(hs:pC N s)(v:Nat)(hv:v<N)(b:i1)(y:Option Nat)(h:wQ s v b y):Fn 255 [.pointer (some ⟨pt,0,none⟩),.int .i64 (v:Int)] (aC (lT pt ps go gn co cap N s)) ([]++lT pt ps go gn co cap N s) λ r H'=>r=.int .i64 (enc y)/\H'=lT pt ps go gn co cap N b:=by
 obtain⟨s1,c,k1,hA,hE,rfl⟩:=h;have a:=hs.acc hv hA
 generalize hM:aC _=M
 refine aT Tryz.func255 λ w0=>?_;refine B6 ?_;rintro r H' rfl;refine⟨rfl,ah ?_⟩;refine ib ?_;refine iy (Mm _ _ a.ns v hv 1 c y k1 hE) rfl ay.refl an ?_;refine nc ?_;refine fC ?_;exact j0
theorem Bp(s:i1)(b:pC N s)(v:Nat)(c:v<N)(a:i1)(h:MG s v a):Fn 252 [.pointer (some ⟨pt,0,none⟩),.int .i64 (v:Int)] (aC (lT pt ps go gn co cap N s)) ([]++lT pt ps go gn co cap N s) λ r H'=>r=.int .i64 (a.ns v).value/\H'=lT pt ps go gn co cap N a:=by
 obtain⟨d,k1,e,rfl⟩:=h
 generalize hM:aC _=M
 refine aT Tryz.func252 λ w0=>?_;refine ao ?_;refine ib ?_;refine iy (Gz _ _ b.ns v c d k1 e) rfl ay.refl an ?_;refine nc ?_;refine fC ?_;exact j0
theorem De(s:i1):Fn 237 [.pointer (some ⟨pt,0,none⟩)] (aC (lT pt ps go gn co cap N s)) ([]++lT pt ps go gn co cap N s) λ r H'=>r=.int .i64 (ei s.k)/\H'=lT pt ps go gn co cap N s:=by
 generalize hM:aC _=M
 refine aT Tryz.func237 λ w0=>?_;refine ao ?_;refine ib ?_;refine iy (D6 s.k s.ns) rfl ay.refl an ?_;refine nc ?_;refine fC ?_;exact j0
theorem Kt(s:i1)(hs:pC N s)(v:Nat)(hv:v<N)(d:Int)(c:-9223372036854775808<=d/\d<=9223372036854775807)(b:i1)(h:Mr s v d b):Fn 254 [.pointer (some ⟨pt,0,none⟩),.int .i64 (v:Int),.int .i64 d] (aC (lT pt ps go gn co cap N s)) ([]++lT pt ps go gn co cap N s) λ _ H'=>H'=lT pt ps go gn co cap N b:=by
 obtain⟨s1,e,k1,hA,f,g,i,rfl⟩:=h;have a:=hs.acc hv hA
 generalize hM:aC _=M
 refine aT Tryz.func254 λ w0=>?_;refine B6 ?_;rintro r H' rfl;refine⟨rfl,ah ?_⟩;refine ib ?_;refine rW (JD _ _ a.ns v hv e k1 f d c g i) rfl ay.refl an ?_;rintro r H' rfl;refine nc ?_;refine fC ?_;exact bN ⟨_,rfl,rfl⟩
theorem E5(s:i1)(hs:pC N s)(v:Nat)(hv:v<N)(f:i1)(y:Nat)(h:Iz s v f y):Fn 253 [.pointer (some ⟨pt,0,none⟩),.int .i64 (v:Int)] (aC (lT pt ps go gn co cap N s)) ([]++lT pt ps go gn co cap N s) λ r H'=>r=.int .i64 (y:Int)/\H'=lT pt ps go gn co cap N f:=by
 obtain⟨s1,k,k1,g,l,m,n,hA,i,j,d,rfl⟩:=h;have a:=hs.acc hv hA;have b:=(a.ns.splay hv i).lay (c:=some v) hv 0 true
 have e:eM N g:=by
  obtain⟨m1,o,q,g1,g2,_⟩:=j;exact (eM.leR g2 hv (b.splay hv g1)).1
 generalize hM:aC _=M
 refine aT Tryz.func253 λ w0=>?_;refine B6 ?_;rintro r H' rfl;refine⟨rfl,ah ?_⟩;refine ib ?_;refine dI (yA _ _ a.ns v hv k k1 i) rfl ay.refl an ?_;rintro r H' rfl;refine⟨rfl,ah ?_⟩;show J _ _ _ _ (bT ps gn cap N _ _++_);refine ib ?_;refine iy (Ec _ _ b v hv g y l j) rfl ay.refl an ?_;refine nc ?_;refine ah<|ib ?_;refine dI (yA _ _ e v hv m n d) rfl ay.refl an ?_;rintro r H' rfl;refine⟨rfl,ah ?_⟩;refine ao ?_;exact j0
theorem Jy(s:i1)(d:pC N s)(v:Nat)(a:v<N)(e:i1)(h:MC s v e):Fn 258 [.pointer (some ⟨pt,0,none⟩),.int .i64 (v:Int)] (aC (lT pt ps go gn co cap N s)) ([]++lT pt ps go gn co cap N s) λ _ H'=>H'=lT pt ps go gn co cap N e:=by
 obtain⟨s1,u,g,k1,f,i,rfl⟩:=h;obtain⟨b,c⟩:=d.above a f
 generalize hM:aC _=M
 refine aT Tryz.func258 λ w0=>?_;refine c9 ?_;refine iy (oK _ _ a) rfl ay.refl an ?_;refine nc ?_;refine fC ?_;refine aI ?_;refine iy (yb s d v a s1 (some u) f) rfl ay.refl an ?_;refine nc ?_;refine dv ?_;refine bD 14 (v':=.bool false) rfl (Na Value.bool (aU (by simp[enc]))) (bo rfl (ag ?_));show J _ _ _ _ (bT ps gn cap N _ _++_);refine ib ?_;refine dI (v6 _ _ b.ns u c g k1 i) rfl ay.refl an ?_;rintro r H' rfl;refine⟨rfl,ah ?_⟩;refine ao ?_;exact bN ⟨_,rfl,rfl⟩
theorem Gq(s:i1)(g:pC N s)(v w:Nat)(a:v<N)(hw:w<N)(i:i1)(h:KH s v w i):Fn 257 [.pointer (some ⟨pt,0,none⟩),.int .i64 (v:Int),.int .i64 (w:Int)] (aC (lT pt ps go gn co cap N s)) ([]++lT pt ps go gn co cap N s) λ _ H'=>H'=lT pt ps go gn co cap N i:=by
 obtain⟨s1,s2,l,z,b,d,m,j,rfl⟩:=h;have e:=g.root a b;have f:=e.root hw d;have k:=f.acc a j
 generalize hM:aC _=M
 refine aT Tryz.func257 λ w0=>?_;refine jN ?_;refine aI ?_;refine iy (oK _ _ a) rfl ay.refl an ?_;refine nc ?_;refine bK [999] (oK _ _ hw) rfl rfl rfl rfl aX ay.refl an aK ?_;rintro r H' ⟨rfl,rfl⟩;refine dw ?_;refine nc ?_;refine fC ?_;refine aI ?_;refine iy (xw s g v a s1 v b) rfl ay.refl an ?_;refine nc ?_;refine ah<|bD 18 (v':=.bool false) rfl (Na Value.bool (aU ai)) (bo rfl ?_);refine aI ?_;refine iy (xw s1 e w hw s2 z d) rfl ay.refl an ?_;refine nc ?_;refine ah<|bD 24 (v':=.bool false) rfl (Na Value.bool (aU aa)) (bo rfl (ag ?_));refine aI ?_;refine dI (v8 _ f _ a _ j) rfl ay.refl an ?_;rintro r H' rfl;refine⟨rfl,ah ?_⟩;show J _ _ _ _ (bT ps gn cap N _ _++_);refine ib ?_;refine aF (bn rfl a) ?_;refine uB (c:=some w) 3 rfl rfl rfl rfl rfl a [] rfl<|dv ?_;exact bN ⟨_,rfl,rfl⟩
end Go.Proofs.YtmcnpaelaieniaaGreatDoor
