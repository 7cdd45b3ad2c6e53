import Derived.Test.YtmcnpaelaieniaaGreatDoorQG
import Derived.RangeFuncRecord
import Derived.RangeFuncCalls
import Derived.RangeFuncIn
import Derived.RangeFuncSeq
/- A part of the proof. -/
set_option linter.unusedVariables false
set_option linter.unusedSimpArgs false
namespace Go.Proofs.YtmcnpaelaieniaaGreatDoor
open Go.RowKit
variable {X:Cx} {Q:e6} {E E':Env} {H:Heap}
structure Nd where
 up:Option Nat
 l:Option Nat
 r:Option Nat
 size:Int
 value:Int
 least:Int
 most:Int
 add:Int
 turned:Bool
deriving Inhabited
abbrev cG:=Nat->Nd
abbrev ei(n:Int):Int:=IntKind.i64.wrap n
def enc:Option Nat->Int
 |none=>-1
 |some x=>(x:Int)
def fE(d:Nd):LV_:=[.int .i64 (enc d.up),.int .i64 (enc d.l),.int .i64 (enc d.r),.int .i64 d.size,.int .i64 d.value,.int .i64 d.least,.int .i64 d.most,.int .i64 d.add,.bool d.turned]
def iI(N:Nat)(ns:cG):LV_:=(List.range N).flatMap λ x=>fE (ns x)
def jv(ns:cG)(x:Nat)(d:Nd):cG:=λ y=>if y=x then d else ns y
theorem eo(ns:cG)(x:Nat)(d:Nd):jv ns x d x=d:=if_pos rfl
theorem gg(ns:cG){x y:Nat}(d:Nd)(h:y≠x):jv ns x d y=ns y:=if_neg h
theorem gO(N:Nat)(ns:cG):(iI N ns).length=N*9:=by
 unfold iI
 induction N with
 |zero=>rfl
 |succ N a=>rw[OY,List.flatMap_append,Ng,a];simp[fE];omega
theorem vX(N:Nat)(ns:cG):iI (N+1) ns=iI N ns++fE (ns N):=by
 unfold iI;rw[OY,List.flatMap_append];simp
theorem kM{N x f:Nat}{ns:cG}(b:x<N)(c:f<9):(iI N ns)[x*9+f]?=(fE (ns x))[f]?:=by
 induction N with
 |zero=>omega
 |succ N a=>
  rw[vX];by_cases e:x=N
  ·subst e;rw[List.getElem?_append_right (by rw[gO];omega),gO]
   congr 1;omega
  ·rw[NY (by rw[gO];omega)];exact a aa
theorem Gx{N x f:Nat}{ns:cG}{d:Nd}{v:Value}(h:x<N)(j:f<9)(b:(fE (ns x)).set f v=fE d):(iI N ns).set (x*9+f) v=iI N (jv ns x d):=by
 apply O3
 intro i;by_cases hi:i<N*9
 ·have g:i/9<N:=by omega
  have e:i=(i/9)*9+i%9:=aa;rw[e,kM (ns:=jv ns x d) g aa];by_cases c:x*9+f=i/9*9+i%9
  ·have a:i/9=x:=by omega
   have c2:i%9=f:=aa;rw[a,c2,eo,<- b,No (by rw[gO];omega),No (by simp[fE];omega)]
  ·rw[Nq c,kM g aa];by_cases a:i/9=x
   ·rw[a,eo,<- b,Nq aa]
   ·rw[gg _ _ a]
 ·rw[NX (by rw[NQ,gO];omega),NX (by rw[gO];omega)]
def lV(d:Nd)(side:Nat):Option Nat:=if side=0 then d.l else d.r
def dA(d:Nd)(side:Nat)(c:Option Nat):Nd:=if side=0 then { d with l:=c } else { d with r:=c }
def tV(d:Nd)(add:Int)(turn:Bool):Nd:=
 { d with value:=ei (d.value+add),least:=ei (d.least+add),most:=ei (d.most+add),add:=ei (d.add+add),l:=if turn then d.r else d.l,r:=if turn then d.l else d.r,turned:=if turn then !d.turned else d.turned }
def iZ(ns:cG)(c:Option Nat)(add:Int)(turn:Bool):cG:=match c with
 |none=>ns
 |some x=>jv ns x (tV (ns x) add turn)
def fg(ns:cG)(x:Nat):cG:=
 let ns1:=iZ ns (ns x).l (ns x).add (ns x).turned
 let ns2:=iZ ns1 (ns x).r (ns1 x).add (ns1 x).turned
 jv ns2 x { ns2 x with add:=0,turned:=false }
def zD(a b:Int):Int:=if b<a then b else a
def Fg(a b:Int):Int:=if b>a then b else a
def iJ(ns:cG)(x:Nat)(c:Option Nat):cG:=match c with
 |none=>ns
 |some c=>jv ns x { ns x with size:=ei ((ns x).size+(ns c).size),least:=zD (ns x).least (ns c).least,most:=Fg (ns x).most (ns c).most }
def iq(ns:cG)(x:Nat):cG:=iJ (iJ (jv ns x { ns x with size:=1,least:=(ns x).value,most:=(ns x).value }) x (ns x).l) x (ns x).r
def eN(ns:cG)(x:Nat)(p:Nat):Nat:=if (ns p).r=some x then 1 else 0
def gp(ns:cG)(c:Option Nat)(b side:Nat):cG:=
 let ns1:=jv ns b (dA (ns b) side c)
 match c with
 |none=>ns1
 |some x=>jv ns1 x { ns1 x with up:=some b }
def rb(ns:cG)(p:Nat):Nat:=match (ns p).up with
 |none=>0
 |some g=>eN ns p g
def Gk(ns:cG)(g:Option Nat)(top x:Nat):cG:=match g with
 |none=>ns
 |some g=>jv ns g (dA (ns g) top (some x))
def d9(ns:cG)(x p:Nat):cG:=
 let at_:=eN ns x p
 let ns1:=gp ns (lV (ns x) (1-at_)) p at_
 let ns2:=gp ns1 (some p) x (1-at_)
 let ns3:=jv ns2 x { ns2 x with up:=(ns p).up }
 let ns4:=Gk ns3 (ns p).up (rb ns p) x
 iq (iq ns4 p) x
def xa(N:Nat):Option Nat->Prop
 |none=>True
 |some x=>x<N
structure eK (N:Nat) (ns:cG):Prop where
 up:∀ x,x<N->xa N (ns x).up
 l:∀ x,x<N->xa N (ns x).l
 r:∀ x,x<N->xa N (ns x).r
theorem eK.upd{N:Nat}{ns:cG}(h:eK N ns){x:Nat}{d:Nd}(b:xa N d.up)(c:xa N d.l)(e:xa N d.r):eK N (Proofs.YtmcnpaelaieniaaGreatDoor.jv ns x d):=by
 refine⟨λ y a=>?_,λ y a=>?_,λ y a=>?_⟩<;>unfold Proofs.YtmcnpaelaieniaaGreatDoor.jv<;>split<;>first|assumption|exact h.up y a|exact h.l y a|exact h.r y a
theorem eK.lay{N:Nat}{ns:cG}(h:eK N ns){c:Option Nat}(b:xa N c)(a:Int)(t:Bool):eK N (iZ ns c a t):=by
 cases c with
 |none=>exact h
 |some x=>
  refine h.upd (h.up x b) ?_ ?_<;>cases t<;>first|exact h.l x b|exact h.r x b
theorem eK.push{N:Nat}{ns:cG}(h:eK N ns){x:Nat}(a:x<N):eK N (fg ns x):=by
 have c:=h.lay (h.l x a) (ns x).add (ns x).turned;have b:=c.lay (h.r x a) (iZ ns (ns x).l (ns x).add (ns x).turned x).add (iZ ns (ns x).l (ns x).add (ns x).turned x).turned;exact b.upd (b.up x a) (b.l x a) (b.r x a)
theorem eK.pullC{N:Nat}{ns:cG}(h:eK N ns){x:Nat}(a:x<N)(c:Option Nat):eK N (Proofs.YtmcnpaelaieniaaGreatDoor.iJ ns x c):=by
 cases c with
 |none=>exact h
 |some c=>exact h.upd (h.up x a) (h.l x a) (h.r x a)
theorem eK.pull{N:Nat}{ns:cG}(h:eK N ns){x:Nat}(a:x<N):eK N (iq ns x):=
 eK.pullC (eK.pullC (h.upd (d:={ ns x with size:=1,least:=(ns x).value,most:=(ns x).value }) (h.up x a) (h.l x a) (h.r x a)) a _) a _
theorem eK.down{N:Nat}{ns:cG}(h:eK N ns){x:Nat}(a:x<N)(s:Nat):xa N (Proofs.YtmcnpaelaieniaaGreatDoor.lV (ns x) s):=by
 unfold Proofs.YtmcnpaelaieniaaGreatDoor.lV;split
 ·exact h.l x a
 ·exact h.r x a
theorem eK.setDown{N:Nat}{ns:cG}(h:eK N ns){x:Nat}(a:x<N){c:Option Nat}(b:xa N c)(s:Nat):eK N (Proofs.YtmcnpaelaieniaaGreatDoor.jv ns x (Proofs.YtmcnpaelaieniaaGreatDoor.dA (ns x) s c)):=by
 unfold Proofs.YtmcnpaelaieniaaGreatDoor.dA;split
 ·exact h.upd (h.up x a) b (h.r x a)
 ·exact h.upd (h.up x a) (h.l x a) b
theorem eK.hang{N:Nat}{ns:cG}(h:eK N ns){c:Option Nat}(d:xa N c){b:Nat}(e:b<N)(s:Nat):eK N (gp ns c b s):=by
 have a:=h.setDown e d s
 cases c with
 |none=>exact a
 |some x=>exact a.upd e (a.l x d) (a.r x d)
theorem eK.setG{N:Nat}{ns:cG}(h:eK N ns){g:Option Nat}(a:xa N g){x:Nat}(b:x<N)(t:Nat):eK N (Gk ns g t x):=by
 cases g with
 |none=>exact h
 |some g=>exact h.setDown a (c:=some x) b t
theorem eK.rotate{N:Nat}{ns:cG}(h:eK N ns){x p:Nat}(a:x<N)(hp:p<N):eK N (d9 ns x p):=by
 have e:=h.hang (h.down a (1-eN ns x p)) hp (eN ns x p);have b:=e.hang (c:=some p) hp a (1-eN ns x p);have f:=b.upd (x:=x) (d:={ gp (gp ns (Proofs.YtmcnpaelaieniaaGreatDoor.lV (ns x) (1-eN ns x p)) p (eN ns x p)) (some p) x (1-eN ns x p) x with up:=(ns p).up }) (h.up p hp) (b.l x a) (b.r x a);exact ((f.setG (h.up p hp) a (rb ns p)).pull hp).pull a
def fY(ns:cG):LN_->cG
 |[]=>ns
 |x::l=>fY (fg ns x) l
def Up(ns:cG):Nat->LN_->Prop
 |_,[]=>False
 |x,[y]=>x=y/\(ns x).up=none
 |x,y::z::l=>x=y/\(ns x).up=some z/\Up ns z (z::l)
inductive Fw:cG->Nat->cG->Nat->Prop
 |done {ns:cG} {x:Nat}:(ns x).up=none->Fw ns x ns 0
 |one {ns ns':cG} {x p k:Nat}:(ns x).up=some p->(ns p).up=none->Fw (d9 ns x p) x ns' k->Fw ns x ns' (k+1)
 |line {ns ns':cG} {x p g q k:Nat}:(ns x).up=some p->(ns p).up=some g->eN ns x p=eN ns p g->((d9 ns p g) x).up=some q->Fw (d9 (d9 ns p g) x q) x ns' k->Fw ns x ns' (k+2)
 |bent {ns ns':cG} {x p g q k:Nat}:(ns x).up=some p->(ns p).up=some g->eN ns x p≠eN ns p g->((d9 ns x p) x).up=some q->Fw (d9 (d9 ns x p) x q) x ns' k->Fw ns x ns' (k+2)
def gq(ns:cG)(x:Nat)(ns':cG)(k:Nat):Prop:=∃ path k1,Up ns x path/\path.length<=10000/\Fw (fY ns path.reverse) x ns' k1/\k=path.length+k1
inductive Lh (side:Nat):cG->Nat->cG->Nat->Nat->Prop
 |done {ns:cG} {x:Nat}:lV (ns x) side=none->Lh side ns x ns x 0
 |go {ns ns':cG} {x c y k:Nat}:lV (ns x) side=some c->Lh side (fg ns c) c ns' y k->Lh side ns x ns' y (k+1)
def LI(side:Nat)(ns:cG)(x:Nat)(ns':cG)(y k:Nat):Prop:=∃ ns1 k1 k2,Lh side ns x ns1 y k1/\gq ns1 y ns' k2/\k=k1+k2
def Edge(side:Nat)(ns:cG)(x:Nat)(ns':cG)(y k:Nat):Prop:=∃ ns1 k1 k2,gq ns x ns1 k1/\LI side ns1 x ns' y k2/\k=k1+k2
def ahead(ns:cG)(x:Nat):Int:=match (ns x).l with
 |none=>0
 |some c=>(ns c).size
inductive HZ:cG->Nat->Int->cG->Nat->Nat->Prop
 |left {ns ns':cG} {x c y k:Nat} {p:Int}:p<ahead ns x->(ns x).l=some c->HZ (fg ns c) c p ns' y k->HZ ns x p ns' y (k+1)
 |here {ns ns':cG} {x k:Nat} {p:Int}:p=ahead ns x->gq ns x ns' k->HZ ns x p ns' x k
 |right {ns ns':cG} {x c y k:Nat} {p:Int}:ahead ns x<p->(ns x).r=some c->HZ (fg ns c) c (ei (ei (p-ahead ns x)-1)) ns' y k->HZ ns x p ns' y (k+1)
inductive F4 (want:Int):cG->Nat->cG->Nat->Nat->Prop
 |left {ns ns':cG} {x c y k:Nat}:(ns x).l=some c->(ns c).least=want->F4 want (fg ns c) c ns' y k->F4 want ns x ns' y (k+1)
 |here {ns ns':cG} {x k:Nat}:(∀ c,(ns x).l=some c->(ns c).least≠want)->(ns x).value=want->gq ns x ns' k->F4 want ns x ns' x k
 |right {ns ns':cG} {x c y k:Nat}:(∀ c,(ns x).l=some c->(ns c).least≠want)->(ns x).value≠want->(ns x).r=some c->F4 want (fg ns c) c ns' y k->F4 want ns x ns' y (k+1)
theorem eK.rot{N:Nat}{ns d:cG}{x k:Nat}(h:Fw ns x d k)(a:x<N):eK N ns->eK N d:=by
 induction h with
 |done _=>exact id
 |one e _ _ f=>exact λ c=>f a (c.rotate a (by have:=c.up _ a;rw[e] at this;exact this))
 |line e j _ i _ f=>
  intro c;have hp:=c.up _ a;rw[e] at hp;have l:=c.up _ hp;rw[j] at l;have b:=c.rotate hp l;have g:=b.up _ a;rw[i] at g;exact f a (b.rotate a g)
 |bent e j _ i _ f=>
  intro c;have hp:=c.up _ a;rw[e] at hp;have b:=c.rotate a hp;have g:=b.up _ a;rw[i] at g;exact f a (b.rotate a g)
theorem Up.lt{N:Nat}{ns:cG}(d:eK N ns):∀ {path:LN_} {x:Nat},Up ns x path->x<N->∀ y∈path,y<N
 |[],_,h,_,_,_=>h.elim
 |[z],x,⟨c,_⟩,b,y,a=>by rw[Nh.1 a,<- c];exact b
 |z::e::l,x,⟨c,f,g⟩,b,y,a=>by
  rcases Nl.1 a with rfl|a
  ·rw[<- c];exact b
  ·have:xa N (some e):=f▸d.up x b;exact Up.lt d g this y a
theorem eK.pushes{N:Nat}{ns:cG}(h:eK N ns):∀ {l:LN_},(∀ y∈l,y<N)->eK N (Proofs.YtmcnpaelaieniaaGreatDoor.fY ns l)
 |[],_=>h
 |y::l,hl=>eK.pushes (h.push (hl y ai)) (l:=l) λ z a=>hl z (by simp[a])
theorem eK.splay{N:Nat}{ns a:cG}{x k:Nat}(b:eK N ns)(c:x<N)(h:gq ns x a k):eK N a:=by
 obtain⟨path,k1,d,_,e,_⟩:=h;exact eK.rot e c (b.pushes λ y f=>d.lt b c y (by simpa using f))
theorem eK.dwn{N side:Nat}{ns a:cG}{x y k:Nat}(h:Lh side ns x a y k):x<N->eK N ns->eK N a/\y<N:=by
 induction h with
 |done _=>exact λ c b=>⟨b,c⟩
 |go e _ f=>
  intro c b;have d:=b.down c side;rw[e] at d;exact f d (b.push d)
theorem eK.end_{N side:Nat}{ns a:cG}{x y k:Nat}(c:eK N ns)(d:x<N)(h:LI side ns x a y k):eK N a/\y<N:=by
 obtain⟨e,k1,j,f,g,_⟩:=h;obtain⟨i,b⟩:=eK.dwn f d c;exact⟨i.splay b g,b⟩
theorem eK.edge{N side:Nat}{ns a:cG}{x y k:Nat}(c:eK N ns)(b:x<N)(h:Edge side ns x a y k):eK N a/\y<N:=by
 obtain⟨d,k1,g,e,f,_⟩:=h;exact (c.splay b e).end_ b f
def Mj:UK->Bool
 |.struct _=>false
 |.arr _ _=>false
 |_=>true
def bT(pf gn cap N k:Nat)(ns:cG):Heap:=
 [blk pf 331 [.slice (some ⟨gn,0,none⟩) N cap,.int .i64 (ei k)],.own (.slice (some ⟨gn,0,none⟩) N cap) 334 9 N (iI N ns)]
theorem tk(a b:Int):ei (ei a+b)=ei (a+b):=by unfold ei;simp only[IntKind.wrap_i64];omega
theorem mN{o:Oper}{t b off n e sz c m:Nat}{x ix:Operand}{k:IntKind}{z:Option Value}{uk:UK}{f:Nat}{i:Option Value}(l:o.op=.indexAddr t x ix)(p:val E x=some (.pointer (some ⟨b,off,none⟩)))
 (hi:val E ix=some (.int k (m:Int))) (q:tab t=some ⟨.arr n e,sz,c,z⟩) (he:tab e=some ⟨uk,1,f,i⟩) (hm:m<n):i7 X o E H (.pointer (some ⟨b,off+m,none⟩)):=by
 intro a w h s
 have hu:Tryz.prog.underlying t=some (.array n e):=by
  obtain⟨d,j,r,_,hu,_⟩:=eR q;rw[r];cases d<;>simp[qp] at hu ⊢;exact hu
 have g:=dT he w;simp[execOp,l,h.val p,h.val hi,Instr.indexAt,asIntOf,run_underlying hu,Instr.sureAddr,g,Addr.add_at,hm]
theorem bd{o:Oper}{t b off n e sz by_ m:Nat}{x ix:Operand}{k:IntKind}{z:Option Value}{uk:UK}{by':Nat}{z':Option Value}(h:(o.op,val E x,val E ix,tab t,tab e)=(.indexAddr t x ix,some (.pointer (some ⟨b,off,none⟩)),some (.int k (m:Int)),some ⟨.arr n e,sz,by_,z⟩,some ⟨uk,1,by',z'⟩))(hm:m<n):i7 X o E H (.pointer (some ⟨b,off+m,none⟩)):=by
 simp only[N1] at h;exact mN h.1 h.2.1 h.2.2.1 h.2.2.2.1 h.2.2.2.2 hm
theorem Ii{o:Oper}{t n e sz b m:Nat}{x ix:Operand}{k:IntKind}{z:Option Value}{uk:UK}{c:Nat}{i:Option Value}{cs:LV_}{v:Value}(l:o.op=.index t x ix)(p:val E x=some (.agg cs.toArray))
 (hi:val E ix=some (.int k (m:Int))) (q:tab t=some ⟨.arr n e,sz,b,z⟩) (he:tab e=some ⟨uk,1,c,i⟩) (g:Mj uk=true) (hm:m<n) (r:cs[m]?=some v):i7 X o E H v:=by
 intro a w h y
 have hu:Tryz.prog.underlying t=some (.array n e):=by
  obtain⟨d,j,s,_,hu,_⟩:=eR q;rw[s];cases d<;>simp[qp] at hu ⊢;exact hu
 have f:=dT he w;have u:=ug (tF he (λ fs (e:uk=_)=>by subst e;cases g) (λ n A (e:uk=_)=>by subst e;cases g)) w;simp[execOp,l,h.val p,h.val hi,Instr.index,asIntOf,run_underlying hu,f,hm,part,u,r]
theorem dH{o:Oper}{t g x f N cap:Nat}{d:Operand}{ns:cG}{v:Value}(k:Nat)(e:o.op=.load t d)(h:val E d=some (.pointer (some ⟨g,x*9+f,none⟩)))
 (i:H[k]?=some (.own (.slice (some ⟨g,0,none⟩) N cap) 334 9 N (iI N ns))) {uk:UK} {a:Nat} {j:Option Value} (l:tab t=some ⟨uk,1,a,j⟩) (m:Mj uk=true)
 (b:x<N) (n:Nat.blt f 9=true) (p:(fE (ns x))[f]?=some v):i7 X o E H v:=by
 have c:f<9:=by simpa using n
 refine aA k e h i ?_;unfold fP;rw[l]
 cases uk<;>first|exact (kM b c).trans p|cases m
theorem zN{o:Oper}{g x N cap:Nat}{d:Operand}{ns:cG}{t e b:Nat}{z:Option Value}(k:Nat)(h:o.op=.load t d)(i:val E d=some (.pointer (some ⟨g,x*9+1,none⟩)))
 (j:H[k]?=some (.own (.slice (some ⟨g,0,none⟩) N cap) 334 9 N (iI N ns))) (m:tab t=some ⟨.arr 2 e,2,b,z⟩) (a:x<N):i7 X o E H (.agg [Value.int .i64 (enc (ns x).l),.int .i64 (enc (ns x).r)].toArray):=by
 refine aA k h i j ?_;unfold fP;rw[m];have n:=kM (f:=1) (ns:=ns) a ab;have p:=kM (f:=2) (ns:=ns) a ab;have c:(iI N ns)[x*9+1+1]?=(fE (ns x))[2]?:=p;show (match eD (iI N ns) (x*9+1) 2 with|some l=>some (Value.agg l.toArray)|none=>none)=_;unfold eD;rw[n];unfold eD;rw[c];rfl
theorem ez{o:Oper}{t g x s N cap:Nat}{c:Operand}{ns:cG}(k:Nat)(d:o.op=.load t c)(e:val E c=some (.pointer (some ⟨g,x*9+1+s,none⟩)))
 (h:H[k]?=some (.own (.slice (some ⟨g,0,none⟩) N cap) 334 9 N (iI N ns))) {i:IntKind} {a:Nat} {j:Option Value} (l:tab t=some ⟨.int i,1,a,j⟩)
 (b:x<N) (n:s<2):i7 X o E H (.int .i64 (enc (lV (ns x) s))):=by
 refine aA k d e h ?_;unfold fP;rw[l];have m:=kM (f:=1+s) (ns:=ns) b aa;show (iI N ns)[x*9+1+s]?=_;rw[N3,m];obtain rfl|rfl:s=0\/s=1:=aa
 ·rfl
 ·rfl
theorem dP{ops l:List Oper}{o:Oper}{t g x f N cap:Nat}{e i:Operand}{ns:cG}{v:Value}(k:Nat)(d:Nd)(j:o.op=.store t e i)(m:val E e=some (.pointer (some ⟨g,x*9+f,none⟩)))(p:val E i=some v)
 (q:H[k]?=some (.own (.slice (some ⟨g,0,none⟩) N cap) 334 9 N (iI N ns))) {uk:UK} {a:Nat} {r:Option Value} (s:tab t=some ⟨uk,1,a,r⟩) (u:v.cells.toList=[v]) (w:v.oneCell'=true)
 (b:x<N) (y:Nat.blt f 9=true) (z:(fE (ns x)).set f v=fE d) (gs:LN_) (A:jN X.n ops gs E o undef=some E')
 (h:JL X ops l Q E' (H.set k (.own (.slice (some ⟨g,0,none⟩) N cap) 334 9 N (iI N (jv ns x d))))):JL X ops (o::l) Q E H:=by
 have c:f<9:=by simpa using y
 refine aY k j m p q (fz s u w (by rw[gO];omega)) gs A ?_;rw[Gx b c z];exact h
theorem ve{ops l:List Oper}{o:Oper}{t g x s N cap:Nat}{e i:Operand}{ns:cG}{c:Option Nat}(k:Nat)(j:o.op=.store t e i)(b:val E e=some (.pointer (some ⟨g,x*9+1+s,none⟩)))(m:val E i=some (.int .i64 (enc c)))
 (p:H[k]?=some (.own (.slice (some ⟨g,0,none⟩) N cap) 334 9 N (iI N ns))) {uk:UK} {d:Nat} {v:Option Value} (q:tab t=some ⟨uk,1,d,v⟩)
 (a:x<N) (w:s<2) (gs:LN_) (u:jN X.n ops gs E o undef=some E')
 (h:JL X ops l Q E' (H.set k (.own (.slice (some ⟨g,0,none⟩) N cap) 334 9 N (iI N (jv ns x (dA (ns x) s c)))))):JL X ops (o::l) Q E H:=by
 rw[N3] at b;obtain rfl|rfl:s=0\/s=1:=aa
 ·exact dP (f:=1) k { ns x with l:=c } j b m p q rfl rfl a rfl rfl gs u h
 ·exact dP (f:=2) k { ns x with r:=c } j b m p q rfl rfl a rfl rfl gs u h
theorem J7(ns:cG)(x:Nat)(d e:Nd):jv (jv ns x d) x e=jv ns x e:=by funext y;unfold jv;split<;>rfl
theorem dX{ops l:List Oper}{o:Oper}{t g x f N cap:Nat}{c e:Operand}{ns:cG}{d0:Nd}{v:Value}(k:Nat)(d:Nd)(i:o.op=.store t c e)(j:val E c=some (.pointer (some ⟨g,x*9+f,none⟩)))(m:val E e=some v)
 (p:H[k]?=some (.own (.slice (some ⟨g,0,none⟩) N cap) 334 9 N (iI N (jv ns x d0)))) {uk:UK} {a:Nat} {q:Option Value} (r:tab t=some ⟨uk,1,a,q⟩) (s:v.cells.toList=[v]) (u:v.oneCell'=true)
 (b:x<N) (w:Nat.blt f 9=true) (y:(fE d0).set f v=fE d) (gs:LN_) (z:jN X.n ops gs E o undef=some E')
 (h:JL X ops l Q E' (H.set k (.own (.slice (some ⟨g,0,none⟩) N cap) 334 9 N (iI N (jv ns x d))))):JL X ops (o::l) Q E H:=by
 refine dP k d i j m p r s u b w (by rw[eo];exact y) gs z ?_;rw[J7];exact h
theorem gX{c:Option Nat}{x:Nat}(h:c=some x):enc c=(x:Int):=by rw[h];rfl
theorem Hn{c:Option Nat}{x:Nat}:enc c=(x:Int)↔c=some x:=by
 cases c with
 |none=>simp[enc]
 |some y=>simp[enc];omega
section
variable {P:Program} {ops:Array Oper} {md:Region.Mode} {S:Array Bool->World->Prop} {F:Exit->Act->World->Prop}
def rI(P:Program)(md:Region.Mode)(ops:Array Oper)(S:Array Bool->World->Prop)(n:Nat)(L:Array Bool->Act->World->Prop):Nat->Array Bool->Act->World->Prop
 |0,listed,a,w=>L listed a w
 |f+1,listed,a,w=>Region.ready md ops listed≠[]/\∀ i∈Region.ready md ops listed,i<n/\wpOp P ops qd i (λ a' w'=>S (listed.setIfInBounds i true) w'/\rI P md ops S n L f (listed.setIfInBounds i true) a' w') a w
theorem nQ{n g:Nat}{L:Array Bool->Act->World->Prop}{Q':Exit->Act->World->Prop}(c:∀ b a w,L b a w->wpAny P md ops Q' g b a w):
 ∀ (f:Nat) (b:Array Bool) (a:Act) (w:World),rI P md ops S n L f b a w->wpAny P md ops Q' (f+g) b a w
 |0,b,a,w,h=>by rw[NO];exact c _ _ _ h
 |f+1,b,a,w,h=>by
  rw[show f+1+g=(f+g)+1 by omega];exact⟨λ d=>absurd d h.1,λ i hi=>mL (λ _ _ _ _ h=>h) (wpOp_mono (λ e w' j=>nQ c f _ e w' j.2) (h.2 i hi).2)⟩
theorem rq{n i:Nat}{B:Oper}{v:Value}{L:Array Bool->Act->World->Prop}{C:World->Prop}(hi:ops[i]?=some B)(s:∀ (j:Nat) (o:Oper) cs b,ops[j]?=some o->o.op≠.select cs b)
 (hC:∀ c w,HeadInv md ops n c->c.getD i true=false->S c w->C w) (hS:∀ c w,HeadInv md ops n c->S c w->S (c.setIfInBounds i true) w)
 (ht:rn md ops n=true) (D:i<n) (x:∀ c a w,L c a w->∀ j∈Region.ready md ops c,n<=j):
 ∀ (f:Nat) (c:Array Bool) (a:Act) (w:World),HeadInv md ops n c->
   (∀ j y,ops[j]?=some y->j≠i->c.getD j true=false->(∀ e∈y.after,Region.binds md e=true->e.on≠i)->B.apart ops y=true)->
   i∈Region.ready md ops c->YS P ops C B v a->S c w->(∀ c w,S (c.setIfInBounds i true) w->c.getD i true=false->S c w)->
   rI P md ops S n L f (c.setIfInBounds i true) (a.put B.dst v) w->rI P md ops S n L (f+1) c a w:=by
 intro f
 induction f with
 |zero=>
  intro c a w inv _ t O m l H;have d:=(mem_ready.1 t).1;refine⟨λ h=>(by rw[h] at t;cases t),λ j z=>?_⟩;have q:=ld ht inv D d j z;refine⟨q,?_⟩;by_cases g:j=i
  ·subst g;exact O.wpOp hi (hC _ _ inv d m) ⟨hS _ _ inv m,H⟩
  ·have:=x _ _ _ H j (ready_mono z g);omega
 |succ f ih=>
  intro c a w inv p t O m l H;have d:=(mem_ready.1 t).1;refine⟨λ h=>(by rw[h] at t;cases t),λ j z=>?_⟩;have q:=ld ht inv D d j z;refine⟨q,?_⟩;by_cases g:j=i
  ·subst g;exact O.wpOp hi (hC _ _ inv d m) ⟨hS _ _ inv m,H⟩
  ·have R:=(H.2 j (ready_mono z g)).2;obtain⟨u,y,A,G⟩:=mem_ready.1 z
   have I:∀ e∈y.after,Region.binds md e=true->e.on≠i:=λ e he hb heq=>by
    have R:=G e he hb;rw[heq,getD_both d] at R
    cases R
   have h2:=yK A (p j y A g u I) (λ cs b=>s i B cs b hi) (λ cs b=>s j y cs b A) O R
   have r:∀ k ok,ops[k]?=some ok->k≠i->(c.setIfInBounds j true).getD k true=false->
    (∀ e∈ok.after,Region.binds md e=true->e.on≠i)->B.apart ops ok=true:=λ k ok hk U d V=>by
    refine p k ok hk U ?_ V;by_cases M:j=k
    ·subst M;exact u
    ·rw[getD_set_ne true M] at d;exact d
   have Y:(c.setIfInBounds j true).getD i true=false:=by rw[getD_set_ne true g];exact d
   refine wpOp_mono (λ a' w' Z=>?_) h2;have N:S (c.setIfInBounds j true) w':=l _ _ (by rw[Array.setIfInBounds_comm _ _ g];exact Z.2.1) Y;refine⟨N,ih (c.setIfInBounds j true) a' w' (inv.set z q) r (ready_mono t (Ne.symm g)) Z.1 N l ?_⟩;rw[Array.setIfInBounds_comm _ _ g];exact Z.2.2
def L1(P:Program)(ops:Array Oper)(S1 S2:World->Prop)(cov:Nat->Bool)(Q:Act->World->Prop):LN_->Nat->List (Nat×Bool)->Act->World->Prop
 |[],k0,rest,a,w=>wpOp P ops qd k0 (λ a' w'=>S2 w'/\x5 P ops S2 Q rest a' w') a w
 |k::l,k0,rest,a,w=>∃ o v,ops[k]?=some o/\YS P ops (if cov k=true then S1 else S2) o v a/\L1 P ops S1 S2 cov Q l k0 rest (a.put o.dst v) w
def mO(md:Region.Mode)(ops:Array Oper)(k0 i:Nat):Bool:=match ops[k0]? with
 |some o=>o.after.toList.any λ e=>Region.binds md e&&Nat.beq e.on i
 |none=>false
def EM(S1 S2:World->Prop)(k0:Nat)(listed:Array Bool)(w:World):Prop:=if listed.getD k0 false=true then S2 w else S1 w
def IH(l:LN_)(k0:Nat):Bool:=l.all λ k=>!(Nat.beq k k0)
theorem nK{n g:Nat}{S1 S2:World->Prop}(q:∀ w,S1 w->S2 w){r:Nat}{I:Act->World->Prop}(f:Region.noSelect ops=true)(A:rn md ops n=true):∀ (l:List (Nat×Bool)) (b:Array Bool) (a:Act) (w:World),HeadInv md ops n b->b.getD r false=true->S2 w->
 nT md ops n g l b=true->x5 P ops S2 I l a w->rI P md ops (EM S1 S2 r) n (λ c B w'=>Region.seqB md ops g n c=true/\I B w') l.length b a w
 |[],b,a,w,_,_,_,s,h=>⟨s,h⟩
 |(k,true)::l,b,a,w,inv,d,D,s,h=>by
  simp only[nT,N2,NW] at s;obtain⟨⟨j,y,M⟩,t⟩:=s;obtain⟨o,v,L,N,O⟩:=h;have e:k∈Region.ready md ops b:=by simpa using y
  have u:=(mem_ready.1 e).1;have x:k≠r:=by rintro rfl;rw[getD_both u] at d;cases d
  have m:∀ (li:Array Bool),(li.setIfInBounds k true).getD r false=li.getD r false:=λ li=>getD_set_ne false x
  refine rq (C:=S2) L (Region.noSelect_spec f) (λ li w _ _ p=>?_) (λ li w _ p=>?_) A j (λ c B w' R=>seqB_ready R.1) l.length b a w inv (Region.free_spec L M) e N ?_ (λ li w p _=>?_)
   (nK q f A l _ _ w (inv.set e j) (by rw[m];exact d) D t O)
  ·unfold EM at p;split at p
   ·exact p
   ·exact q _ p
  ·unfold EM at*;rw[m];exact p
  ·unfold EM;rw[if_pos d];exact D
  ·unfold EM at*;rw[m] at p;exact p
 |(k,false)::l,b,a,w,inv,d,D,s,h=>by
  simp only[nT,N2,NW] at s;obtain⟨⟨j,y⟩,t⟩:=s;refine⟨by rw[y];simp,λ i hi=>?_⟩;have e:k∈Region.ready md ops b:=by rw[y];simp
  have u:=(mem_ready.1 e).1;have x:k≠r:=by rintro rfl;rw[getD_both u] at d;cases d
  rw[y] at hi;obtain rfl:i=k:=by simpa using hi
  have z:(b.setIfInBounds i true).getD r false=true:=by rw[getD_set_ne false x];exact d
  exact⟨j,wpOp_mono (λ B w' G=>⟨by unfold EM;rw[if_pos z];exact G.1,nK q f A l _ _ _ (inv.set e j) z G.1 t G.2⟩) h⟩
theorem yJ{b i:Nat}(h:mO md ops b i=true){n:Nat}{a:Array Bool}(inv:HeadInv md ops n a)(c:a.getD i true=false):a.getD b false=false:=by
 unfold mO at h;split at h
 ·rename_i o f;obtain⟨e,he,d⟩:=List.any_eq_true.1 h;simp only[N2] at d;have g:=Ok d.2
  cases j:a.getD b false with
  |false=>rfl
  |true=>
   have:=inv.closed b o f j e (by simpa using he) d.1;rw[g,getD_both c] at this
   cases this
 ·cases h
theorem sC{n g:Nat}{S1 S2:World->Prop}(s:∀ w,S1 w->S2 w){d:Nat}{N:Act->World->Prop}(j:Region.noSelect ops=true)(D:rn md ops n=true){rest:List (Nat×Bool)}:∀ (l:LN_) (b:Array Bool) (a:Act) (w:World),HeadInv md ops n b->IH l d=true->b.getD d false=false->S1 w->
 nT md ops n g (l.map (λ k=>(k,true))++(d,false)::rest) b=true->L1 P ops S1 S2 (mO md ops d) N l d rest a w->
  rI P md ops (EM S1 S2 d) n (λ c G w'=>Region.seqB md ops g n c=true/\N G w') (l.length+1+rest.length) b a w
 |[],b,a,w,inv,_,t,I,x,h=>by
  simp only[Oi,Oj,nT,N2,NW] at x;obtain⟨⟨m,y⟩,u⟩:=x;rw[show ([]:LN_).length+1+rest.length=rest.length+1 by simp;omega];refine⟨by rw[y];simp,λ i hi=>?_⟩;have p:d∈Region.ready md ops b:=by rw[y];simp
  rw[y] at hi;obtain rfl:i=d:=by simpa using hi
  have z:(b.setIfInBounds i true).getD i false=true:=by
   obtain⟨_,o,R,_⟩:=mem_ready.1 p;have:=(OL.1 R).1;rw[<- inv.size] at this;simp[this]
  exact⟨m,wpOp_mono (λ G w' L=>⟨by unfold EM;rw[if_pos z];exact L.1,nK s j D rest _ _ _ (inv.set p m) z L.1 u L.2⟩) h⟩
 |k::l,b,a,w,inv,r,t,I,x,h=>by
  simp only[Ns,Ob,nT,N2,NW] at x;obtain⟨⟨m,y,U⟩,u⟩:=x;obtain⟨o,v,O,V,Y⟩:=h;simp only[IH,Pi,N2,Bool.not_eq_true'] at r;have M:k≠d:=λ e=>by rw[e,Nat.beq_refl] at r;cases r.1
  have p:k∈Region.ready md ops b:=by simpa using y
  have q:∀ (li:Array Bool),(li.setIfInBounds k true).getD d false=li.getD d false:=λ li=>getD_set_ne false M;rw[show (k::l).length+1+rest.length=(l.length+1+rest.length)+1 by simp;omega]
  refine rq (C:=if mO md ops d k=true then S1 else S2) O (Region.noSelect_spec j) (λ li w A B f=>?_) (λ li w _ f=>?_) D m (λ c G w' Z=>seqB_ready Z.1) _ b a w inv (Region.free_spec O U) p V ?_ (λ li w f _=>?_)
   (sC s j D l _ _ w (inv.set p m) (by simpa [IH] using r.2) (by rw[q];exact t) I u Y)
  ·split
   ·rename_i hc;have:=yJ hc A B;unfold EM at f;rw[this] at f;simpa using f
   ·unfold EM at f;split at f
    ·exact f
    ·exact s _ f
  ·unfold EM at*;rw[q];exact f
  ·unfold EM;rw[t];simpa using I
  ·unfold EM at*;rw[q] at f;exact f
theorem yy{id:Nat}{Q:Exit->Act->World->Prop}{S1 S2:World->Prop}(i:∀ w,S1 w->S2 w){a:Act}{w:World}{ol:List Oper}(n:Nat)(l:LN_)(f:Nat)(rest:List (Nat×Bool))(hm:P.follows .mixedOrders=true)
 (s:(uJ ol.toArray n (l.map (λ k=>(k,true))++(f,false)::rest)&&IH l f)=true) (v:S1 { w with drawn:=w.drawn+1 })
 (h:L1 P ol.toArray S1 S2 (mO .any ol.toArray f) (λ m w'=>wpList P ol.toArray Q (ol.drop n) m w') l f rest a { w with drawn:=w.drawn+1 }):(Code.region id ol.toArray true).wp P Q a w:=by
 simp only[uJ,N2,NW] at s;obtain⟨⟨⟨⟨⟨c,o⟩,hlen⟩,x⟩,p⟩,q⟩:=s
 have d:HeadInv .any ol.toArray n (Array.replicate ol.toArray.size false):=
  ⟨ai,λ j y _ hl=>(by rw[getD_replicate_false] at hl;cases hl),λ t _ o=>getD_in (by simpa using o) (getD_replicate_false _ _)⟩
 have e:(ol.drop n).length=ol.toArray.size-n:=ai;have H:=sC (md:=.any) (g:=ol.toArray.size-n) i c o l _ a _ d q (getD_replicate_false _ _) v p h;refine wp_region_any hm ?_
 have:=nQ (Q':=Q) (g:=ol.toArray.size-n) (λ b m w' u=>by
  have:=wpAny_of_seq (md:=.any) (Q':=Q) (ol.drop n) n b m w' (λ j=>by simp[Og]) (by rw[e];exact u.1) u.2
  rwa [e] at this) _ _ _ _ H
 have r:l.length+1+rest.length=n:=by rw[<- hlen];simp;omega
 rw[r,show n+(ol.toArray.size-n)=ol.toArray.size by omega] at this;exact this
end
section
variable {X:Cx} {Q:e6} {E E':Env} {H Sf:Heap} {K:Env->Heap->Prop}
def JE(X:Cx)(ops:List Oper)(l:LN_)(k0:Nat)(rest:List (Nat×Bool))(Sf:Heap)(K:Env->Heap->Prop)(E:Env)(H:Heap):Prop:=
 ∀ a w,gt X.n a E->dL X.w0 X.M w H->L1 Tryz.prog ops.toArray (λ w=>dL X.w0 X.M w Sf) (λ w=>dL X.w0 X.M w []) (mO .any ops.toArray k0) (λ a' w'=>∃ E' H',gt X.n a' E'/\dL X.w0 X.M w' H'/\K E' H') l k0 rest a w
theorem uY{P:Program}{ops:Array Oper}{S:World->Prop}{Q1 c:Act->World->Prop}(b:∀ a w,Q1 a w->c a w):∀ l a w,x5 P ops S Q1 l a w->x5 P ops S c l a w
 |[],a,w,h=>b a w h
 |(k,true)::l,a,w,⟨o,v,e,f,g⟩=>⟨o,v,e,f,uY b l _ _ g⟩
 |(k,false)::l,a,w,h=>wpOp_mono (λ i w' d=>⟨d.1,uY b l _ _ d.2⟩) h
theorem zO{P:Program}{ops:Array Oper}{S1 S2:World->Prop}{b:Nat->Bool}{Q1 c:Act->World->Prop}(d:∀ a w,Q1 a w->c a w){e:Nat}{rest:List (Nat×Bool)}:∀ l a w,L1 P ops S1 S2 b Q1 l e rest a w->L1 P ops S1 S2 b c l e rest a w
 |[],a,w,h=>wpOp_mono (λ m w' f=>⟨f.1,uY d rest _ _ f.2⟩) h
 |k::l,a,w,⟨o,v,g,i,j⟩=>⟨o,v,g,i,zO d l _ _ j⟩
theorem fW{id:Nat}{ol:List Oper}(n:Nat)(l:LN_)(b:Nat)(rest:List (Nat×Bool))(g:(uJ ol.toArray n (l.map (λ k=>(k,true))++(b,false)::rest)&&IH l b)=true)
 (h:JE X ol l b rest H (λ E' H'=>JL X ol (ol.drop n) Q E' H') E H):J X (.region id ol.toArray true) Q E H:=by
 intro a w i f;refine yy (S1:=λ w=>dL X.w0 X.M w H) (S2:=λ w=>dL X.w0 X.M w []) (λ w h=>h.mono (λ c j=>by cases j) List.Pairwise.nil) n l b rest Do g f.drew<|zO ?_ _ _ _ (h a _ i f.drew);rintro a w ⟨E',H',d,e,m⟩;exact m a w d e
theorem cV{ops:List Oper}{l:LN_}{c k:Nat}{rest:List (Nat×Bool)}{o:Oper}{v:Value}(gs:LN_)(e:ops[k]?=some o)(f:mO .any ops.toArray c k=true)(g:i7 X o E Sf v)(i:jN X.n ops gs E o v=some E')(h:JE X ops l c rest Sf K E' H):JE X ops (k::l) c rest Sf K E H:=by
 intro a w d j;obtain⟨m,hp⟩:=eb i;refine⟨o,v,by simpa using e,.inl ⟨fB d m,λ w' b=>g a w' d ?_⟩,h _ w (d.putE hp) j⟩;rw[if_pos f] at b;exact b
theorem jr{ops:List Oper}{l:LN_}{d k:Nat}{rest:List (Nat×Bool)}{o:Oper}{gs:LN_}(e:ops[k]?=some o)(he:IT X.n ops gs E o=some E')(h:JE X ops l d rest Sf K E' H):JE X ops (k::l) d rest Sf K E H:=by
 unfold IT at he;intro a w b f;split at he
 ·rename_i c;split at he
  ·rename_i v g;have:=b.putE he;exact⟨o,v,by simpa using e,.inl ⟨fB b c,λ w' _=>lS (X:=⟨w',[],X.n⟩) (H:=[]) g a w' b ⟨rfl,rfl,rfl,Np _,λ _ _ _=>rfl,λ _ h=>(by cases h),λ _ h=>(by cases h),List.Pairwise.nil⟩⟩,h _ w this f⟩
  ·cases he
 ·rename_i c;exact⟨o,undef,by simpa using e,.inr ⟨fB b c,rfl⟩,h _ w (b.putE he) f⟩
 ·cases he
theorem gU{ops:List Oper}{l:LN_}{e k:Nat}{rest:List (Nat×Bool)}{o:Oper}{v:Value}(gs:LN_)(f:ops[k]?=some o)(g:i7 X o E [] v)(i:jN X.n ops gs E o v=some E')(h:JE X ops l e rest Sf K E' H):JE X ops (k::l) e rest Sf K E H:=by
 intro a w d j;obtain⟨m,hp⟩:=eb i;refine⟨o,v,by simpa using f,.inl ⟨fB d m,λ w' b=>g a w' d ?_⟩,h _ w (d.putE hp) j⟩;split at b
 ·exact b.mono (λ c p=>by cases p) List.Pairwise.nil
 ·exact b
theorem im{ops:List Oper}{b:Nat}{rest:List (Nat×Bool)}{o:Oper}(c:ops[b]?=some o)(h:JL X ops [o] (G0 X ops rest [] K) E H):JE X ops [] b rest Sf K E H:=by
 intro a w d e;exact xJ c h a w d e
end
variable {pf gn cap N:Nat}
theorem th(k:Nat)(ns:cG)(c:Option Nat)(d:xa N c)(a:Int)(t:Bool):Fn 281 [.pointer (some ⟨pf,0,none⟩),.int .i64 (enc c),.int .i64 a,.bool t] (ay (bT pf gn cap N k ns)) ([]++bT pf gn cap N k ns)
 λ _ H'=>H'=bT pf gn cap N k (iZ ns c a t):=by
 generalize hM:ay _=M
 refine aT Tryz.func281 λ w0=>?_;refine ao ?_
 cases c with
 |none=>
  refine pj 10 rfl rfl<|dy ?_;exact bM ⟨_,rfl,rfl⟩
 |some x=>
  have b:x<N:=d;refine nj 10 rfl (by show ¬ ((x:Int)=-1);omega)<|bu rfl (ag ?_);refine iP ?_;refine cA ?_;refine fW 40 [0,1,2,3,4,5,6,7,8,9,10,11,12,13,14,15,16,17,18,19,20,21,22,23,24,25,26,27,28,29] 30 (dS [31,32]++[(33,false)]++dS [34,35]++[(36,false)]++dS [37,38]++[(39,false)]) aW<|zU ?_
  (first|refine dX 1 { ns x with value:=ei ((ns x).value+a) } rfl rfl rfl rfl rfl rfl rfl bF rfl rfl [] rfl ?_|refine dP 1 { ns x with value:=ei ((ns x).value+a) } rfl rfl rfl rfl rfl rfl rfl bF rfl rfl [] rfl ?_)
  refine nx ?_
  (first|refine dX 1 { ns x with value:=ei ((ns x).value+a),least:=ei ((ns x).least+a) } rfl rfl rfl rfl rfl rfl rfl bF rfl rfl [] rfl ?_|refine dP 1 { ns x with value:=ei ((ns x).value+a),least:=ei ((ns x).least+a) } rfl rfl rfl rfl rfl rfl rfl bF rfl rfl [] rfl ?_)
  refine nx ?_
  (first|refine dX 1 { ns x with value:=ei ((ns x).value+a),least:=ei ((ns x).least+a),most:=ei ((ns x).most+a) } rfl rfl rfl rfl rfl rfl rfl bF rfl rfl [] rfl ?_|refine dP 1 { ns x with value:=ei ((ns x).value+a),least:=ei ((ns x).least+a),most:=ei ((ns x).most+a) } rfl rfl rfl rfl rfl rfl rfl bF rfl rfl [] rfl ?_)
  refine nx ?_
  (first|refine dX 1 { ns x with value:=ei ((ns x).value+a),least:=ei ((ns x).least+a),most:=ei ((ns x).most+a),add:=ei ((ns x).add+a) } rfl rfl rfl rfl rfl rfl rfl bF rfl rfl [] rfl ?_|refine dP 1 { ns x with value:=ei ((ns x).value+a),least:=ei ((ns x).least+a),most:=ei ((ns x).most+a),add:=ei ((ns x).add+a) } rfl rfl rfl rfl rfl rfl rfl bF rfl rfl [] rfl ?_)
  refine bZ []<|gF ?_;show J _ _ _ _ (bT pf gn cap N k (jv ns x { ns x with value:=ei ((ns x).value+a),least:=ei ((ns x).least+a),most:=ei ((ns x).most+a),add:=ei ((ns x).add+a) }));refine ao ?_
  cases t with
  |false=>
   refine bu rfl (ag ⟨_,rfl,?_⟩);rfl
  |true=>
   refine dy ?_;refine fW 29 [0,1,2,3,4,5,6,7,8,9,10,11,12,13,14,15,16,17,18,19,20,22,23] 21 (dS [24]++[(25,false)]++dS [26,27]++[(28,false)]) aW ?_
   (repeat' (first|refine jr (gs:=[999]) rfl rfl ?_|refine gU [999] rfl (bd (m:=0) rfl ab) rfl ?_|refine gU [999] rfl (bd (m:=1) rfl ab) rfl ?_|refine cV [999] rfl rfl (dH (v:=af (enc (ns x).l)) (f:=1) 1 rfl rfl rfl rfl rfl b rfl (by rw[eo];rfl)) rfl ?_|refine cV [999] rfl rfl (dH (v:=af (enc (ns x).r)) (f:=2) 1 rfl rfl rfl rfl rfl b rfl (by rw[eo];rfl)) rfl ?_|refine cV [999] rfl rfl (dH (v:=.bool (ns x).turned) (f:=8) 1 rfl rfl rfl rfl rfl b rfl (by rw[eo];rfl)) rfl ?_))
   refine im rfl ?_
   (first|refine dX 1 { ns x with value:=ei ((ns x).value+a),least:=ei ((ns x).least+a),most:=ei ((ns x).most+a),add:=ei ((ns x).add+a),l:=(ns x).r } rfl rfl rfl rfl rfl rfl rfl bF rfl rfl [] rfl ?_|refine dP 1 { ns x with value:=ei ((ns x).value+a),least:=ei ((ns x).least+a),most:=ei ((ns x).most+a),add:=ei ((ns x).add+a),l:=(ns x).r } rfl rfl rfl rfl rfl rfl rfl bF rfl rfl [] rfl ?_)
   refine bZ []<|m8 ?_;refine aF [999] rfl (bd (m:=1) rfl ab) rfl<|m8 ?_;refine cz ?_
   (first|refine dX (f:=2) 1 { ns x with value:=ei ((ns x).value+a),least:=ei ((ns x).least+a),most:=ei ((ns x).most+a),add:=ei ((ns x).add+a),l:=(ns x).r,r:=(ns x).l } rfl rfl rfl rfl rfl rfl rfl bF rfl rfl [] rfl ?_|refine dP (f:=2) 1 { ns x with value:=ei ((ns x).value+a),least:=ei ((ns x).least+a),most:=ei ((ns x).most+a),add:=ei ((ns x).add+a),l:=(ns x).r,r:=(ns x).l } rfl rfl rfl rfl rfl rfl rfl bF rfl rfl [] rfl ?_)
   refine nx ?_
   (first|refine dX 1 { ns x with value:=ei ((ns x).value+a),least:=ei ((ns x).least+a),most:=ei ((ns x).most+a),add:=ei ((ns x).add+a),l:=(ns x).r,r:=(ns x).l,turned:=!(ns x).turned } rfl rfl rfl rfl rfl rfl rfl bF rfl rfl [] rfl ?_|refine dP 1 { ns x with value:=ei ((ns x).value+a),least:=ei ((ns x).least+a),most:=ei ((ns x).most+a),add:=ei ((ns x).add+a),l:=(ns x).r,r:=(ns x).l,turned:=!(ns x).turned } rfl rfl rfl rfl rfl rfl rfl bF rfl rfl [] rfl ?_)
   exact bZ []<|cP<|ah ⟨_,rfl,rfl⟩
variable {pf gn cap N:Nat}
def qN(ns:cG)(x:Nat):Nat->cG
 |0=>ns
 |1=>iZ ns (ns x).l (ns x).add (ns x).turned
 |_=>iZ (iZ ns (ns x).l (ns x).add (ns x).turned) (ns x).r (iZ ns (ns x).l (ns x).add (ns x).turned x).add (iZ ns (ns x).l (ns x).add (ns x).turned x).turned
def xB(d:Nd)(i:Nat):Option Nat:=if i=0 then d.l else d.r
theorem l3(k:Nat)(ns:cG)(a:eK N ns)(x:Nat)(c:x<N):Fn 278 [.pointer (some ⟨pf,0,none⟩),.int .i64 (x:Int)] (ay (bT pf gn cap N k ns)) ([]++bT pf gn cap N k ns)
 λ _ H'=>H'=bT pf gn cap N (k+1) (fg ns x):=by
 generalize hM:ay _=M
 refine aT Tryz.func278 λ w0=>?_;refine iP ?_;refine aB 11 (v':=af (ei ((k+1:Nat):Int))) rfl (M8 (Value.int .i64) (tk _ _))<|iu ?_;refine iG ?_;show J _ _ _ _ (bT pf gn cap N (k+1) ns);refine iP ?_;refine iP ?_;refine aG (zN 1 rfl rfl rfl rfl c) ?_;refine iu ?_;refine au ?_
 refine bS (σ:=Nat) (λ i=>[(24,af (i:Int)),(23,.agg [af (enc (ns x).l),af (enc (ns x).r)].toArray),(4,ap gn (x*9)),(1,af (x:Int)),(0,ap pf 0)])
  (λ i=>bT pf gn cap N (k+1) (qN ns x i)) (λ i=>i<=2) (λ i=>2-i) 0 [0,1] a8 ab rfl aa ?_
 intro i hi;refine ao ?_;refine am (ak rfl (λ b=>ag ?_) (λ f=>aO ?_))
 ·have b:i<2:=by omega
  have e:eK N (qN ns x i):=by
   obtain rfl|rfl:i=0\/i=1:=aa
   ·exact a
   ·exact a.lay (a.l x c) _ _
  refine am (au ?_);refine bA ?_
  have d:[af (enc (ns x).l),af (enc (ns x).r)][i]?=some (af (enc (xB (ns x) i))):=by
   obtain rfl|rfl:i=0\/i=1:=aa
   ·rfl
   ·rfl
  refine aG (Ii rfl rfl rfl rfl rfl (by rfl) b d) ?_;refine iu ?_;refine cA ?_;refine fW 11 [0,1,2,3,4,5,6,7,8,9] 10 [] aW<|zU ?_;refine sk (th (k+1) (qN ns x i) (xB (ns x) i) (by unfold xB;split;exact a.l x c;exact a.r x c) (qN ns x i x).add (qN ns x i x).turned) rfl aw.refl be ?_;rintro v H' rfl;refine bZ []<|cP<|dw ?_;refine⟨i+1,[0,1],⟨?_,rfl,rfl,rfl,rfl,be⟩,ab,?_,aa,aa⟩
  ·refine nb ?_;rw[cv aa];rfl
  ·obtain rfl|rfl:i=0∨i=1:=by omega
   ·rfl
   ·rfl
 ·obtain rfl:i=2:=by omega
  refine iP ?_
  (first|refine dX 1 { qN ns x 2 x with add:=0 } rfl rfl rfl rfl rfl rfl rfl bF rfl rfl [] rfl ?_|refine dP 1 { qN ns x 2 x with add:=0 } rfl rfl rfl rfl rfl rfl rfl bF rfl rfl [] rfl ?_)
  refine iu ?_
  (first|refine dX 1 { qN ns x 2 x with add:=0,turned:=false } rfl rfl rfl rfl rfl rfl rfl bF rfl rfl [] rfl ?_|refine dP 1 { qN ns x 2 x with add:=0,turned:=false } rfl rfl rfl rfl rfl rfl rfl bF rfl rfl [] rfl ?_)
  exact ah ⟨_,rfl,rfl⟩
variable {pf gn cap N:Nat}
def ev(ns:cG)(x:Nat):Nat->cG
 |0=>jv ns x { ns x with size:=1,least:=(ns x).value,most:=(ns x).value }
 |1=>iJ (jv ns x { ns x with size:=1,least:=(ns x).value,most:=(ns x).value }) x (ns x).l
 |_=>iq ns x
theorem tm(k:Nat)(ns:cG)(g:eK N ns)(x:Nat)(e:x<N):Fn 276 [.pointer (some ⟨pf,0,none⟩),.int .i64 (x:Int)] (ay (bT pf gn cap N k ns)) ([]++bT pf gn cap N k ns)
 λ _ H'=>H'=bT pf gn cap N k (iq ns x):=by
 generalize hM:ay _=M
 refine aT Tryz.func276 λ w0=>?_;refine iP ?_;refine cA ?_;refine fW 20 [0,1,2,3,4,5,6,7,8,9,10,11,12] 13 (dS [14,15]++[(16,false)]++dS [17,18]++[(19,false)]) aW<|zU ?_
 (first|refine dX 1 { ns x with size:=1 } rfl rfl rfl rfl rfl rfl rfl bF rfl rfl [] rfl ?_|refine dP 1 { ns x with size:=1 } rfl rfl rfl rfl rfl rfl rfl bF rfl rfl [] rfl ?_)
 refine nx ?_
 (first|refine dX 1 { ns x with size:=1,least:=(ns x).value } rfl rfl rfl rfl rfl rfl rfl bF rfl rfl [] rfl ?_|refine dP 1 { ns x with size:=1,least:=(ns x).value } rfl rfl rfl rfl rfl rfl rfl bF rfl rfl [] rfl ?_)
 refine nx ?_
 (first|refine dX 1 { ns x with size:=1,least:=(ns x).value,most:=(ns x).value } rfl rfl rfl rfl rfl rfl rfl bF rfl rfl [] rfl ?_|refine dP 1 { ns x with size:=1,least:=(ns x).value,most:=(ns x).value } rfl rfl rfl rfl rfl rfl rfl bF rfl rfl [] rfl ?_)
 refine bZ []<|gF ?_;show J _ _ _ _ (bT pf gn cap N k (ev ns x 0));refine iP ?_
 have j:(ev ns x 0 x).l=(ns x).l/\(ev ns x 0 x).r=(ns x).r:=by
  show (jv ns x _ x).l=_/\(jv ns x _ x).r=_;rw[eo];exact⟨rfl,rfl⟩
 refine aG (zN 1 rfl rfl rfl rfl e) ?_;rw[j.1,j.2];refine iu ?_;refine au ?_
 refine bS (σ:=Nat) (λ i=>[(35,af (i:Int)),(34,.agg [af (enc (ns x).l),af (enc (ns x).r)].toArray),(4,ap gn (x*9)),(1,af (x:Int)),(0,ap pf 0)])
  (λ i=>bT pf gn cap N k (ev ns x i)) (λ i=>i<=2) (λ i=>2-i) 0 [0,1] a8 ab rfl aa ?_
 intro i hi;refine ao ?_;refine am (ak rfl (λ b=>ag ?_) (λ o=>aO ?_))
 ·have b:i<2:=by omega
  have f:[af (enc (ns x).l),af (enc (ns x).r)][i]?=some (af (enc (xB (ns x) i))):=by
   obtain rfl|rfl:i=0\/i=1:=aa
   ·rfl
   ·rfl
  have d:xa N (xB (ns x) i):=by unfold xB;split;exact g.l x e;exact g.r x e
  have a:ev ns x (i+1)=iJ (ev ns x i) x (xB (ns x) i):=by
   obtain rfl|rfl:i=0\/i=1:=aa
   ·rfl
   ·rfl
  refine am (au ?_);refine bA ?_;refine aG (Ii rfl rfl rfl rfl rfl (by rfl) b f) ?_;refine iu ?_;refine ao ?_
  cases n:xB (ns x) i with
  |none=>
   rw[n] at a;refine nj 39 rfl (by simp[enc])<|bu rfl (ag ?_);refine ao ?_;refine⟨i+1,[0,1],⟨?_,rfl,rfl,rfl,rfl,be⟩,ab,?_,aa,aa⟩
   ·refine nb ?_;rw[cv aa];rfl
   ·rw[a];rfl
  |some c=>
   rw[n] at a d;have p:c<N:=d;refine pj 39 rfl (by simp[enc])<|dy ?_;refine iP ?_;refine cA ?_;refine fW 39 [0,1,2,3,4,5,6,7,8,9,10,11,12,13,14,15,16,17,18,19,20,21,22,23,24,25,26,27,28,29,30,31] 32 (dS [33,34]++[(35,false)]++dS [36,37]++[(38,false)]) aW<|zU ?_
   (first|refine dX 1 { ev ns x i x with size:=ei ((ev ns x i x).size+(ev ns x i c).size) } rfl rfl rfl rfl rfl rfl rfl bF rfl rfl [] rfl ?_|refine dP 1 { ev ns x i x with size:=ei ((ev ns x i x).size+(ev ns x i c).size) } rfl rfl rfl rfl rfl rfl rfl bF rfl rfl [] rfl ?_)
   refine nx ?_
   (first|refine dX 1 { ev ns x i x with size:=ei ((ev ns x i x).size+(ev ns x i c).size),least:=zD (ev ns x i x).least (ev ns x i c).least } rfl rfl rfl rfl rfl rfl rfl bF rfl rfl [] rfl ?_|refine dP 1 { ev ns x i x with size:=ei ((ev ns x i x).size+(ev ns x i c).size),least:=zD (ev ns x i x).least (ev ns x i c).least } rfl rfl rfl rfl rfl rfl rfl bF rfl rfl [] rfl ?_)
   refine nx ?_
   (first|refine dX 1 { ev ns x i x with size:=ei ((ev ns x i x).size+(ev ns x i c).size),least:=zD (ev ns x i x).least (ev ns x i c).least,most:=Fg (ev ns x i x).most (ev ns x i c).most } rfl rfl rfl rfl rfl rfl rfl bF rfl rfl [] rfl ?_|refine dP 1 { ev ns x i x with size:=ei ((ev ns x i x).size+(ev ns x i c).size),least:=zD (ev ns x i x).least (ev ns x i c).least,most:=Fg (ev ns x i x).most (ev ns x i c).most } rfl rfl rfl rfl rfl rfl rfl bF rfl rfl [] rfl ?_)
   refine bZ []<|cP<|dw ?_;refine⟨i+1,[0,1],⟨?_,rfl,rfl,rfl,rfl,be⟩,ab,?_,aa,aa⟩
   ·refine nb ?_;rw[cv aa];rfl
   ·rw[a];rfl
 ·obtain rfl:i=2:=by omega
  exact⟨_,rfl,rfl⟩
theorem tl(k:Nat)(ns:cG)(c:eK N ns)(x p:Nat)(b:x<N)(hp:(ns x).up=some p):Fn 279 [.pointer (some ⟨pf,0,none⟩),.int .i64 (x:Int)] (ay (bT pf gn cap N k ns)) ([]++bT pf gn cap N k ns)
 λ v H'=>v=.int .i64 (eN ns x p:Nat)/\H'=bT pf gn cap N k ns:=by
 have d:p<N:=by have:=c.up x b;rw[hp] at this;exact this
 generalize hM:ay _=M
 refine aT Tryz.func279 λ w0=>?_;refine iN ?_;refine bK 18 (dS [0,1,2,3,4,5,6,7,8,9,10,11,12,13,14,15,16,17]) [0,1] aW ab rfl<|Cn ?_;refine aF [999] rfl (dH (v:=af (p:Int)) (f:=0) 1 rfl rfl rfl rfl rfl b rfl (by show some (af (enc (ns x).up))=_;rw[hp];rfl)) rfl<|Cn ?_;refine gF ?_;unfold eN;by_cases a:(ns p).r=some x
 ·rw[if_pos a];refine pj 22 rfl (Hn.2 a)<|cA ?_;refine iN ?_;exact j7
 ·rw[if_neg a];refine nj 22 rfl (λ h=>a (Hn.1 h))<|cA ?_;refine ao ?_;exact j7
theorem xz(k:Nat)(ns:cG)(f:eK N ns)(c:Option Nat)(d:xa N c)(b:Nat)(e:b<N)(s:Nat)(a:s<2):Fn 275 [.pointer (some ⟨pf,0,none⟩),.int .i64 (enc c),.int .i64 (b:Int),.int .i64 (s:Int)] (ay (bT pf gn cap N k ns)) ([]++bT pf gn cap N k ns)
 λ _ H'=>H'=bT pf gn cap N k (gp ns c b s):=by
 generalize hM:ay _=M
 refine aT Tryz.func275 λ w0=>?_;refine iP ?_;refine aG (bd rfl a) ?_;refine ve 1 rfl rfl rfl rfl rfl e a [] rfl<|ah<|?_;show J _ _ _ _ (bT pf gn cap N k (jv ns b (dA (ns b) s c)));refine ao ?_
 cases c with
 |none=>
  exact nj 19 rfl (by simp[enc])<|bu rfl (ag ⟨_,rfl,rfl⟩)
 |some x=>
  have g:x<N:=d;refine pj 19 rfl (by simp[enc])<|dy ?_;refine iP ?_
  (first|refine dX 1 { jv ns b (dA (ns b) s (some x)) x with up:=some b } rfl rfl rfl rfl rfl rfl rfl bF rfl rfl [] rfl ?_|refine dP 1 { jv ns b (dA (ns b) s (some x)) x with up:=some b } rfl rfl rfl rfl rfl rfl rfl bF rfl rfl [] rfl ?_)
  exact ah ⟨_,rfl,rfl⟩
variable {pf gn cap N:Nat}
theorem yP(ns:cG)(x p:Nat):eN ns x p<2:=by unfold eN;split<;>omega
theorem J6(ns:cG)(p:Nat):rb ns p<2:=by
 unfold rb;split
 ·omega
 ·exact yP _ _ _
theorem lY(k:Nat)(ns:cG)(j:eK N ns)(x p:Nat)(b:x<N)(hp:(ns x).up=some p):Fn 280 [.pointer (some ⟨pf,0,none⟩),.int .i64 (x:Int)] (ay (bT pf gn cap N k ns)) ([]++bT pf gn cap N k ns)
 λ _ H'=>H'=bT pf gn cap N (k+1) (d9 ns x p):=by
 have a:p<N:=by have:=j.up x b;rw[hp] at this;exact this
 have i:xa N (ns p).up:=j.up p a;have D:=yP ns x p;have z:=J6 ns p
 generalize hM:ay _=M
 refine aT Tryz.func280 λ w0=>?_;refine iP ?_;refine aB 12 (v':=af (ei ((k+1:Nat):Int))) rfl (M8 (Value.int .i64) (tk _ _))<|iu ?_;refine iG ?_;show J _ _ _ _ (bT pf gn cap N (k+1) ns);refine iP ?_;refine bB 4 (v':=af (p:Int)) rfl (M8 (Value.int .i64) (gX hp))<|cA ?_;refine bK 13 (dS [0,1,2,3,4,5,6,7,8,9]++[(10,false)]++dS [11,12]) [0,1] aW ab rfl<|Cn ?_;refine aF [999] rfl (dH (f:=0) 1 rfl rfl rfl rfl rfl a rfl rfl) rfl<|Cn ?_;refine cz ?_;refine iy (tl (k+1) ns j x p b hp) rfl aw.refl be ?_;refine bZ [0,1]<|m8 ?_;refine gF ?_;show J _ _ _ _ (bT pf gn cap N (k+1) ns);refine ao ?_;refine gj [(7,af (rb ns p:Nat)),(6,af (eN ns x p:Nat)),(5,af (enc (ns p).up)),(4,af (p:Int)),(1,af (x:Int)),(0,ap pf 0)] (bT pf gn cap N (k+1) ns) ?_ ?_
 ·refine ao ?_
  cases q:(ns p).up with
  |none=>
   have e:rb ns p=0:=by unfold rb;rw[q]
   refine nj 35 rfl (by simp[enc])<|bu rfl (ag ⟨[0,1],⟨?_,rfl,rfl,rfl,rfl,rfl,be⟩,ab,rfl⟩);rw[e];rfl
  |some g=>
   have e:rb ns p=eN ns p g:=by unfold rb;rw[q]
   refine pj 35 rfl (by simp[enc])<|dy ?_;refine iP ?_;refine iy (tl (k+1) ns j p g a q) rfl aw.refl be ?_;refine iu ?_;refine⟨[0,1],⟨?_,rfl,rfl,rfl,rfl,rfl,be⟩,ab,rfl⟩;rw[e];rfl
 ·obtain⟨s,t⟩:∃ s,eN ns x p=s:=⟨_,rfl⟩;obtain⟨tp,u⟩:∃ s,rb ns p=s:=⟨_,rfl⟩;unfold d9;rw[t,u];rw[t] at D;rw[u] at z;have E:IntKind.i64.wrap (1-(s:Int))=((1-s:Nat):Int):=by rw[cv aa];omega
  have w:=j.hang (j.down b (1-s)) a s;have o:=w.hang (c:=some p) a b (1-s);have A:=o.upd (x:=x) (d:={ gp (gp ns (lV (ns x) (1-s)) p s) (some p) x (1-s) x with up:=(ns p).up }) i (o.l x b) (o.r x b);have y:=A.setG i b tp;have B:=y.pull a;refine iP ?_;refine aB 46 (v':=af ((1-s:Nat):Int)) rfl (M8 (Value.int .i64) E) ?_
  (repeat' (first|refine ah ?_|refine cD (gs:=[999]) rfl ?_|refine ae [999] (ad 0 rfl) rfl ?_|refine ae [999] (eu rfl bF) rfl ?_|refine ae [999] (bd (m:=0) rfl ab) rfl ?_|refine ae [999] (bd (m:=1) rfl ab) rfl ?_|refine ae [999] (ez 1 rfl rfl rfl rfl bF bF) rfl ?_|refine ae [999] (dH 1 rfl rfl rfl rfl rfl bF rfl rfl) rfl ?_))
  refine aG (bd rfl aa) ?_
  (repeat' (first|refine ah ?_|refine cD (gs:=[999]) rfl ?_|refine ae [999] (ad 0 rfl) rfl ?_|refine ae [999] (eu rfl bF) rfl ?_|refine ae [999] (bd (m:=0) rfl ab) rfl ?_|refine ae [999] (bd (m:=1) rfl ab) rfl ?_|refine ae [999] (ez 1 rfl rfl rfl rfl bF bF) rfl ?_|refine ae [999] (dH 1 rfl rfl rfl rfl rfl bF rfl rfl) rfl ?_))
  refine sk (xz (k+1) ns j (lV (ns x) (1-s)) (j.down b _) p a s D) rfl aw.refl be ?_;rintro v H' rfl;refine ah ?_;show J _ _ _ _ (bT pf gn cap N (k+1) _)
  (repeat' (first|refine am ?_|refine ag ?_|refine bD rfl ?_|refine bu rfl ?_))
  refine aC ?_
  (repeat' (first|refine ah ?_|refine cD (gs:=[999]) rfl ?_|refine ae [999] (ad 0 rfl) rfl ?_|refine ae [999] (eu rfl bF) rfl ?_|refine ae [999] (bd (m:=0) rfl ab) rfl ?_|refine ae [999] (bd (m:=1) rfl ab) rfl ?_|refine ae [999] (ez 1 rfl rfl rfl rfl bF bF) rfl ?_|refine ae [999] (dH 1 rfl rfl rfl rfl rfl bF rfl rfl) rfl ?_))
  refine aB 58 (v':=af ((1-s:Nat):Int)) rfl (M8 (Value.int .i64) E)<|sk (xz (k+1) _ w (some p) a x b (1-s) aa) rfl aw.refl be ?_;rintro v H' rfl;refine ah ?_;show J _ _ _ _ (bT pf gn cap N (k+1) _)
  (repeat' (first|refine am ?_|refine ag ?_|refine bD rfl ?_|refine bu rfl ?_))
  refine aC ?_
  (repeat' (first|refine ah ?_|refine cD (gs:=[999]) rfl ?_|refine ae [999] (ad 0 rfl) rfl ?_|refine ae [999] (eu rfl bF) rfl ?_|refine ae [999] (bd (m:=0) rfl ab) rfl ?_|refine ae [999] (bd (m:=1) rfl ab) rfl ?_|refine ae [999] (ez 1 rfl rfl rfl rfl bF bF) rfl ?_|refine ae [999] (dH 1 rfl rfl rfl rfl rfl bF rfl rfl) rfl ?_))
  (first|refine dX 1 { gp (gp ns (lV (ns x) (1-s)) p s) (some p) x (1-s) x with up:=(ns p).up } rfl rfl rfl rfl rfl rfl rfl bF rfl rfl [] rfl ?_|refine dP 1 { gp (gp ns (lV (ns x) (1-s)) p s) (some p) x (1-s) x with up:=(ns p).up } rfl rfl rfl rfl rfl rfl rfl bF rfl rfl [] rfl ?_)
  refine ah ?_;show J _ _ _ _ (bT pf gn cap N (k+1) _)
  generalize F:jv _ _ _=C at*
  refine gj [(4,af (p:Int)),(1,af (x:Int)),(0,ap pf 0)] (bT pf gn cap N (k+1) (Gk C (ns p).up tp x)) ?_ ?_
  ·refine ao ?_
   cases q:(ns p).up with
   |none=>
    exact nj 69 rfl (by simp[enc])<|bu rfl (ag ⟨[0,1],a8,ab,rfl⟩)
   |some g=>
    rw[q] at i;have n:g<N:=i;refine pj 69 rfl (by simp[enc])<|dy ?_;refine bA ?_
    (repeat' (refine cD (gs:=[999]) rfl ?_))
    refine ae [999] (ad 0 rfl) rfl ?_
    (repeat' (refine cD (gs:=[999]) rfl ?_))
    refine aB 74 (v':=af (g:Int)) rfl (M8 (Value.int .i64) (by first|exact gX q|rfl))<|ae [999] (eu rfl n) rfl<|?_
    (repeat' (refine cD (gs:=[999]) rfl ?_))
    refine aG (bd rfl z) ?_;exact ve (c:=some x) 1 rfl rfl rfl rfl rfl n z [] rfl<|ah ⟨[0,1],a8,ab,rfl⟩
  ·(repeat' (first|refine am ?_|refine ag ?_|refine bD rfl ?_|refine bu rfl ?_))
   refine aC ?_
   (repeat' (first|refine ah ?_|refine cD (gs:=[999]) rfl ?_|refine ae [999] (ad 0 rfl) rfl ?_|refine ae [999] (eu rfl bF) rfl ?_|refine ae [999] (bd (m:=0) rfl ab) rfl ?_|refine ae [999] (bd (m:=1) rfl ab) rfl ?_|refine ae [999] (ez 1 rfl rfl rfl rfl bF bF) rfl ?_|refine ae [999] (dH 1 rfl rfl rfl rfl rfl bF rfl rfl) rfl ?_))
   refine sk (tm (k+1) _ y p a) rfl aw.refl be ?_;rintro v H' rfl;refine ah ?_;show J _ _ _ _ (bT pf gn cap N (k+1) _)
   (repeat' (first|refine am ?_|refine ag ?_|refine bD rfl ?_|refine bu rfl ?_))
   refine aC ?_
   (repeat' (first|refine ah ?_|refine cD (gs:=[999]) rfl ?_|refine ae [999] (ad 0 rfl) rfl ?_|refine ae [999] (eu rfl bF) rfl ?_|refine ae [999] (bd (m:=0) rfl ab) rfl ?_|refine ae [999] (bd (m:=1) rfl ab) rfl ?_|refine ae [999] (ez 1 rfl rfl rfl rfl bF bF) rfl ?_|refine ae [999] (dH 1 rfl rfl rfl rfl rfl bF rfl rfl) rfl ?_))
   refine sk (tm (k+1) _ B x b) rfl aw.refl be ?_;rintro v H' rfl;exact ah ⟨_,rfl,by subst F;rfl⟩
def rR(l:List Oper):Bool:=l.all λ o=>match o.op with
 |.defer _=>false
 |_=>true
section
variable {P:Program} {ops:Array Oper} {R:Exit->Act->World->Prop}
theorem yG{n r:Nat}{row:String}{args:Array Value}{w:World}{K:Value->World->Prop}(h:Rows P row args w K):RowsIn (Fence.wide.inRound r) n P row args w K:=
 λ c cs _=>by obtain⟨v,w',r,s⟩:=h c cs;exact⟨v,w',r,stepsIn_wide.2 s⟩
theorem sI{r n:Nat}(b:¬ LetsOut R):∀ (l:List Oper) (a:Act) (w:World),rR l=true->wpList P ops R l a w->wpListIn (Fence.wide.inRound r) n P ops R l a w
 |[],_,_,_,h=>h
 |o::l,a,w,hp,h=>by
  simp only[rR,Pi,N2] at hp;have d:=λ a w=>sI (r:=r) (n:=n) b l a w hp.2;unfold wpList at h;unfold wpListIn;split
  ·rename_i hw;rw[if_pos hw] at h
   rcases h with h|⟨_,h⟩
   ·refine⟨fun _ _=>trivial,?_⟩;have i:o.semAt (Fence.wide.inRound r).round a.eval=execOp a.eval o:=Oper.semAt_eq _ a.eval o fun c j=>by rw[j] at hp;cases hp.1
    rw[i];unfold Oper.wp at h
    generalize (execOp a.eval o).run P w=res at*
    cases res with
    |ok x w'=>
     cases x<;>simp only[Oper.upon,Oper.uponIn] at h ⊢<;>first|exact d _ _ h|exact h.elim|skip
     ·refine⟨fun f=>(by simp[Fence.wide] at f),(CallsIn.inRound r (callsIn_wide.2 h)).mono ?_⟩;intro e g he
      cases e with
      |returned v=>exact d _ _ he
      |panicked p=>exact he
      |outgrown=>exact he
     ·exact⟨λ f=>(by simp[Fence.wide] at f),yG (h.mono λ v g m=>d _ _ m)⟩
    |halt x w'=>cases x<;>simp only[Oper.upon,Oper.uponIn] at h ⊢<;>first|exact h|exact h.elim
   ·exact absurd h b
  ·rename_i hw;rw[if_neg hw] at h;exact⟨λ _ _=>trivial,d _ _ h⟩
end
section
variable {X:Cx} {E E':Env} {H:Heap} {K:Env->Heap->Prop}
def JR(X:Cx)(r:Nat)(c:Code)(K:Env->Heap->Prop)(E:Env)(H:Heap):Prop:=∀ a w,gt X.n a E->dL X.w0 X.M w H->c.wpIn (Fence.wide.inRound r) 0 Tryz.prog (pR X (IV K)) a w
theorem C6:¬ LetsOut (pR X (IV K)):=λ ⟨_,_,_,_,_,_,h⟩=>h
theorem jo{r id:Nat}{l:List Oper}(hp:rR l=true)(h:JL X l l (IV K) E H):JR X r (.region id l.toArray false) K E H:=
 λ a w b c=>wpIn_region_lit (sI C6 l a w hp (h a w b c))
theorem zY{r id:Nat}{c:Code}(h:JR X r c K E H):JR X r (.block id c) K E H:=λ a w d f=>by
 refine wpIn_block (wpIn_mono (h a w d f) ?_);rintro e j w' ⟨E',H',g,i,b⟩
 cases e with
 |normal=>exact⟨E',H',g,i,b⟩
 |_=>exact b.elim
theorem AP{r:Nat}{x y:Code}(h:JR X r x (λ E' H'=>JR X r y K E' H') E H):JR X r (.seq x y) K E H:=λ a w c d=>by
 refine wpIn_seq (wpIn_mono (h a w c d) ?_);rintro e f w' ⟨E',H',g,i,b⟩
 cases e with
 |normal=>exact b f w' g i
 |_=>exact b.elim
end
def KJ(gf:FuncId)(lb:LV_)(S:Heap)(nr:Nat)(x:Nat->LV_):Prop:=
 ∀ (l:Nat) (J:Nat->World->Prop) (W:World),(∀ k W,J k W->∀ c∈S,c.holds W)->(∀ k W W',J k W->dL W [] W' []->J k W')->
   (∀ k W,k<nr->J k W->YieldAt Fence.wide 0 Tryz.prog l (x k).toArray W λ e W'=>e=.returned (.bool true)/\J (k+1) W')->
   J 0 W->Calls Tryz.prog gf (#[.func (.yield l) #[] #[]]++lb.toArray) W λ e W'=>(∃ v,e=.returned v)/\J nr W'
def wh:LN_->LV_->Env->Env
 |p::ps,v::vs,E=>wh ps vs ((p,v)::E)
 |_,_,E=>E
theorem gt.bind{n:Nat}:∀ (ps:LN_) (vs:LV_) (tmps:Array Value) (E:Env),(ps.all λ p=>Nat.blt p n)=true->gt ⟨n,[]⟩ { tmps:=tmps,defers:=[] } E->
 gt ⟨n,[]⟩ { tmps:=(ps.zip vs).foldl (λ t (p,v)=>t.setIfInBounds p v) tmps,defers:=[] } (wh ps vs E)
 |[],_,_,_,_,h=>h
 |p::ps,[],tmps,E,_,h=>h
 |p::ps,v::vs,tmps,E,hp,h=>by
  simp only[Pi,N2] at hp;have a:gt ⟨n,[]⟩ { tmps:=tmps.setIfInBounds p v,defers:=[] } ((p,v)::E):=h.put (d:=p) (by simpa using hp.1) v;exact gt.bind ps vs _ _ hp.2 a
abbrev sH(D:Nat):Deferred:={ target:=.collected D,args:=#[] }
abbrev uA:Obj:=.deferred (some [])
section
variable {w0:World} {M:LN_} {n:Nat} {E:Env} {H:Heap} {R:Exit->Act->World->Prop}
theorem dL.turn{w:World}{o o':Obj}{r:Nat}{K:Heap}(h:dL w0 M w (.obj r o::K)):dL w0 M (w.putObj r o') (.obj r o'::K):=by
 have c:w.heap[r]?=some o:=h.holds (.obj r o) ai;have a:=(OL.1 c).1;refine h.step (d:=.obj r o') 0 rfl rfl rfl rfl ai (λ k _ f=>World.putObj_heap_other (λ e=>f (by rw[e];rfl))) (World.putObj_heap_same a) (λ b g=>.inl g)
theorem dL.tail{w:World}{c:aU}{K:Heap}(h:dL w0 M w (c::K)):dL w0 M w K:=h.sub (NU c K)
theorem dL.after{w w':World}{K:Heap}(h:dL w0 M w K)(a:dL w [] w' []):dL w0 M w' K:=by
 have f:∀ k,k<w.heap.size->w'.heap[k]?=w.heap[k]?:=λ k d=>a.keep k d ai;refine⟨a.os.trans h.os,a.tape.trans h.tape,a.output.trans h.output,Ot h.size a.size,λ k d hM=>?_,λ c g=>?_,h.own,h.dis⟩
 ·rw[f k (Pa d h.size)];exact h.keep k d hM
 ·exact aU.holds_of (h.holds c g) λ b e=>f b (aU.at_lt (h.holds c g) e)
theorem Gi{X:Cx}{x y:Code}(h:W X x (Exit.then (y.wp Tryz.prog R) R) E H):W X (.seq x y) R E H:=λ a w b c=>wp_seq (h a w b c)
theorem CL{X:Cx}{id:Nat}{c:Code}(h:W X c (Exit.inBlock id R) E H):W X (.block id c) R E H:=λ a w b d=>wp_block (h a w b d)
theorem JD{g:Operand}{ps:LN_}{assign body:Code}{gf:FuncId}{lb:LV_}{S:Heap}{nr:Nat}{x:Nat->LV_}(d:Nat->Heap)(hg:val E g=some (.func (.func gf) #[] lb.toArray))(hc:eg gf=true)
 (hit:KJ gf lb S nr x) (A:∀ k,k<nr->(x k).length=ps.length) (B:(ps.all λ p=>Nat.blt p n)=true) (hS:∀ k W,dL w0 M W (d k)->∀ c∈S,c.holds W)
 (f:∀ r D k (o q:Obj),k<nr->JR ⟨w0,M,⟨n,[]⟩⟩ r assign (λ Z H1=>H1=(.obj r o::.obj D uA::d k)/\
  JR ⟨w0,M,⟨n,[]⟩⟩ r body (λ _ H2=>∃ ix:LN_,ix.Nodup/\cI H2 ix=some (.obj r q::.obj D uA::d (k+1))) Z (.obj r q::.obj D uA::d k)) (wh ps (x k) E) (.obj r o::.obj D uA::d k))
 (i:∀ D a w,gt ⟨n,[sH D]⟩ a E->dL w0 M w (.obj D uA::d nr)->R .normal a w):W ⟨w0,M,⟨n,[]⟩⟩ (.rangeFunc g ps.toArray assign body) R E (d 0):=by
 intro a w m hH;refine (wpIn_wide (n:=0)).1 (wpIn_rangeFunc ?_);intro fn _;obtain⟨rec,b⟩:∃ rec:LoopState->Option Code->Loop,rec=λ st pe=>{ state:=st,pending:=pe,fn,tmps:=a.tmps,params:=ps.toArray,assign,body,defers:=w.heap.size }:=⟨_,rfl⟩;obtain⟨j,s⟩:∃ j,(w.alloc (.deferred (some []))).alloc (.loop (rec .ready none))=j:=⟨_,rfl⟩
 have C:dL w0 M j (.obj (w.heap.size+1) (.loop (rec .ready none))::.obj w.heap.size uA::d 0):=by
  have:=(hH.alloc uA).alloc (.loop (rec .ready none));rw[World.size_alloc] at this;rw[<- s];exact this
 have I:a.eval g=.func (.func gf) #[] lb.toArray:=m.val hg;refine⟨w.heap.size+1,[sH w.heap.size],j,{ target:=.fn (.func gf) lb.toArray,args:=#[.func (.yield (w.heap.size+1)) #[] #[]] },j,gf,#[.func (.yield (w.heap.size+1)) #[] #[]]++lb.toArray,j,?_,?_,λ _ _=>trivial,?_,λ hd=>(by simp[Fence.wide] at hd),?_⟩
 ·rw[<- s,b];exact run_enterLoop_outer _ _ _ _ _
 ·simp only[resolve,I];simp[go_sem]
 ·simp[invoke,iR hc]
 ·refine (callsIn_wide.2 (hit (w.heap.size+1) (λ k W=>dL w0 M W (.obj (w.heap.size+1) (.loop (rec .ready none))::.obj w.heap.size uA::d k)) j (λ k W h=>hS k W h.tail.tail) (λ k W W' h h'=>h.after h') ?_ C)).mono ?_
  ·intro k W hk h;have hl:W.heap[w.heap.size+1]?=some (.loop (rec .ready none)):=h.holds (.obj _ _) ai;have hy:=run_yield (P:=Tryz.prog) (args:=(x k).toArray) hl (by rw[b];simp[A k hk]);rw[b] at hy;refine⟨fn,_,assign,body,hy,roundIn_of_wpIn trivial ?_⟩
   have L:gt ⟨n,[]⟩ { tmps:=((ps.toArray.zip (x k).toArray).foldl (λ t (p,v)=>t.setIfInBounds p v) a.tmps),defers:=[] } (wh ps (x k) E):=by
    have:=gt.bind ps (x k) a.tmps E B ⟨m.size,rfl,m.get⟩
    have e:(ps.toArray.zip (x k).toArray).foldl (λ t (p,v)=>t.setIfInBounds p v) a.tmps=(ps.zip (x k)).foldl (λ t (p,v)=>t.setIfInBounds p v) a.tmps:=by
     rw[<- PX];simp
    rw[e];exact this
   refine wpIn_mono (f (w.heap.size+1) w.heap.size k (.loop (rec .ready none)) (.loop { rec .ready none with state:=.busy }) hk _ W L h) ?_;rintro e a1 N ⟨Z,H1,O,u,hq⟩
   cases e with
   |normal=>
    obtain⟨rfl,hb⟩:=hq;have Q:N.heap[w.heap.size+1]?=some (.loop (rec .ready none)):=u.holds (.obj _ _) ai;refine⟨_,run_beginRound Q (by rw[b]),?_⟩;refine wpIn_mono (hb a1 _ O u.turn) ?_;rintro e a3 W3 ⟨E3,H3,h1,U,y⟩
    cases e with
    |normal=>
     obtain⟨ix,V,hp⟩:=y;have z:=U.picks ix V hp;have Y:W3.heap[w.heap.size+1]?=some (.loop { rec .ready none with state:=.busy }):=z.holds (.obj _ _) ai;refine⟨_,_,run_endRound none Y,rfl,?_⟩;have:=z.turn (o':=.loop (rec .ready none));rw[b] at this ⊢;exact this
    |_=>exact y.elim
   |_=>exact hq.elim
  ·rintro e N ⟨⟨v,rfl⟩,h⟩;have hl:N.heap[w.heap.size+1]?=some (.loop (rec .ready none)):=h.holds (.obj _ _) ai;refine⟨none,_,by have:=run_endLoop (P:=Tryz.prog) hl (by rw[b];simp);rw[b] at this;exact this,?_⟩;have z:=h.turn (o':=.loop (rec .exhausted none));rw[b] at z;exact i w.heap.size _ _ ⟨m.size,by show [_]++a.defers=_;rw[m.defers];rfl,m.get⟩ z.tail
def KX(fn:Func)(w0:World)(M:LN_)(Rr:Value->Heap->Prop):Exit->Act->World->Prop:=λ e a w=>
 (e=.normal\/e=.ret)/\∃ E' H' D,gt ⟨fn.ntmps,[sH D]⟩ a E'/\dL w0 M w (.obj D uA::H')/\∃ vs,vw E' fn.results.toList=some vs/\Rr (mZ vs) H'
def MH(D:Nat)(rs:List ResultVar)(Rr:Value->Heap->Prop):e6:=λ e E H=>(e=.normal\/e=.ret)/\∃ H' ix,List.Nodup ix/\cI H ix=some (.obj D uA::H')/\∃ vs,vw E rs=some vs/\Rr (mZ vs) H'
theorem KF{D:Nat}{fn:Func}{c:Code}{Rr:Value->Heap->Prop}(h:J ⟨w0,M,⟨fn.ntmps,[sH D]⟩⟩ c (MH D fn.results.toList Rr) E H){a:Act}{w:World}(g:gt ⟨fn.ntmps,[sH D]⟩ a E)(i:dL w0 M w H):c.wp Tryz.prog (KX fn w0 M Rr) a w:=by
 refine wp_mono (h a w g i) ?_;rintro e p w' ⟨E',H',b,d,he,j,ix,f,hp,vs,m,o⟩;exact⟨he,E',j,D,b,d.picks ix f hp,vs,m,o⟩
theorem FK{f:FuncId}{fn:Func}{c:Code}{args:LV_}{Rr:Value->Heap->Prop}(i:Tryz.prog.funcs[f]?=some fn)(j:fn.body=some c)(m:Nat.ble args.length fn.ntmps=true)
 (h:∀ w0,W ⟨w0,M,⟨fn.ntmps,[]⟩⟩ c (KX fn w0 M Rr) (pE 0 args) H):Fn f args M H Rr:=by
 intro w o;refine (callsIn_wide (n:=0)).1 (callsIn_of_wp_marks i j be (wpIn_wide.2 ?_));refine wp_mono (h w _ w (nC m) o) ?_
 have key:∀ a w',(∃ E' H' D,gt ⟨fn.ntmps,[sH D]⟩ a E'/\dL w M w' (.obj D uA::H')/\∃ vs,vw E' fn.results.toList=some vs/\Rr (mZ vs) H')->
  LeavesInM Fence.wide 0 Tryz.prog fn a.tmps (λ e w'=>∃ v H',e=.returned v/\dL w M w' H'/\Rr v H') a.defers .returning w':=by
  rintro a w' ⟨E',H',D,b,d,vs,p,q⟩;rw[b.defers];have r:w'.heap[D]?=some (.deferred (some [])):=d.holds (.obj D uA) ai;refine⟨ai,.inl ⟨D,_,rfl,run_takeDeferred r,?_⟩⟩;exact⟨mZ vs,jJ b p _,mZ vs,H',rfl,(d.turn (o':=.deferred none)).tail,q⟩
 rintro e a w' ⟨rfl|rfl,g⟩
 ·exact key a w' g
 ·exact key a w' g
end
section
variable {G:Nat->World->Prop} {n:Nat} {S:Heap} {E F:Env} {k nr l:Nat} {x:Nat->LV_} {ops:List Oper} {R:Exit->Act->World->Prop}
def y6:Heap->Bool
 |[]=>true
 |.seg ..::H=>y6 H
 |_=>false
theorem oJ:∀ {S:Heap},y6 S=true->∀ c∈S,c.mine=none
 |[],_,c,a=>by cases a
 |.seg ..::S,h,c,a=>by
  rcases Nl.1 a with rfl|a
  ·rfl
  ·exact oJ (S:=S) h c a
 |.obj ..::_,h,_,_=>by cases h
 |.own ..::_,h,_,_=>by cases h
 |.tab ..::_,h,_,_=>by cases h
theorem yo{w:World}(d:y6 S=true)(h:∀ c∈S,c.holds w):dL w [] w S:=by
 refine⟨rfl,rfl,rfl,Np _,λ _ _ _=>rfl,h,λ c e b a=>(by rw[oJ d c e] at a;cases a),?_⟩;rw[N6];intro i j hi f _;have g:=oJ d _ (Ox hi);have m:=oJ d _ (Ox f);exact⟨λ b a=>(by rw[g] at a;cases a),λ b a=>(by rw[m] at a;cases a)⟩
def JY(G:Nat->World->Prop)(n:Nat)(ops l:List Oper)(R:Exit->Act->World->Prop)(E:Env)(k:Nat):Prop:=∀ a w,gt ⟨n,[]⟩ a E->G k w->wpListIn Fence.wide 0 Tryz.prog ops.toArray R l a w
theorem ry{P:Program}{ops:Array Oper}{R Rn:Exit->Act->World->Prop}{i:List Oper}(b:¬ LetsOut Rn)(j:∀ e a w,e≠.normal->¬ Rn e a w)(p:∀ a w,Rn .normal a w->wpListIn Fence.wide 0 P ops R i a w):
 ∀ (d:List Oper) (a:Act) (w:World),rR d=true->wpList P ops Rn d a w->wpListIn Fence.wide 0 P ops R (d++i) a w
 |[],a,w,_,h=>p a w h
 |o::d,a,w,hp,h=>by
  simp only[rR,Pi,N2] at hp;have g:=λ a w=>ry b j p d a w hp.2;unfold wpList at h;show wpListIn _ _ _ _ _ (o::(d++i)) a w;unfold wpListIn;split
  ·rename_i hw;rw[if_pos hw] at h
   rcases h with h|⟨_,h⟩
   ·refine⟨λ _ _=>trivial,?_⟩;have q:o.semAt Fence.wide.round a.eval=execOp a.eval o:=Oper.semAt_none a.eval o;rw[q];unfold Oper.wp at h
    generalize (execOp a.eval o).run P w=res at*
    cases res with
    |ok x w'=>
     cases x<;>simp only[Oper.upon,Oper.uponIn] at h ⊢<;>first|exact g _ _ h|exact h.elim|skip
     ·refine⟨fun m=>(by simp[Fence.wide] at m),(callsIn_wide.2 h).mono ?_⟩;intro e f he
      cases e with
      |returned v=>exact g _ _ he
      |panicked t=>exact absurd he (j _ _ _ ai)
      |outgrown=>exact absurd he b
     ·refine⟨λ m=>(by simp[Fence.wide] at m),λ c cs _=>?_⟩;obtain⟨v,f,r,s⟩:=h c cs;exact⟨v,f,g _ _ r,stepsIn_wide.2 s⟩
    |halt x w'=>cases x<;>simp only[Oper.upon,Oper.uponIn] at h ⊢<;>first|exact absurd h (j _ _ _ ai)|exact h.elim
   ·exact absurd h b
  ·rename_i hw;rw[if_neg hw] at h;exact⟨λ _ _=>trivial,g _ _ h⟩
theorem wV{b:List Oper}(m:Nat)(q:y6 S=true)(f:∀ k W,G k W->∀ c∈S,c.holds W)(g:∀ k W o,G k W->dL W [] o []->G k o)(hp:rR (b.take m)=true)(r:∀ w,JL ⟨w,[],⟨n,[]⟩⟩ ops (b.take m) (IV λ E' _=>nP E' F) E S)(s:JY G n ops (b.drop m) R F k):JY G n ops b R E k:=by
 intro a w t p;rw[<- Oh m b];refine ry (Rn:=pR ⟨w,[],⟨n,[]⟩⟩ (IV λ E' _=>nP E' F)) C6 (λ e a w h d=>?_) ?_ _ a w hp (r w a w t (yo q (f k w p)))
 ·obtain⟨_,_,_,_,d⟩:=d
  cases e with
  |normal=>exact h rfl
  |_=>exact d
 ·rintro u w' ⟨E',H',i,j,d⟩;exact s u w' (i.ents F d) (g k w w' p (j.mono (λ c v=>by cases v) List.Pairwise.nil))
theorem FW{d:List Oper}{o:Oper}{f:Operand}{args:Array Operand}{ts:Array TypeId}{E':Env}(i:∀ k W,k<nr->G k W->YieldAt Fence.wide 0 Tryz.prog l (x k).toArray W λ e g=>e=.returned (.bool true)/\G (k+1) g)(j:k<nr)
 (m:o.op=.call ⟨.value f,args,ts⟩) (p:o.guard=none) (q:val E f=some (.func (.yield l) #[] #[])) (r:vals E args.toList=some (x k)) (s:wW ⟨n,[]⟩ o.dst (.bool true) E=some E') (h:JY G n ops d R E' (k+1)):JY G n ops (o::d) R E k:=by
 intro a w b t;obtain⟨fn,tmps,assign,body,u,v⟩:=i k w j t;unfold wpListIn;rw[if_pos (by simp[Region.wanted,p])];refine⟨λ _ _=>trivial,?_⟩
 have y:args.map a.eval=(x k).toArray:=by
  rw[<- b.vals _ _ r];exact Array.ext' ai
 have z:o.semAt Fence.wide.round a.eval=execOp a.eval o:=Oper.semAt_none a.eval o
 have he:(execOp a.eval o).run Tryz.prog w=.ok (.round l fn tmps assign body) w:=by
  simp[execOp,m,resolve,invoke,Deferred.ofValue,b.val q,y,u]
 rw[z,he,Oper.uponIn_round];refine⟨λ A=>(by simp[Fence.wide] at A),v.mono ?_⟩;rintro e g ⟨rfl,c⟩;exact h _ _ (b.putE s) c
theorem Ip(h:∀ a w,gt ⟨n,[]⟩ a E->G k w->R .normal a w):JY G n ops [] R E k:=h
def WG(G:Nat->World->Prop)(n:Nat)(c:Code)(R:Exit->Act->World->Prop)(E:Env)(k:Nat):Prop:=∀ a w,gt ⟨n,[]⟩ a E->G k w->c.wp Tryz.prog R a w
theorem wy{id:Nat}{l:List Oper}(h:JY G n l l R E k):WG G n (.region id l.toArray false) R E k:=λ a w b c=>(wpIn_wide (n:=0)).1 (wpIn_region_lit (h a w b c))
theorem mx{x y:Code}(h:WG G n x (Exit.then (y.wp Tryz.prog R) R) E k):WG G n (.seq x y) R E k:=λ a w b c=>wp_seq (h a w b c)
theorem nD{c:Code}{Q:e6}(o:y6 S=true)(d:∀ k W,G k W->∀ c∈S,c.holds W)(f:∀ k W j,G k W->dL W [] j []->G k j)(h:∀ w,J ⟨w,[],⟨n,[]⟩⟩ c Q E S)
 (p:∀ e E' a w',gt ⟨n,[]⟩ a E'->G k w'->(∃ w H',dL w [] w' H'/\Q e E' H')->R e a w'):WG G n c R E k:=by
 intro a w q m;refine wp_mono (h w a w q (yo o (d k w m))) ?_;rintro e r w' ⟨E',H',g,b,i⟩;exact p e E' r w' g (f k w w' m (b.mono (λ c s=>by cases s) List.Pairwise.nil)) ⟨w,H',b,i⟩
end
def jE(W:LN_):LV_:=aj (W.map λ (i:Nat)=>(i:Int))
theorem DW{W:LN_}{k r:Nat}(h:W[k]?=some r):(jE W)[k]?=some (.int .i64 (r:Int)):=ep (by rw[Ni,h];rfl)
theorem zE(A:OA_)(m c:Nat):Fn 277 [.slice A m c] [] [] λ v H'=>∃ b,v=.func (.func 282) #[] #[.pointer (some ⟨b,0,none⟩)]/\H'=[blk b 23 [.slice A m c]]:=by
 refine aT Tryz.func277 λ w0=>?_;refine bA ?_;refine dh λ b=>?_;refine cS ?_;exact bM ⟨_,rfl,b,rfl,rfl⟩
def HK(W:LN_)(k:Nat):LV_:=[.int .i64 ((W.length-1-k:Nat):Int),.int .i64 ((W.getD (W.length-1-k) 0:Nat):Int)]
theorem Bh(W:LN_)(b g c:Nat)(U:W.length<=100000):KJ 282 [.pointer (some ⟨b,0,none⟩)] [.seg b 0 [.slice (some ⟨g,0,none⟩) W.length c],.seg g 0 (jE W)] W.length (HK W):=by
 intro l G w f o L M;refine calls_of_wp Tryz.func282 rfl ?_;have C:=nC (n:=19) (args:=[.func (.yield l) #[] #[],ap b 0]) rfl
 suffices d:WG G 19 _ (bodyPost Tryz.prog _ λ e N=>(∃ v,e=.returned v)/\G W.length N) (pE 0 [.func (.yield l) #[] #[],ap b 0]) 0 from d _ _ C M
 refine mx (nD (Q:=IV λ t _=>nP t [(3,af ((W.length:Int)-1)),(1,ap b 0),(0,.func (.yield l) #[] #[])]) (S:=[.seg b 0 [ax g 0 W.length c],.seg g 0 (jE W)]) rfl f o (λ w=>?_) ?_)
 ·refine aC<|rT ?_;refine az ?_;refine ah ⟨?_,rfl,rfl,be⟩;exact M8 some (M8 (Value.int .i64) (cv aa))
 ·rintro e t a w' q r ⟨I,H',_,u⟩
  cases e with
  |normal=>
   have q:=q.ents _ u
   clear u
   refine wp_block (wp_loop_ghost (λ m a w=>∃ k,m=W.length-k/\k<=W.length/\gt ⟨19,[]⟩ a [(3,af ((W.length:Int)-1-k)),(1,ap b 0),(0,.func (.yield l) #[] #[])]/\G k w) W.length ⟨0,rfl,Nk _,?_,r⟩ ?_)
   ·have e:(W.length:Int)-1-((0:Nat):Int)=(W.length:Int)-1:=by omega
    rw[e];exact q
   clear q r
   rintro m a w ⟨k,rfl,V,q,r⟩
   suffices d:WG G 19 _ _ [(3,af ((W.length:Int)-1-k)),(1,ap b 0),(0,.func (.yield l) #[] #[])] k from d _ _ q r
   clear q r
   by_cases y:k<W.length
   ·have O:(W.length:Int)-1-k=((W.length-1-k:Nat):Int):=by omega
    obtain⟨j,K⟩:∃ j,W.length-1-k=j:=⟨_,rfl⟩;have z:j<W.length:=aa;have A:W[j]?=some (W.getD j 0):=by rw[Nc,an z];rfl
    rw[O,K];refine mx (nD (Q:=IV λ t _=>nP t [(3,af (j:Int)),(1,ap b 0),(0,.func (.yield l) #[] #[])]) (S:=[.seg b 0 [ax g 0 W.length c],.seg g 0 (jE W)]) rfl f o (λ w=>?_) ?_)
    ·refine ao ?_;exact pj 8 rfl aa<|bD rfl (ag a8)
    ·rintro e P R I p s ⟨_,_,_,u⟩
     cases e with
     |normal=>
      have p:=p.ents _ u
      suffices d:WG G 19 _ _ [(3,af (j:Int)),(1,ap b 0),(0,.func (.yield l) #[] #[])] k from d _ _ p s
      refine mx λ a w q r=>wp_block ?_
      suffices d:WG G 19 _ _ [(3,af (j:Int)),(1,ap b 0),(0,.func (.yield l) #[] #[])] k from d _ _ q r
      refine mx (wy ?_);refine wV (S:=[.seg b 0 [ax g 0 W.length c],.seg g 0 (jE W)]) (F:=[(16,af ((W.getD j 0:Nat):Int)),(12,af (j:Int)),(11,.func (.yield l) #[] #[]),(3,af (j:Int)),(1,ap b 0),(0,.func (.yield l) #[] #[])]) 6 rfl f o rfl (λ w=>?_) ?_
      ·show JL _ _ [_,_,_,_,_,_] _ _ _;refine az ?_;refine rT ?_;refine az ?_;refine aG (bG rfl z) ?_;refine aG (fA (i:=j) 1 rfl rfl rfl (NO _).symm (DW A)) ?_;exact ah a8
      ·refine FW L y rfl rfl rfl (by unfold HK;rw[K];rfl) rfl<|wV (S:=[.seg b 0 [ax g 0 W.length c],.seg g 0 (jE W)]) (F:=[(18,.bool false),(3,af (j:Int)),(1,ap b 0),(0,.func (.yield l) #[] #[])]) 1 rfl f o rfl (fun w=>?_) (Ip fun a w q r=>?_)
       ·exact c8 [] rfl a8
       ·refine wp_cond_false (q.val (x:=.tmp 18) rfl) (wp_skip ?_)
        suffices d:WG G 19 _ _ [(18,.bool false),(3,af (j:Int)),(1,ap b 0),(0,.func (.yield l) #[] #[])] (k+1) from d _ _ q r
        refine nD (Q:=IV λ t _=>nP t [(3,af ((W.length:Int)-1-((k+1:Nat):Int))),(1,ap b 0),(0,.func (.yield l) #[] #[])]) (S:=[.seg b 0 [ax g 0 W.length c],.seg g 0 (jE W)]) rfl f o (λ w=>?_) ?_
        ·refine ao ?_;refine⟨?_,rfl,rfl,be⟩;exact M8 some (M8 (Value.int .i64) ((cv aa).trans aa))
        ·rintro e X a2 Y D H ⟨_,_,_,B⟩
         cases e with
         |normal=>exact⟨W.length-(k+1),aa,k+1,rfl,y,D.ents _ B,H⟩
         |_=>exact B.elim
     |_=>exact u.elim
   ·obtain rfl:k=W.length:=by omega
    refine mx (nD (Q:=λ e _ _=>e=.exit 0) (S:=[.seg b 0 [ax g 0 W.length c],.seg g 0 (jE W)]) rfl f o (λ w=>?_) ?_)
    ·refine ao ?_;exact nj 8 rfl aa<|bu rfl (aO rfl)
    ·rintro e P R I p s ⟨_,_,_,rfl⟩;simp only[Exit.then,Exit.inBlock,O8];exact⟨p.defers,_,jJ (E:=[]) (p.ents [] be) rfl _,⟨_,rfl⟩,s⟩
  |_=>exact u.elim
variable {pf gn cap N:Nat}
theorem Up.get{ns:cG}:∀ {path:LN_} {x i y:Nat},Up ns x path->path[i]?=some y->(ns y).up=path[i+1]?
 |[],_,_,_,h,_=>h.elim
 |[z],x,0,y,⟨b,c⟩,a=>by
  simp only[Oe,Na] at a;subst a;subst b;simpa using c
 |[z],x,i+1,y,_,a=>by simp at a
 |z::d::l,x,0,y,⟨b,c,_⟩,a=>by
  simp only[Oe,Na] at a;subst a;subst b;simpa using c
 |z::d::l,x,i+1,y,⟨_,_,e⟩,a=>by
  have:=Up.get (i:=i) (y:=y) e (by simpa using a)
  simpa using this
theorem Up.head{ns:cG}{path:LN_}{x:Nat}(h:Up ns x path):path[0]?=some x:=by
 match path,h with
 |[z],⟨a,_⟩=>rw[a];rfl
 |z::_::_,⟨a,_⟩=>rw[a];rfl
theorem tQ(ns:cG):∀ (l:LN_) (x:Nat),fY ns (l++[x])=fg (fY ns l) x
 |[],_=>rfl
 |y::l,x=>tQ (fg ns y) l x
theorem AC(W:LN_)(i:Nat)(y:Nat)(h:W[i]?=some y):jE (W.take i)++aj [(y:Int)]=jE (W.take (i+1)):=by
 rw[Nv,h];simp[jE,aj]
theorem Hk(k:Nat)(ns:cG)(Z:eK N ns)(x:Nat)(hx:x<N)(path:LN_)(Y:Up ns x path)(hr:path.length<=10000)(e:cG)(k1:Nat)(hR:Fw (fY ns path.reverse) x e k1):
 Fn 264 [.pointer (some ⟨pf,0,none⟩),.int .i64 (x:Int)] (ay (bT pf gn cap N k ns)) ([]++bT pf gn cap N k ns) λ _ H'=>H'=bT pf gn cap N (k+(path.length+k1)) e:=by
 have o:=Y.lt Z hx
 generalize hM:ay _=M
 refine FK Tryz.func264 rfl rfl λ w0=>pn (aC ?_);refine dh λ t=>?_;refine ah<|pn (aC ?_);refine az ?_;refine dp λ pg=>?_;refine lH 1 1 rfl ab<|az ?_;refine ah<|pn (am (aC ?_));have C:=Y.head;have hlen:0<path.length:=(Nb.1 C).1
 (repeat' (first|refine cD (gs:=[999]) rfl ?_|refine ae [999] (ad 1 rfl) rfl ?_|refine ae [999] (ad 2 rfl) rfl ?_|refine ae [999] (eu rfl bF) rfl ?_|refine ae [999] (dH 3 rfl rfl rfl rfl rfl bF rfl rfl) rfl ?_))
 refine ah ?_;have e1:(Value.int IntKind.i64 (x:Int)).cells.toList++[]=jE (path.take (0+1)):=by rw[Nv,C];rfl
 rw[e1];refine bB 5 (v':=af (enc path[0+1]?)) rfl (M8 (λ c=>af (enc c)) (Y.get C))<|au<|?_
 refine bS (σ:=Nat×OA_×Nat) (λ s=>[(5,af (enc path[s.1+1]?)),(4,.slice s.2.1 (s.1+1) s.2.2),(2,ap t 0),(1,af (x:Int)),(0,ap pf 0)])
  (λ s=>[.own (.slice s.2.1 (s.1+1) s.2.2) 3 1 (s.1+1) (jE (path.take (s.1+1))),blk t 315 [ap pf 0]]++bT pf gn cap N k ns) (λ s=>s.1<path.length) (λ s=>path.length-s.1) (0,aJ pg 0,1) [0,1,2,3] a8 ab rfl hlen ?_
 rintro⟨i,A,c⟩ hi;simp only at hi ⊢;refine ao ?_
 cases u:path[i+1]? with
 |some y=>
  have L:=o y (M9 u);have B:i+1<path.length:=(Nb.1 u).1;refine bB 20 (v':=.bool true) rfl (M8 Value.bool (aV (by simp[enc]))) (bD rfl (ag ?_));refine am (au ?_);refine aI ?_;refine dp λ g4=>?_;refine bp (n:=i+1) (m:=1) (off:=0) (news:=aj [(y:Int)]) 1 0 rfl rfl rfl rfl rfl rfl ab rfl rfl (aQ g4 _ _ (0,0)) aE rfl rfl aa aa (λ _ _=>rfl) λ A4 c4=>?_;rw[AC path (i+1) y u];refine az ?_;refine ah ?_;show J _ _ _ _ ([_,_,_]++bT pf gn cap N k ns);refine bA ?_
  (repeat' (first|refine cD (gs:=[999]) rfl ?_|refine ae [999] (ad 2 rfl) rfl ?_|refine ae [999] (ad 3 rfl) rfl ?_|refine ae [999] (eu rfl bF) rfl ?_|refine ae [999] (dH 4 rfl rfl rfl rfl rfl bF rfl rfl) rfl ?_))
  exact ah<|⟨(i+1,A4,c4),[1,2,3,4],⟨M8 some (M8 (λ c=>af (enc c)) (Y.get u)),rfl,rfl,rfl,rfl,be⟩,ab,rfl,B,by simp only;omega⟩
 |none=>
  have B:i+1=path.length:=by have:=List.getElem?_eq_none_iff.1 u;omega
  refine bB 20 (v':=.bool false) rfl (M8 Value.bool (aZ (by simp[enc]))) (bu rfl (aO ?_));rw[B,NH];show W _ _ _ _ ([_,_]++bT pf gn cap N k ns)
  clear hi u B
  refine Gi ?_;intro a w O F
  obtain⟨f,rfl⟩:∃ f,A=aJ f 0:=by
   obtain⟨_,_,h3,_⟩:=aH (X:=⟨w0,M,⟨82,[]⟩⟩) 0 rfl w F;exact h3 hlen
  revert a w O F
  suffices hW:W ⟨w0,M,⟨82,[]⟩⟩ _ _ [(4,ax f 0 path.length c),(2,ap t 0),(1,af (x:Int))] ([.own (ax f 0 path.length c) 3 1 path.length (jE path),blk t 315 [ap pf 0]]++bT pf gn cap N k ns) from
   λ a w O F=>hW a w (O.ents _ a8) F
  refine pn (aC ?_);refine az ?_;refine fh (zE (aJ f 0) path.length c) rfl be ?_;rintro v H' ⟨P,rfl,rfl⟩;refine ah<|CL<|?_
  refine JD (nr:=path.length) (x:=HK path) (gf:=282) (lb:=[ap P 0]) (S:=[.seg P 0 [ax f 0 path.length c],.seg f 0 (jE path)])
   (λ i=>[blk P 23 [ax f 0 path.length c],.own (ax f 0 path.length c) 3 1 path.length (jE path),blk t 315 [ap pf 0]]++bT pf gn cap N (k+i) (fY ns (path.reverse.take i)))
   rfl aW (Bh path P f c aa) (λ i _=>rfl) rfl ?_ ?_ ?_
  ·intro i W h ch Q;simp only[Nl,Nr,or_false] at Q
   rcases Q with rfl|rfl
   ·exact aQ _ _ _ _ W (h.holds (blk P 23 [ax f 0 path.length c]) ai)
   ·exact b8 W (h.holds (.own (ax f 0 path.length c) 3 1 path.length (jE path)) ai)
  ·intro r D i hb hf hi;refine jo rfl<|c8 [] rfl ⟨rfl,?_⟩
   have l:path.reverse[i]?=some (path.getD (path.length-1-i) 0):=by
    rw[List.getElem?_reverse hi,Nc,an aa];rfl
   obtain⟨y,u⟩:∃ y,path.getD (path.length-1-i) 0=y:=⟨_,rfl⟩;rw[u] at l;have L:y<N:=o y (by have:=M9 l;simpa using this);have h1:eK N (fY ns (path.reverse.take i)):=Z.pushes λ z hz=>o z (by have:=Od hz;simpa using this);refine zY (jo rfl ?_);refine bh (v:=ap pf 0) 4 ?_;refine az ?_;refine aB 38 (v':=af (y:Int)) rfl (M8 (λ z:Nat=>af (z:Int)) u)<|cK (aw.re (A:=[_,_,_,_,_]++bT pf gn cap N (k+i) (fY ns (path.reverse.take i))) (R:=[]) [5,6,0,1,2,3,4] rfl ab)<|dC (l3 (k+i) _ h1 y L) rfl aw.refl be ?_;rintro v H' rfl;refine⟨rfl,ah ⟨[2,3,4,5,6,0,1],ab,?_⟩⟩;rw[Nv,l];show _=some (_::_::([_,_,_]++bT pf gn cap N (k+i+1) (fY ns (path.reverse.take i++[y]))));rw[tQ];rfl
  ·intro D a w O F;have I:path.reverse.take path.length=path.reverse:=List.take_of_length_le ai;rw[I] at F;show Code.wp Tryz.prog _ _ a w;refine KF (fn:=Tryz.f264) (E:=[(2,ap t 0),(1,af (x:Int))]) (H:=bT pf gn cap N (k+path.length) (fY ns path.reverse)++[.obj D uA,blk t 315 [ap pf 0]]) (D:=D) (Rr:=fun _ H'=>H'=bT pf gn cap N (k+(path.length+k1)) e) ?_ (O.ents _ a8) (F.picks [4,5,0,3] ab rfl);have h2:eK N (fY ns path.reverse):=Z.pushes fun z hz=>o z (by simpa using hz);refine au ?_
   refine bS (σ:=cG×Nat) (λ _=>[(2,ap t 0),(1,af (x:Int))])
    (λ s=>bT pf gn cap N (k+path.length+(k1-s.2)) s.1++[.obj D uA,blk t 315 [ap pf 0]]) (λ s=>eK N s.1/\Fw s.1 x e s.2/\s.2<=k1) (λ s=>s.2) (fY ns path.reverse,k1) [0,1,2,3] a8 ab ?_ ⟨h2,hR,Np _⟩ ?_
   ·simp only[OB,OZ];rfl
   rintro⟨m,j⟩ ⟨hNm,U,hj⟩;simp only at hNm U hj ⊢;refine Gj ?_
   cases U with
   |done hup=>
    refine bB 48 (v':=.bool false) rfl (M8 Value.bool (aZ (by show ¬ enc (e x).up≠-1;rw[hup];simp[enc]))) (bu rfl (aO ?_));refine⟨.inl rfl,bT pf gn cap N (k+path.length+(k1-0)) e,[2,0,1],ab,rfl,[],rfl,?_⟩;show _=bT _ _ _ _ _ _;rw[show k+path.length+(k1-0)=k+(path.length+k1) by omega]
   |one hup hup2 b=>
    rename_i p j;have hpN:p<N:=by have:=hNm.up x hx;rw[hup] at this;exact this
    refine bB 48 (v':=.bool true) rfl (M8 Value.bool (aV (by show enc (m x).up≠-1;rw[hup];simp[enc]))) (bD rfl (ag ?_));refine Ah ?_;refine bB 65 (v':=.bool false) rfl (M8 Value.bool (aZ (by show ¬ enc (m p).up≠-1;rw[hup2];simp[enc]))) (bu rfl (ag ?_))
    (repeat' (first|refine am ?_|refine ag ?_|refine bD rfl ?_|refine bu rfl ?_))
    refine aC<|bh 3 ?_;refine bX [] ?_;refine dC (lY _ m hNm x p hx hup) rfl aw.refl be ?_;rintro v H' rfl;refine⟨rfl,ah ?_⟩;refine⟨(d9 m x p,j),[0,1,2,3],a8,ab,?_,⟨hNm.rotate hx hpN,b,aa⟩,by simp only;omega⟩;show some (bT _ _ _ _ (k+path.length+(k1-(j+1))+1) _++_)=_;rw[show k+path.length+(k1-(j+1))+1=k+path.length+(k1-j) by omega]
   |line hup hup2 hs V b=>
    rename_i p g q j;have hpN:p<N:=by have:=hNm.up x hx;rw[hup] at this;exact this
    refine bB 48 (v':=.bool true) rfl (M8 Value.bool (aV (by show enc (m x).up≠-1;rw[hup];simp[enc]))) (bD rfl (ag ?_));refine Ah ?_;refine bB 65 (v':=.bool true) rfl (M8 Value.bool (aV (by show enc (m p).up≠-1;rw[hup2];simp[enc]))) (bD rfl ?_);refine K1 ?_;refine gF ?_;refine bB 72 (v':=.bool true) rfl (M8 Value.bool (aV (by rw[hs]))) (bD rfl ?_);have hv:g<N:=by have:=hNm.up p hpN;rw[hup2] at this;exact this
    have d:=hNm.rotate hpN hv;refine Bk ?_;refine dC (lY _ m hNm p g hpN hup2) rfl aw.refl be ?_;rintro v H' rfl;refine⟨rfl,ah ?_⟩
    (repeat' (first|refine am ?_|refine ag ?_|refine bD rfl ?_|refine bu rfl ?_))
    refine aC<|bh 3 ?_;refine bX [] ?_;refine dC (lY _ (d9 m p g) d x q hx V) rfl aw.refl be ?_;rintro v H' rfl;refine⟨rfl,ah ?_⟩;have K:q<N:=by have:=d.up x hx;rw[V] at this;exact this
    refine⟨(d9 (d9 m p g) x q,j),[0,1,2,3],a8,ab,?_,⟨d.rotate hx K,b,aa⟩,by simp only;omega⟩;show some (bT _ _ _ _ (k+path.length+(k1-(j+2))+1+1) _++_)=_;rw[show k+path.length+(k1-(j+2))+1+1=k+path.length+(k1-j) by omega]
   |bent hup hup2 hs V b=>
    rename_i p g q j;have hpN:p<N:=by have:=hNm.up x hx;rw[hup] at this;exact this
    refine bB 48 (v':=.bool true) rfl (M8 Value.bool (aV (by show enc (m x).up≠-1;rw[hup];simp[enc]))) (bD rfl (ag ?_));refine Ah ?_;refine bB 65 (v':=.bool true) rfl (M8 Value.bool (aV (by show enc (m p).up≠-1;rw[hup2];simp[enc]))) (bD rfl ?_);refine K1 ?_;refine gF ?_;refine bB 72 (v':=.bool false) rfl (M8 Value.bool (aZ aa)) (bu rfl ?_);have d:=hNm.rotate hx hpN;refine Bk ?_;refine dC (lY _ m hNm x p hx hup) rfl aw.refl be ?_;rintro v H' rfl;refine⟨rfl,ah ?_⟩;refine Bk ?_;refine dC (lY _ (d9 m x p) d x q hx V) rfl aw.refl be ?_;rintro v H' rfl;refine⟨rfl,ah ?_⟩;have K:q<N:=by have:=d.up x hx;rw[V] at this;exact this
    refine⟨(d9 (d9 m x p) x q,j),[0,1,2,3],a8,ab,?_,⟨d.rotate hx K,b,aa⟩,by simp only;omega⟩;show some (bT _ _ _ _ (k+path.length+(k1-(j+2))+1+1) _++_)=_;rw[show k+path.length+(k1-(j+2))+1+1=k+path.length+(k1-j) by omega]
variable {pf gn cap N:Nat}
theorem eV(k:Nat)(ns:cG)(b:eK N ns)(x:Nat)(c:x<N)(a:cG)(j:Nat)(h:gq ns x a j):
 Fn 264 [.pointer (some ⟨pf,0,none⟩),.int .i64 (x:Int)] (ay (bT pf gn cap N k ns)) ([]++bT pf gn cap N k ns) λ _ H'=>H'=bT pf gn cap N (k+j) a:=by
 obtain⟨path,k1,d,e,f,rfl⟩:=h;exact Hk k ns b x c path d e a k1 f
theorem iD(k:Nat)(ns:cG)(x:Nat)(a:x<N):Fn 263 [.pointer (some ⟨pf,0,none⟩),.int .i64 (x:Int)] (ay (bT pf gn cap N k ns)) ([]++bT pf gn cap N k ns)
 λ v H'=>v=.bool true/\H'=bT pf gn cap N k ns:=by
 generalize hM:ay _=M
 refine aT Tryz.func263 λ w0=>?_;refine cW ?_;refine d7 7 rfl aa<|iu ?_;exact pj 4 rfl aa<|j7
theorem tt(k:Nat)(ns:cG)(l:eK N ns)(x:Nat)(n:x<N)(s:Nat)(o:s<2)(b:cG)(y j:Nat)(h:LI s ns x b y j):
 Fn 265 [.pointer (some ⟨pf,0,none⟩),.int .i64 (x:Int),.int .i64 (s:Int)] (ay (bT pf gn cap N k ns)) ([]++bT pf gn cap N k ns) λ v H'=>v=.int .i64 (y:Int)/\H'=bT pf gn cap N (k+j) b:=by
 obtain⟨d,k1,u,q,w,rfl⟩:=h
 generalize hM:ay _=M
 refine aT Tryz.func265 λ w0=>?_;refine ao ?_;refine gj [(1,af (y:Int)),(0,ap pf 0)] (bT pf gn cap N (k+k1) d) ?_ ?_
 ·refine au ?_
  refine bS (σ:=cG×Nat×Nat) (λ t=>[(2,af (s:Int)),(1,af (t.2.1:Int)),(0,ap pf 0)])
   (λ t=>bT pf gn cap N (k+(k1-t.2.2)) t.1) (λ t=>eK N t.1/\t.2.1<N/\Lh s t.1 t.2.1 d y t.2.2/\t.2.2<=k1) (λ t=>t.2.2) (ns,x,k1) [0,1] a8 ab ?_ ⟨l,n,q,Np _⟩ ?_
  ·simp only[OB,OZ];rfl
  rintro⟨m,z,j⟩ ⟨a,r,e,A⟩;simp only at a r e A ⊢;refine iP ?_;refine aG (bd rfl o) ?_;refine iu ?_
  cases e with
  |done B=>
   refine bB 17 (v':=.bool false) rfl (M8 Value.bool (aZ (by rw[B];simp[enc]))) (bu rfl (aO ?_));exact pY
  |go g C=>
   rename_i c j;have f:=a.down r s;rw[g] at f;refine bB 17 (v':=.bool true) rfl (M8 Value.bool (aV (by rw[g];simp[enc]))) (bD rfl (ag ?_));refine au<|iP ?_;refine aG (bd rfl o) ?_;refine iu ?_;refine bB 1 (v':=af (c:Int)) rfl (M8 (Value.int .i64) (gX g))<|aI ?_;refine dC (l3 _ m a c f) rfl aw.refl be ?_;rintro v H' rfl;refine⟨rfl,ah ?_⟩;refine⟨(fg m c,c,j),[0,1],a8,ab,?_,⟨a.push f,f,C,by show j<=k1;omega⟩,by show j<j+1;omega⟩;show some (bT _ _ _ _ (k+(k1-(j+1))+1) _)=_;rw[show k+(k1-(j+1))+1=k+(k1-j) by omega]
 ·obtain⟨i,D⟩:=eK.dwn q n l;refine aI ?_;refine dC (eV _ _ i _ D _ _ w) rfl aw.refl be ?_;rintro v H' rfl;refine⟨rfl,ah ?_⟩;refine ao ?_;refine bM ⟨_,rfl,rfl,?_⟩;show bT _ _ _ _ (k+k1+u) _=_;rw[N3]
theorem Es(k:Nat)(ns:cG)(d:eK N ns)(x:Nat)(b:x<N)(a:cG)(y j:Nat)(h:Edge 0 ns x a y j):
 Fn 274 [.pointer (some ⟨pf,0,none⟩),.int .i64 (x:Int)] (ay (bT pf gn cap N k ns)) ([]++bT pf gn cap N k ns) λ v H'=>v=.int .i64 (y:Int)/\H'=bT pf gn cap N (k+j) a:=by
 obtain⟨c,k1,e,f,hE,rfl⟩:=h
 generalize hM:ay _=M
 refine aT Tryz.func274 λ w0=>?_
 (repeat' (first|refine am ?_|refine ag ?_|refine bD rfl ?_|refine bu rfl ?_))
 refine aC<|cX [] ?_
 (repeat' (first|refine am ?_|refine ag ?_|refine bD rfl ?_|refine bu rfl ?_))
 refine aC<|bX [] ?_;refine iy (iD _ _ _ b) rfl aw.refl be ?_
 (repeat' (first|refine ah ?_|refine cD (gs:=[999]) rfl ?_|refine ae [999] (ad 0 rfl) rfl ?_|refine ae [999] (eu rfl bF) rfl ?_|refine ae [999] (bd (m:=0) rfl ab) rfl ?_|refine ae [999] (bd (m:=1) rfl ab) rfl ?_|refine ae [999] (ez 1 rfl rfl rfl rfl bF bF) rfl ?_|refine ae [999] (dH 1 rfl rfl rfl rfl rfl bF rfl rfl) rfl ?_))
 (repeat' (first|refine am ?_|refine ag ?_|refine bD rfl ?_|refine bu rfl ?_))
 (repeat' (first|refine am ?_|refine ag ?_|refine bD rfl ?_|refine bu rfl ?_))
 refine aC<|bX [] ?_;refine dC (eV _ _ d _ b _ _ f) rfl aw.refl be ?_;rintro v H' rfl;refine⟨rfl,ah ?_⟩
 (repeat' (first|refine am ?_|refine ag ?_|refine bD rfl ?_|refine bu rfl ?_))
 refine aC<|bX [] ?_;refine iy (tt _ c (d.splay b f) x b 0 ab a y e hE) rfl aw.refl be ?_;refine iu ?_;refine cA ?_;refine bM ⟨_,rfl,rfl,?_⟩;show bT _ _ _ _ (k+k1+e) _=_;rw[N3]
theorem u4(k:Nat)(ns:cG)(d:eK N ns)(x:Nat)(b:x<N)(a:cG)(y j:Nat)(h:Edge 1 ns x a y j):
 Fn 251 [.pointer (some ⟨pf,0,none⟩),.int .i64 (x:Int)] (ay (bT pf gn cap N k ns)) ([]++bT pf gn cap N k ns) λ v H'=>v=.int .i64 (y:Int)/\H'=bT pf gn cap N (k+j) a:=by
 obtain⟨c,k1,e,f,hE,rfl⟩:=h
 generalize hM:ay _=M
 refine aT Tryz.func251 λ w0=>?_
 (repeat' (first|refine am ?_|refine ag ?_|refine bD rfl ?_|refine bu rfl ?_))
 refine aC<|cX [] ?_
 (repeat' (first|refine am ?_|refine ag ?_|refine bD rfl ?_|refine bu rfl ?_))
 refine aC<|bX [] ?_;refine iy (iD _ _ _ b) rfl aw.refl be ?_
 (repeat' (first|refine ah ?_|refine cD (gs:=[999]) rfl ?_|refine ae [999] (ad 0 rfl) rfl ?_|refine ae [999] (eu rfl bF) rfl ?_|refine ae [999] (bd (m:=0) rfl ab) rfl ?_|refine ae [999] (bd (m:=1) rfl ab) rfl ?_|refine ae [999] (ez 1 rfl rfl rfl rfl bF bF) rfl ?_|refine ae [999] (dH 1 rfl rfl rfl rfl rfl bF rfl rfl) rfl ?_))
 (repeat' (first|refine am ?_|refine ag ?_|refine bD rfl ?_|refine bu rfl ?_))
 (repeat' (first|refine am ?_|refine ag ?_|refine bD rfl ?_|refine bu rfl ?_))
 refine aC<|bX [] ?_;refine dC (eV _ _ d _ b _ _ f) rfl aw.refl be ?_;rintro v H' rfl;refine⟨rfl,ah ?_⟩
 (repeat' (first|refine am ?_|refine ag ?_|refine bD rfl ?_|refine bu rfl ?_))
 refine aC<|bX [] ?_;refine iy (tt _ c (d.splay b f) x b 1 ab a y e hE) rfl aw.refl be ?_;refine iu ?_;refine cA ?_;refine bM ⟨_,rfl,rfl,?_⟩;show bT _ _ _ _ (k+k1+e) _=_;rw[N3]
variable {pf gn cap N:Nat}
theorem Ij(k:Nat)(ns:cG)(b:eK N ns)(x:Nat)(hx:x<N)(a:cG)(j:Nat)(h:gq ns x a j):
 Fn 266 [.pointer (some ⟨pf,0,none⟩),.int .i64 (x:Int)] (ay (bT pf gn cap N k ns)) ([]++bT pf gn cap N k ns) λ v H'=>v=.int .i64 (a x).value/\H'=bT pf gn cap N (k+j) a:=by
 generalize hM:ay _=M
 refine aT Tryz.func266 λ w0=>?_;refine F1 ?_;refine dC (eV _ _ b _ hx _ _ h) rfl aw.refl be ?_;rintro v H' rfl;refine⟨rfl,ah ?_⟩
 (repeat' (first|refine am ?_|refine ag ?_|refine bD rfl ?_|refine bu rfl ?_))
 refine aC ?_
 (repeat' (first|refine ah ?_|refine cD (gs:=[999]) rfl ?_|refine ae [999] (ad 0 rfl) rfl ?_|refine ae [999] (eu rfl bF) rfl ?_|refine ae [999] (bd (m:=0) rfl ab) rfl ?_|refine ae [999] (bd (m:=1) rfl ab) rfl ?_|refine ae [999] (ez 1 rfl rfl rfl rfl bF bF) rfl ?_|refine ae [999] (dH 1 rfl rfl rfl rfl rfl bF rfl rfl) rfl ?_))
 refine cA ?_;exact j7
theorem z1(k:Nat)(ns:cG)(c:eK N ns)(x:Nat)(b:x<N)(a:cG)(j:Nat)(h:gq ns x a j):
 Fn 267 [.pointer (some ⟨pf,0,none⟩),.int .i64 (x:Int)] (ay (bT pf gn cap N k ns)) ([]++bT pf gn cap N k ns) λ _ H'=>H'=bT pf gn cap N (k+j) (iZ a (some x) 0 true):=by
 generalize hM:ay _=M
 refine aT Tryz.func267 λ w0=>?_;refine aI ?_;refine iy (iD _ _ _ b) rfl aw.refl be ?_;refine iu ?_;refine cA ?_;refine aI ?_;refine dC (eV _ _ c _ b _ _ h) rfl aw.refl be ?_;rintro v H' rfl;refine⟨rfl,ah ?_⟩
 (repeat' (first|refine am ?_|refine ag ?_|refine bD rfl ?_|refine bu rfl ?_))
 refine aC<|bX [] ?_;refine dC (th _ a (some x) b 0 true) rfl aw.refl be ?_;rintro v H' rfl;refine⟨rfl,ah ?_⟩;exact⟨_,rfl,rfl⟩
theorem vF(k:Nat)(ns:cG)(n:eK N ns)(x:Nat)(hx:x<N)(a:cG)(j:Nat)(h:gq ns x a j):
 Fn 273 [.pointer (some ⟨pf,0,none⟩),.int .i64 (x:Int)] (ay (bT pf gn cap N k ns)) ([]++bT pf gn cap N k ns) λ _ H'=>H'=bT pf gn cap N (k+j) (match (a x).l with
  |none=>a
  |some c=>iq (jv (jv a c { a c with up:=none }) x (dA (jv a c { a c with up:=none } x) 0 none)) x):=by
 have b:=n.splay hx h
 generalize hM:ay _=M
 refine aT Tryz.func273 λ w0=>?_;refine F1 ?_;refine dC (eV _ _ n _ hx _ _ h) rfl aw.refl be ?_;rintro v H' rfl;refine⟨rfl,ah ?_⟩
 (repeat' (first|refine am ?_|refine ag ?_|refine bD rfl ?_|refine bu rfl ?_))
 refine aC ?_
 (repeat' (first|refine ah ?_|refine cD (gs:=[999]) rfl ?_|refine ae [999] (ad 0 rfl) rfl ?_|refine ae [999] (eu rfl bF) rfl ?_|refine ae [999] (bd (m:=0) rfl ab) rfl ?_|refine ae [999] (bd (m:=1) rfl ab) rfl ?_|refine ae [999] (ez 1 rfl rfl rfl rfl bF bF) rfl ?_|refine ae [999] (dH 1 rfl rfl rfl rfl rfl bF rfl rfl) rfl ?_))
 refine ao ?_
 cases hl:(a x).l with
 |none=>
  refine bB 23 (v':=.bool false) rfl (M8 Value.bool (aZ (by show ¬ enc (a x).l≠-1;rw[hl];simp[enc]))) (bu rfl (ag ?_));refine ao ?_;exact bM ⟨_,rfl,rfl⟩
 |some c=>
  have o:=b.l x hx;rw[hl] at o;have e:c<N:=o;refine bB 23 (v':=.bool true) rfl (M8 Value.bool (aV (by show enc (a x).l≠-1;rw[hl];simp[enc]))) (bD rfl ?_);refine bB 5 (v':=af (c:Int)) rfl (M8 (Value.int .i64) (gX hl)) ?_;have g:=b.upd (x:=c) (d:={ a c with up:=none }) be (b.l c e) (b.r c e);have i:=g.setDown hx (c:=none) be 0;refine cA ?_;refine fW 17 [0,1,2,3,4,5,6,7,8,9,10,11,13,14] 12 [(15,true),(16,false)] aW<|zU ?_;refine dP (f:=0) (v:=af (enc none)) 1 { a c with up:=none } rfl rfl rfl rfl rfl rfl rfl e rfl rfl [] rfl<|bZ []<|?_
  (repeat' (first|refine eI (gs:=[999]) rfl rfl ?_|refine aF [999] rfl (eu rfl bF) rfl ?_|refine aF [999] rfl (bd (m:=0) rfl ab) rfl ?_))
  refine cz ?_;refine ve (s:=0) (c:=none) 1 rfl rfl rfl rfl rfl hx ab [] rfl<|bZ []<|gF ?_;show J _ _ _ _ (bT pf gn cap N (k+j) (jv (jv a c { a c with up:=none }) x (dA (jv a c { a c with up:=none } x) 0 none)));refine aI ?_;refine dC (tm _ _ i x hx) rfl aw.refl be ?_;rintro v H' rfl;refine⟨rfl,ah ?_⟩;refine ao ?_;exact bM ⟨_,rfl,rfl⟩
theorem J5{X:Cx}{E:Env}{H:Heap}{o:Oper}{g x N cap:Nat}{d:Operand}{ns:cG}(k:Nat)(e:o.op=.load 334 d)(h:val E d=some (.pointer (some ⟨g,x*9,none⟩)))
 (i:H[k]?=some (.own (.slice (some ⟨g,0,none⟩) N cap) 334 9 N (iI N ns))) {fs:List (Nat×Nat×Nat)} {a:Nat} {z:Option Value} (j:tab 334=some ⟨.struct fs,9,a,z⟩) (b:x<N):i7 X o E H (.agg (fE (ns x)).toArray):=by
 refine aA k e h i ?_;unfold fP;rw[j];have m:∀ f,f<9->(iI N ns)[x*9+f]?=(fE (ns x))[f]?:=λ f c=>kM b c
 have key:∀ n f,f+n=9->eD (iI N ns) (x*9+f) n=some ((fE (ns x)).drop f):=by
  intro n
  induction n with
  |zero=>intro f c;obtain rfl:f=9:=by omega
         rfl
  |succ n p=>
   intro f c;unfold eD;have hl:f<(fE (ns x)).length:=by show f<9;omega
   rw[m f aa,an hl];show (match eD (iI N ns) (x*9+(f+1)) n with|some l=>some (_::l)|none=>none)=_;rw[p (f+1) aa,N7 hl]
 have:=key 9 0 rfl;show (match eD (iI N ns) (x*9) 9 with|some l=>some (Value.agg l.toArray)|none=>none)=_;rw[show x*9=x*9+0 from rfl,this];rfl
theorem Kp(k:Nat)(ns:cG)(f:eK N ns)(x:Nat)(hx:x<N)(a:cG)(j:Nat)(h:gq ns x a j)(d:Int)(g:-9223372036854775808<=d/\d<=9223372036854775807)(c:0<=d->(a x).most<=4611686018427387904-d)(e:d<0→-4611686018427387904-d<=(a x).least):
 Fn 269 [.pointer (some ⟨pf,0,none⟩),.int .i64 (x:Int),.int .i64 d] (ay (bT pf gn cap N k ns)) ([]++bT pf gn cap N k ns) λ _ H'=>H'=bT pf gn cap N (k+j) (iZ a (some x) d false):=by
 generalize hM:ay _=M
 refine aT Tryz.func269 λ w0=>?_;refine F1 ?_;refine dC (eV _ _ f _ hx _ _ h) rfl aw.refl be ?_;rintro v H' rfl;refine⟨rfl,ah ?_⟩
 (repeat' (first|refine am ?_|refine ag ?_|refine bD rfl ?_|refine bu rfl ?_))
 refine aC ?_
 (repeat' (first|refine ah ?_|refine cD (gs:=[999]) rfl ?_|refine ae [999] (ad 0 rfl) rfl ?_|refine ae [999] (eu rfl bF) rfl ?_|refine ae [999] (bd (m:=0) rfl ab) rfl ?_|refine ae [999] (bd (m:=1) rfl ab) rfl ?_|refine ae [999] (ez 1 rfl rfl rfl rfl bF bF) rfl ?_|refine ae [999] (dH 1 rfl rfl rfl rfl rfl bF rfl rfl) rfl ?_))
 refine aG (J5 1 rfl rfl rfl rfl hx) ?_;refine dM λ p7=>?_;refine iG ?_;by_cases b:0<=d
 ·have c:=c b;refine aI ?_;refine d7 24 rfl b<|iu ?_;refine dD 31 rfl (by rw[cv aa];omega)<|iu ?_;refine dD 34 rfl aa<|iu ?_
  (repeat' (first|refine am ?_|refine ag ?_|refine bD rfl ?_|refine bu rfl ?_))
  refine bQ (aw.re (A:=[_]++bT pf gn cap N (k+j) a) (R:=[]) [1,2] rfl ab) ?_
  (repeat' (first|refine am ?_|refine ag ?_|refine bD rfl ?_|refine bu rfl ?_))
  refine aC<|bX [] ?_;refine dC (th _ a (some x) hx d false) rfl aw.refl be ?_;rintro v H' rfl;refine⟨rfl,ah ?_⟩
  (repeat' (first|refine am ?_|refine ag ?_|refine bD rfl ?_|refine bu rfl ?_))
  refine aC<|cX [] ?_;exact bM ⟨_,rfl,rfl⟩
 ·have e:=e aa;refine aI ?_;refine dD 24 rfl b<|iu ?_;refine d7 34 rfl aa<|iu ?_;refine nj 41 rfl (by rw[cv aa];omega) ?_
  (repeat' (first|refine am ?_|refine ag ?_|refine bD rfl ?_|refine bu rfl ?_))
  refine bQ (aw.re (A:=[_]++bT pf gn cap N (k+j) a) (R:=[]) [1,2] rfl ab) ?_
  (repeat' (first|refine am ?_|refine ag ?_|refine bD rfl ?_|refine bu rfl ?_))
  refine aC<|bX [] ?_;refine dC (th _ a (some x) hx d false) rfl aw.refl be ?_;rintro v H' rfl;refine⟨rfl,ah ?_⟩
  (repeat' (first|refine am ?_|refine ag ?_|refine bD rfl ?_|refine bu rfl ?_))
  refine aC<|cX [] ?_;exact bM ⟨_,rfl,rfl⟩
variable {pf gn cap N:Nat}
def u7(ns:cG)(a b:Nat)(ns':cG)(k:Nat):Prop:=∃ n1 n2 n3 n4 k1 k2 k3 k4 a' b',gq ns a n1 k1/\gq n1 b n2 k2/\(n2 a).up=none/\LI 1 n2 a n3 a' k3/\LI 0 n3 b n4 b' k4/\ns'=iq (gp n4 (some a') b' 0) b'/\k=k1+k2+k3+k4
theorem Jf(k:Nat)(ns:cG)(y:eK N ns)(a b:Nat)(e:a<N)(f:b<N)(H:a≠b)(g:cG)(j:Nat)(h:u7 ns a b g j):
 Fn 262 [.pointer (some ⟨pf,0,none⟩),.int .i64 (a:Int),.int .i64 (b:Int)] (ay (bT pf gn cap N k ns)) ([]++bT pf gn cap N k ns) λ _ H'=>H'=bT pf gn cap N (k+j) g:=by
 obtain⟨I,z,A,B,k1,s,q,r,t,u,C,D,w,E,F,rfl,rfl⟩:=h;have i:=y.splay e C;have l:=i.splay f D;obtain⟨n,o⟩:=l.end_ e E;obtain⟨p,d⟩:=n.end_ f F;have x:=p.hang (c:=some t) o d 0
 generalize hM:ay _=M
 refine aT Tryz.func262 λ w0=>?_;refine jZ ?_;refine aI ?_;refine iy (iD _ _ _ e) rfl aw.refl be ?_;refine iu ?_;refine bJ [999] (iD _ _ _ f) rfl rfl rfl rfl aW aw.refl be aE<|jP ?_;refine iu ?_;refine cA ?_;refine ao ?_;refine bB 18 (v':=.bool false) rfl (M8 Value.bool (aZ aa)) (bu rfl (ag ?_));show J _ _ _ _ (bT pf gn cap N k ns);refine aI ?_;refine dC (eV _ _ y _ e _ _ C) rfl aw.refl be ?_;rintro v H' rfl;refine⟨rfl,ah ?_⟩;refine aI ?_;refine dC (eV _ _ i _ f _ _ D) rfl aw.refl be ?_;rintro v H' rfl;refine⟨rfl,ah ?_⟩;refine iP ?_;refine bB 43 (v':=.bool false) rfl (M8 Value.bool (aZ (by show ¬ enc (z a).up≠-1;rw[w];simp[enc]))) (bu rfl (ag ?_));refine aI ?_;refine iy (tt _ z l a e 1 ab A t q E) rfl aw.refl be ?_;refine iu ?_;refine iy (tt _ A n b f 0 ab B u r F) rfl aw.refl be ?_;refine iu ?_;refine aI ?_;refine dC (xz _ B p (some t) o u d 0 ab) rfl aw.refl be ?_;rintro v H' rfl;refine⟨rfl,ah ?_⟩;refine aI ?_;refine dC (tm _ _ x u d) rfl aw.refl be ?_;rintro v H' rfl;refine⟨rfl,ah ?_⟩;refine ao ?_;refine bM ⟨_,rfl,?_⟩;show bT _ _ _ _ (k+k1+s+q+r) _=_;rw[show k+k1+s+q+r=k+(k1+s+q+r) by omega]
def MN(ns:cG)(x:Nat)(p:Int)(ns':cG)(y:Option Nat)(k:Nat):Prop:=∃ n1 k1,gq ns x n1 k1/\
 ((p<0\/(n1 x).size<=p)/\y=none/\ns'=n1/\k=k1\/0<=p/\p<(n1 x).size/\∃ z k2,HZ n1 x p ns' z k2/\y=some z/\k=k1+k2)
theorem Mi(k:Nat)(ns:cG)(B:eK N ns)(x:Nat)(o:x<N)(p:Int)(f:cG)(y:Option Nat)(j:Nat)(h:MN ns x p f y j):
 Fn 270 [.pointer (some ⟨pf,0,none⟩),.int .i64 (x:Int),.int .i64 p] (ay (bT pf gn cap N k ns)) ([]++bT pf gn cap N k ns) λ v H'=>v=.int .i64 (enc y)/\H'=bT pf gn cap N (k+j) f:=by
 obtain⟨E,k1,C,d⟩:=h;have w:=B.splay o C
 generalize hM:ay _=M
 refine aT Tryz.func270 λ w0=>?_
 (repeat' (first|refine am ?_|refine ag ?_|refine bD rfl ?_|refine bu rfl ?_))
 refine aC<|cX [] ?_
 (repeat' (first|refine am ?_|refine ag ?_|refine bD rfl ?_|refine bu rfl ?_))
 refine aC<|bX [] ?_;refine iy (iD _ _ _ o) rfl aw.refl be ?_
 (repeat' (first|refine ah ?_|refine cD (gs:=[999]) rfl ?_|refine ae [999] (ad 0 rfl) rfl ?_|refine ae [999] (eu rfl bF) rfl ?_|refine ae [999] (bd (m:=0) rfl ab) rfl ?_|refine ae [999] (bd (m:=1) rfl ab) rfl ?_|refine ae [999] (ez 1 rfl rfl rfl rfl bF bF) rfl ?_|refine ae [999] (dH 1 rfl rfl rfl rfl rfl bF rfl rfl) rfl ?_))
 (repeat' (first|refine am ?_|refine ag ?_|refine bD rfl ?_|refine bu rfl ?_))
 (repeat' (first|refine am ?_|refine ag ?_|refine bD rfl ?_|refine bu rfl ?_))
 refine aC<|bX [] ?_;refine dC (eV _ _ B _ o _ _ C) rfl aw.refl be ?_;rintro v H' rfl;refine⟨rfl,ah ?_⟩
 rcases d with ⟨hp,rfl,rfl,rfl⟩|⟨F,G,z,b,H,rfl,rfl⟩
 ·by_cases D:p<0
  ·(repeat' (first|refine am ?_|refine ag ?_|refine bD rfl ?_|refine bu rfl ?_))
   refine aC<|bX [] ?_;refine d7 18 rfl D ?_
   (repeat' (first|refine ah ?_|refine cD (gs:=[999]) rfl ?_|refine ae [999] (ad 0 rfl) rfl ?_|refine ae [999] (eu rfl bF) rfl ?_|refine ae [999] (bd (m:=0) rfl ab) rfl ?_|refine ae [999] (bd (m:=1) rfl ab) rfl ?_|refine ae [999] (ez 1 rfl rfl rfl rfl bF bF) rfl ?_|refine ae [999] (dH 1 rfl rfl rfl rfl rfl bF rfl rfl) rfl ?_))
   (repeat' (first|refine am ?_|refine ag ?_|refine bD rfl ?_|refine bu rfl ?_))
   (repeat' (first|refine am ?_|refine ag ?_|refine bD rfl ?_|refine bu rfl ?_))
   refine aC<|cX [] ?_
   (repeat' (first|refine am ?_|refine ag ?_|refine bD rfl ?_|refine bu rfl ?_))
   exact bM ⟨_,rfl,rfl,rfl⟩
  ·(repeat' (first|refine am ?_|refine ag ?_|refine bD rfl ?_|refine bu rfl ?_))
   refine aC<|bX [] ?_;refine dD 18 rfl D ?_
   (repeat' (first|refine ah ?_|refine cD (gs:=[999]) rfl ?_|refine ae [999] (ad 0 rfl) rfl ?_|refine ae [999] (eu rfl bF) rfl ?_|refine ae [999] (bd (m:=0) rfl ab) rfl ?_|refine ae [999] (bd (m:=1) rfl ab) rfl ?_|refine ae [999] (ez 1 rfl rfl rfl rfl bF bF) rfl ?_|refine ae [999] (dH 1 rfl rfl rfl rfl rfl bF rfl rfl) rfl ?_))
   refine bB 29 (v':=.bool true) rfl (M8 Value.bool (aV aa)) (bD rfl ?_)
   (repeat' (first|refine am ?_|refine ag ?_|refine bD rfl ?_|refine bu rfl ?_))
   refine aC<|cX [] ?_
   (repeat' (first|refine am ?_|refine ag ?_|refine bD rfl ?_|refine bu rfl ?_))
   exact bM ⟨_,rfl,rfl,rfl⟩
 ·(repeat' (first|refine am ?_|refine ag ?_|refine bD rfl ?_|refine bu rfl ?_))
  refine aC<|bX [] ?_;refine dD 18 rfl aa ?_
  (repeat' (first|refine ah ?_|refine cD (gs:=[999]) rfl ?_|refine ae [999] (ad 0 rfl) rfl ?_|refine ae [999] (eu rfl bF) rfl ?_|refine ae [999] (bd (m:=0) rfl ab) rfl ?_|refine ae [999] (bd (m:=1) rfl ab) rfl ?_|refine ae [999] (ez 1 rfl rfl rfl rfl bF bF) rfl ?_|refine ae [999] (dH 1 rfl rfl rfl rfl rfl bF rfl rfl) rfl ?_))
  refine bB 29 (v':=.bool false) rfl (M8 Value.bool (aZ aa)) (bu rfl (ag ?_));refine au ?_
  refine bS (σ:=cG×Nat×Int×Nat) (λ t=>[(2,af t.2.2.1),(1,af (t.2.1:Int)),(0,ap pf 0)])
   (λ t=>bT pf gn cap N (k+k1+(b-t.2.2.2)) t.1) (λ t=>eK N t.1/\t.2.1<N/\HZ t.1 t.2.1 t.2.2.1 f z t.2.2.2/\t.2.2.2<=b) (λ t=>t.2.2.2) (E,x,p,b) [0,1] a8 ab ?_ ⟨w,o,H,Np _⟩ ?_
  ·simp only[OB,OZ];rfl
  rintro⟨m,u,q,i⟩ ⟨a,hu,n,hi⟩;simp only at a hu n hi ⊢;refine au ?_
  (repeat' (first|refine am ?_|refine ag ?_|refine bD rfl ?_|refine bu rfl ?_))
  refine aC ?_
  (repeat' (first|refine ah ?_|refine cD (gs:=[999]) rfl ?_|refine ae [999] (ad 0 rfl) rfl ?_|refine ae [999] (eu rfl bF) rfl ?_|refine ae [999] (bd (m:=0) rfl ab) rfl ?_|refine ae [999] (bd (m:=1) rfl ab) rfl ?_|refine ae [999] (ez 1 rfl rfl rfl rfl bF bF) rfl ?_|refine ae [999] (dH 1 rfl rfl rfl rfl rfl bF rfl rfl) rfl ?_))
  refine gj [(8,af (ahead m u)),(7,af (enc (m u).l)),(2,af q),(1,af (u:Int)),(0,ap pf 0)] (bT pf gn cap N (k+k1+(b-i)) m) ?_ ?_
  ·(repeat' (first|refine am ?_|refine ag ?_|refine bD rfl ?_|refine bu rfl ?_))
   refine aC<|cX [] ?_
   cases hl:(m u).l with
   |none=>
    have e:ahead m u=0:=by unfold ahead;rw[hl]
    refine bB 40 (v':=.bool false) rfl (M8 Value.bool (aZ (by show ¬ enc (m u).l≠-1;rw[hl];simp[enc]))) (bu rfl (ag ⟨[0,1],⟨by rw[e];rfl,by rw[<- hl];rfl,rfl,rfl,rfl,be⟩,ab,rfl⟩))
   |some c=>
    have d:=a.l u hu;rw[hl] at d;have I:c<N:=d;have e:ahead m u=(m c).size:=by unfold ahead;rw[hl]
    refine bB 40 (v':=.bool true) rfl (M8 Value.bool (aV (by show enc (m u).l≠-1;rw[hl];simp[enc]))) (bD rfl ?_);refine bB 7 (v':=af (c:Int)) rfl (M8 (Value.int .i64) (gX hl)) ?_
    (repeat' (first|refine am ?_|refine ag ?_|refine bD rfl ?_|refine bu rfl ?_))
    refine aC ?_
    (repeat' (first|refine ah ?_|refine cD (gs:=[999]) rfl ?_|refine ae [999] (ad 0 rfl) rfl ?_|refine ae [999] (eu rfl bF) rfl ?_|refine ae [999] (bd (m:=0) rfl ab) rfl ?_|refine ae [999] (bd (m:=1) rfl ab) rfl ?_|refine ae [999] (ez 1 rfl rfl rfl rfl bF bF) rfl ?_|refine ae [999] (dH 1 rfl rfl rfl rfl rfl bF rfl rfl) rfl ?_))
    exact⟨[0,1],⟨by rw[e];rfl,rfl,rfl,rfl,rfl,be⟩,ab,rfl⟩
  ·(repeat' (first|refine am ?_|refine ag ?_|refine bD rfl ?_|refine bu rfl ?_))
   refine au ?_
   (repeat' (first|refine am ?_|refine ag ?_|refine bD rfl ?_|refine bu rfl ?_))
   refine aC<|cX [] ?_
   cases n with
   |left s g A=>
    rename_i c i;have d:=a.l u hu;rw[g] at d;refine bB 62 (v':=.bool true) rfl (M8 Value.bool (aV s)) (bD rfl ?_)
    (repeat' (first|refine am ?_|refine ag ?_|refine bD rfl ?_|refine bu rfl ?_))
    refine aC<|cX [] ?_;refine bB 1 (v':=af (c:Int)) rfl (M8 (Value.int .i64) (gX g)) ?_;show J _ _ _ _ (bT pf gn cap N (k+k1+(b-(i+1))) m)
    (repeat' (first|refine am ?_|refine ag ?_|refine bD rfl ?_|refine bu rfl ?_))
    refine aC<|bX [] ?_;refine dC (l3 _ m a c d) rfl aw.refl be ?_;rintro v H' rfl;refine⟨rfl,ah ?_⟩;refine⟨(fg m c,c,q,i),[0,1],a8,ab,?_,⟨a.push d,d,A,by show i<=b;omega⟩,by show i<i+1;omega⟩;show some (bT _ _ _ _ (k+k1+(b-(i+1))+1) _)=_;rw[show k+k1+(b-(i+1))+1=k+k1+(b-i) by omega]
   |here s g=>
    refine bB 62 (v':=.bool false) rfl (M8 Value.bool (aZ aa)) (bu rfl ?_)
    (repeat' (first|refine am ?_|refine ag ?_|refine bD rfl ?_|refine bu rfl ?_))
    refine aC<|cX [] ?_;refine bB 67 (v':=.bool true) rfl (M8 Value.bool (aV s)) (bD rfl ?_);show J _ _ _ _ (bT pf gn cap N (k+k1+(b-i)) m)
    (repeat' (first|refine am ?_|refine ag ?_|refine bD rfl ?_|refine bu rfl ?_))
    refine aC<|bX [] ?_;refine dC (eV _ _ a _ hu _ _ g) rfl aw.refl be ?_;rintro v H' rfl;refine⟨rfl,ah ?_⟩
    (repeat' (first|refine am ?_|refine ag ?_|refine bD rfl ?_|refine bu rfl ?_))
    refine aC<|cX [] ?_;refine bM ⟨_,rfl,rfl,?_⟩;show bT _ _ _ _ (k+k1+(b-i)+i) _=_;rw[show k+k1+(b-i)+i=k+(k1+b) by omega]
   |right s g A=>
    rename_i c i;have d:=a.r u hu;rw[g] at d;refine bB 62 (v':=.bool false) rfl (M8 Value.bool (aZ aa)) (bu rfl ?_)
    (repeat' (first|refine am ?_|refine ag ?_|refine bD rfl ?_|refine bu rfl ?_))
    refine aC<|cX [] ?_;refine bB 67 (v':=.bool false) rfl (M8 Value.bool (aZ aa)) (bu rfl ?_)
    (repeat' (first|refine am ?_|refine ag ?_|refine bD rfl ?_|refine bu rfl ?_))
    refine aC ?_
    (repeat' (first|refine ah ?_|refine cD (gs:=[999]) rfl ?_|refine ae [999] (ad 0 rfl) rfl ?_|refine ae [999] (eu rfl bF) rfl ?_|refine ae [999] (bd (m:=0) rfl ab) rfl ?_|refine ae [999] (bd (m:=1) rfl ab) rfl ?_|refine ae [999] (ez 1 rfl rfl rfl rfl bF bF) rfl ?_|refine ae [999] (dH 1 rfl rfl rfl rfl rfl bF rfl rfl) rfl ?_))
    refine bB 1 (v':=af (c:Int)) rfl (M8 (Value.int .i64) (gX g)) ?_;show J _ _ _ _ (bT pf gn cap N (k+k1+(b-(i+1))) m)
    (repeat' (first|refine am ?_|refine ag ?_|refine bD rfl ?_|refine bu rfl ?_))
    refine aC<|bX [] ?_;refine dC (l3 _ m a c d) rfl aw.refl be ?_;rintro v H' rfl;refine⟨rfl,ah ?_⟩;refine⟨(fg m c,c,ei (ei (q-ahead m u)-1),i),[0,1],a8,ab,?_,⟨a.push d,d,A,by show i<=b;omega⟩,by show i<i+1;omega⟩;show some (bT _ _ _ _ (k+k1+(b-(i+1))+1) _)=_;rw[show k+k1+(b-(i+1))+1=k+k1+(b-i) by omega]
def MW(ns:cG)(x:Nat)(ns':cG)(y k:Nat):Prop:=∃ n1 k1 k2,gq ns x n1 k1/\F4 (n1 x).least n1 x ns' y k2/\k=k1+k2
variable {pf gn cap N:Nat}
theorem Fd(k:Nat)(ns:cG):Fn 245 [.pointer (some ⟨pf,0,none⟩)] (ay (bT pf gn cap N k ns)) ([]++bT pf gn cap N k ns) λ v H'=>v=.int .i64 (ei k)/\H'=bT pf gn cap N k ns:=by
 generalize hM:ay _=M
 refine aT Tryz.func245 λ w0=>?_;refine ao ?_;refine iP ?_;exact j7
theorem DM(k:Nat)(ns:cG)(B:eK N ns)(x:Nat)(s:x<N)(f:cG)(y j:Nat)(h:MW ns x f y j):
 Fn 268 [.pointer (some ⟨pf,0,none⟩),.int .i64 (x:Int)] (ay (bT pf gn cap N k ns)) ([]++bT pf gn cap N k ns) λ v H'=>v=.int .i64 (y:Int)/\H'=bT pf gn cap N (k+j) f:=by
 obtain⟨C,k1,b,D,E,rfl⟩:=h;have z:=B.splay s D
 generalize hM:ay _=M
 refine aT Tryz.func268 λ w0=>?_
 (repeat' (first|refine am ?_|refine ag ?_|refine bD rfl ?_|refine bu rfl ?_))
 refine aC<|cX [] ?_
 (repeat' (first|refine am ?_|refine ag ?_|refine bD rfl ?_|refine bu rfl ?_))
 refine aC<|bX [] ?_;refine iy (iD _ _ _ s) rfl aw.refl be ?_
 (repeat' (first|refine ah ?_|refine cD (gs:=[999]) rfl ?_|refine ae [999] (ad 0 rfl) rfl ?_|refine ae [999] (eu rfl bF) rfl ?_|refine ae [999] (bd (m:=0) rfl ab) rfl ?_|refine ae [999] (bd (m:=1) rfl ab) rfl ?_|refine ae [999] (ez 1 rfl rfl rfl rfl bF bF) rfl ?_|refine ae [999] (dH 1 rfl rfl rfl rfl rfl bF rfl rfl) rfl ?_))
 (repeat' (first|refine am ?_|refine ag ?_|refine bD rfl ?_|refine bu rfl ?_))
 (repeat' (first|refine am ?_|refine ag ?_|refine bD rfl ?_|refine bu rfl ?_))
 refine aC<|bX [] ?_;refine dC (eV _ _ B _ s _ _ D) rfl aw.refl be ?_;rintro v H' rfl;refine⟨rfl,ah ?_⟩
 (repeat' (first|refine am ?_|refine ag ?_|refine bD rfl ?_|refine bu rfl ?_))
 refine aC ?_
 (repeat' (first|refine ah ?_|refine cD (gs:=[999]) rfl ?_|refine ae [999] (ad 0 rfl) rfl ?_|refine ae [999] (eu rfl bF) rfl ?_|refine ae [999] (bd (m:=0) rfl ab) rfl ?_|refine ae [999] (bd (m:=1) rfl ab) rfl ?_|refine ae [999] (ez 1 rfl rfl rfl rfl bF bF) rfl ?_|refine ae [999] (dH 1 rfl rfl rfl rfl rfl bF rfl rfl) rfl ?_))
 obtain⟨want,hw⟩:∃ w,(C x).least=w:=⟨_,rfl⟩;rw[hw] at E;refine bB 5 (v':=af want) rfl (M8 (Value.int .i64) hw)<|au<|?_
 refine bS (σ:=cG×Nat×Nat) (λ t=>[(5,af want),(1,af (t.2.1:Int)),(0,ap pf 0)])
  (λ t=>bT pf gn cap N (k+k1+(b-t.2.2)) t.1) (λ t=>eK N t.1/\t.2.1<N/\F4 want t.1 t.2.1 f y t.2.2/\t.2.2<=b) (λ t=>t.2.2) (C,x,b) [0,1] a8 ab ?_ ⟨z,s,E,Np _⟩ ?_
 ·simp only[OB,OZ];rfl
 rintro⟨m,u,i⟩ ⟨a,hu,n,hi⟩;simp only at a hu n hi ⊢;refine au ?_
 (repeat' (first|refine am ?_|refine ag ?_|refine bD rfl ?_|refine bu rfl ?_))
 refine aC ?_
 (repeat' (first|refine ah ?_|refine cD (gs:=[999]) rfl ?_|refine ae [999] (ad 0 rfl) rfl ?_|refine ae [999] (eu rfl bF) rfl ?_|refine ae [999] (bd (m:=0) rfl ab) rfl ?_|refine ae [999] (bd (m:=1) rfl ab) rfl ?_|refine ae [999] (ez 1 rfl rfl rfl rfl bF bF) rfl ?_|refine ae [999] (dH 1 rfl rfl rfl rfl rfl bF rfl rfl) rfl ?_))
 cases n with
 |left h1 o g=>
  rename_i c i;have e:=a.l u hu;rw[h1] at e;have F:c<N:=e;refine bB 6 (v':=af (c:Int)) rfl (M8 (Value.int .i64) (gX h1))<|aI ?_;refine d7 33 rfl aa<|iu ?_;refine bB 44 (v':=.bool true) rfl (M8 Value.bool (aV o)) (bD rfl ?_)
  (repeat' (first|refine am ?_|refine ag ?_|refine bD rfl ?_|refine bu rfl ?_))
  refine aC<|cX [] ?_;show J _ _ _ _ (bT pf gn cap N (k+k1+(b-(i+1))) m)
  (repeat' (first|refine am ?_|refine ag ?_|refine bD rfl ?_|refine bu rfl ?_))
  refine aC<|bX [] ?_;refine dC (l3 _ m a c e) rfl aw.refl be ?_;rintro v H' rfl;refine⟨rfl,ah ?_⟩;refine⟨(fg m c,c,i),[0,1],a8,ab,?_,⟨a.push e,e,g,by show i<=b;omega⟩,by show i<i+1;omega⟩;show some (bT _ _ _ _ (k+k1+(b-(i+1))+1) _)=_;rw[show k+k1+(b-(i+1))+1=k+k1+(b-i) by omega]
 |here h1 o g=>
  refine gj [(44,.bool false),(5,af want),(1,af (y:Int)),(0,ap pf 0)] (bT pf gn cap N (k+k1+(b-i)) m) ?_ ?_
  ·cases hl:(m y).l with
   |none=>
    refine aI ?_;refine dD 33 rfl (by show ¬ enc (m y).l≠-1;rw[hl];simp[enc])<|iu ?_;exact pY
   |some d=>
    have q:=a.l y hu;rw[hl] at q;have A:d<N:=q;exact IC
  refine bu rfl<|iP ?_
  ·refine bB 55 (v':=.bool true) rfl (M8 Value.bool (aV o)) (bD rfl ?_);refine aI ?_;refine dC (eV _ _ a _ hu _ _ g) rfl aw.refl be ?_;rintro v H' rfl;refine⟨rfl,ah ?_⟩;refine ao ?_;refine bM ⟨_,rfl,rfl,?_⟩;show bT _ _ _ _ (k+k1+(b-i)+i) _=_;rw[show k+k1+(b-i)+i=k+(k1+b) by omega]
 |right h1 o g H=>
  rename_i c i;have e:=a.r u hu;rw[g] at e;refine gj [(44,.bool false),(5,af want),(1,af (u:Int)),(0,ap pf 0)] (bT pf gn cap N (k+k1+(b-(i+1))) m) ?_ ?_
  ·cases hl:(m u).l with
   |none=>
    refine aI ?_;refine dD 33 rfl (by show ¬ enc (m u).l≠-1;rw[hl];simp[enc])<|iu ?_;exact pY
   |some d=>
    have q:=a.l u hu;rw[hl] at q;have A:d<N:=q;exact IC
  refine bu rfl ?_
  (repeat' (first|refine am ?_|refine ag ?_|refine bD rfl ?_|refine bu rfl ?_))
  refine aC ?_
  (repeat' (first|refine ah ?_|refine cD (gs:=[999]) rfl ?_|refine ae [999] (ad 0 rfl) rfl ?_|refine ae [999] (eu rfl bF) rfl ?_|refine ae [999] (bd (m:=0) rfl ab) rfl ?_|refine ae [999] (bd (m:=1) rfl ab) rfl ?_|refine ae [999] (ez 1 rfl rfl rfl rfl bF bF) rfl ?_|refine ae [999] (dH 1 rfl rfl rfl rfl rfl bF rfl rfl) rfl ?_))
  ·refine bB 55 (v':=.bool false) rfl (M8 Value.bool (aZ o)) (bu rfl ?_)
   (repeat' (first|refine am ?_|refine ag ?_|refine bD rfl ?_|refine bu rfl ?_))
   refine aC ?_
   (repeat' (first|refine ah ?_|refine cD (gs:=[999]) rfl ?_|refine ae [999] (ad 0 rfl) rfl ?_|refine ae [999] (eu rfl bF) rfl ?_|refine ae [999] (bd (m:=0) rfl ab) rfl ?_|refine ae [999] (bd (m:=1) rfl ab) rfl ?_|refine ae [999] (ez 1 rfl rfl rfl rfl bF bF) rfl ?_|refine ae [999] (dH 1 rfl rfl rfl rfl rfl bF rfl rfl) rfl ?_))
   refine bB 1 (v':=af (c:Int)) rfl (M8 (Value.int .i64) (gX g)) ?_;show J _ _ _ _ (bT pf gn cap N (k+k1+(b-(i+1))) m)
   (repeat' (first|refine am ?_|refine ag ?_|refine bD rfl ?_|refine bu rfl ?_))
   refine aC<|bX [] ?_;refine dC (l3 _ m a c e) rfl aw.refl be ?_;rintro v H' rfl;refine⟨rfl,ah ?_⟩;refine⟨(fg m c,c,i),[0,1],a8,ab,?_,⟨a.push e,e,H,by show i<=b;omega⟩,by show i<i+1;omega⟩;show some (bT _ _ _ _ (k+k1+(b-(i+1))+1) _)=_;rw[show k+k1+(b-(i+1))+1=k+k1+(b-i) by omega]
abbrev OV:=Nat->Option Nat
def bH(ov:OV)(x:Nat)(c:Option Nat):OV:=λ y=>if y=x then c else ov y
def Ix(N:Nat)(ov:OV):LV_:=aj ((List.range N).map λ x=>enc (ov x))
theorem Ab(N:Nat)(ov:OV):(Ix N ov).length=N:=by simp[Ix,aj]
theorem Kn{N x:Nat}{ov:OV}(h:x<N):(Ix N ov)[x]?=some (.int .i64 (enc (ov x))):=ep (by simp[h])
theorem Jb{N x:Nat}{ov:OV}(c:Option Nat):(Ix N ov).set x (.int .i64 (enc c))=Ix N (bH ov x c):=by
 unfold Ix aj
 apply O3
 intro i;by_cases h:x=i
 ·subst h;by_cases a:x<N
  ·rw[No (by simp[a])];simp[a,bH]
  ·rw[NX eS,NX eS]
 ·rw[Nq h];by_cases hi:i<N
  ·simp[hi,bH,Ne.symm h]
  ·rw[NX eS,NX eS]
structure iO where
 ns:cG
 ov:OV
 k:Nat
def l8(pt ps go gn co cap N:Nat)(s:iO):Heap:=
 bT ps gn cap N s.k s.ns++[blk pt 319 [.pointer (some ⟨ps,0,none⟩),.slice (some ⟨go,0,none⟩) N co,.int .i64 (N:Int)],.own (.slice (some ⟨go,0,none⟩) N co) 3 1 N (Ix N s.ov)]
def jS(ns:cG)(x:Nat):cG:=match (ns x).l with
 |none=>ns
 |some c=>iq (jv (jv ns c { ns c with up:=none }) x (dA (jv ns c { ns c with up:=none } x) 0 none)) x
theorem eK.split{N:Nat}{ns:cG}(h:eK N ns){x:Nat}(b:x<N):eK N (jS ns x):=by
 unfold jS;have hl:=h.l x b;split
 ·exact h
 ·rename_i c e;rw[e] at hl;have a:c<N:=hl;exact (eK.setDown (h.upd (x:=c) (d:={ ns c with up:=none }) be (h.l c a) (h.r c a)) b (c:=none) be 0).pull b
theorem eK.joined{N:Nat}{ns d:cG}{a b k:Nat}(o:eK N ns)(m:a<N)(n:b<N)(h:u7 ns a b d k):eK N d:=by
 obtain⟨v,w,x,y,k1,z,A,B,p,C,q,r,s,t,u,rfl,rfl⟩:=h;have f:=o.splay m q;have g:=f.splay n r;obtain⟨i,j⟩:=g.end_ m t;obtain⟨l,e⟩:=i.end_ n u;exact (l.hang (c:=some p) j e 0).pull e
structure py (N:Nat) (s:iO):Prop where
 ns:eK N s.ns
 ov:∀ x,x<N->xa N (s.ov x)
def DJ(s:iO)(v:Nat)(s':iO):Prop:=∃ n1 deep k1,Edge 0 s.ns v n1 deep k1/\
 (deep=v/\s'=⟨n1,s.ov,s.k+k1⟩\/deep≠v/\∃ n2 k2 n3 top k3,gq n1 v n2 k2/\Edge 1 (jS n2 v) deep n3 top k3/\s'=⟨n3,bH s.ov top (some v),s.k+k1+k2+k3⟩)
inductive yi (v:Nat):iO->iO->Nat->Prop
 |done {s:iO} {n1:cG} {top k1:Nat}:Edge 1 s.ns v n1 top k1->s.ov top=none->yi v s ⟨n1,s.ov,s.k+k1⟩ 0
 |go {s s2 s':iO} {n1 n4:cG} {top k1 w k4 i:Nat}:Edge 1 s.ns v n1 top k1->s.ov top=some w->DJ ⟨n1,s.ov,s.k+k1⟩ w s2->v≠w->u7 s2.ns v w n4 k4->yi v ⟨n4,bH s2.ov top none,s2.k+k4⟩ s' i->yi v s s' (i+1)
def Ky(s:iO)(v:Nat)(s':iO):Prop:=∃ s1 i,DJ s v s1/\yi v s1 s' i
theorem py.part{N:Nat}{s c:iO}{v:Nat}(h:py N s)(a:v<N)(hp:DJ s v c):py N c:=by
 obtain⟨j,deep,k1,d,⟨_,rfl⟩|⟨_,k,l,m,top,n,e,f,rfl⟩⟩:=hp
 ·exact⟨(h.ns.edge a d).1,h.ov⟩
 ·obtain⟨b,g⟩:=h.ns.edge a d;refine⟨(((b.splay a e).split a).edge g f).1,λ x i=>?_⟩;simp only[bH];split
  ·exact a
  ·exact h.ov x i
theorem py.ovn{N:Nat}{s:iO}{x:Nat}(h:py N s)(ns:cG)(a:eK N ns)(k:Nat):py N ⟨ns,bH s.ov x none,k⟩:=by
 refine⟨a,λ y b=>?_⟩;simp only[bH];split
 ·trivial
 ·exact h.ov y b
theorem py.accL{N v:Nat}{s f:iO}{i:Nat}(h:yi v s f i)(c:v<N):py N s->py N f:=by
 induction h with
 |done d _=>exact λ a=>⟨(a.ns.edge c d).1,a.ov⟩
 |go d g j n k _ l=>
  intro a;obtain⟨e,m⟩:=a.ns.edge c d;have hw:=a.ov _ m;rw[g] at hw;have b:=py.part (s:=⟨_,_,_⟩) ⟨e,a.ov⟩ hw j;exact l (b.ovn _ (b.ns.joined c hw k) _)
theorem py.acc{N v:Nat}{s a:iO}(h:py N s)(b:v<N)(c:Ky s v a):py N a:=by
 obtain⟨s1,i,d,e⟩:=c;exact py.accL e b (h.part b d)
section
variable {pt ps go gn co cap N:Nat}
theorem tG{X:Cx}{Q:e6}{E d:Env}{H:Heap}{ops l:List Oper}{o:Oper}{t x:Nat}{e f:Operand}{ov:OV}{c:Option Nat}(k:Nat)(g:o.op=.store t e f)(i:val E e=some (.pointer (some ⟨go,x,none⟩)))(j:val E f=some (.int .i64 (enc c)))
 (m:H[k]?=some (.own (.slice (some ⟨go,0,none⟩) N co) 3 1 N (Ix N ov))) {uk:UK} {a:Nat} {p:Option Value} (q:tab t=some ⟨uk,1,a,p⟩) (b:x<N) (gs:LN_) (r:jN X.n ops gs E o undef=some d)
 (h:JL X ops l Q d (H.set k (.own (.slice (some ⟨go,0,none⟩) N co) 3 1 N (Ix N (bH ov x c))))):JL X ops (o::l) Q E H:=by
 refine aY k g i j m (fz q rfl rfl (by rw[Ab];exact b)) gs r ?_;rw[Jb];exact h
theorem Dk(s:iO)(g:py N s)(v:Nat)(b:v<N)(i:iO)(h:DJ s v i):Fn 261 [.pointer (some ⟨pt,0,none⟩),.int .i64 (v:Int)] (ay (l8 pt ps go gn co cap N s)) ([]++l8 pt ps go gn co cap N s) λ _ H'=>H'=l8 pt ps go gn co cap N i:=by
 obtain⟨ns,ov,k⟩:=s;obtain⟨j,deep,k1,l,t⟩:=h;obtain⟨d,m⟩:=g.ns.edge b l
 generalize hM:ay _=M
 refine aT Tryz.func261 λ w0=>?_;refine ig ?_;refine iy (Es _ _ g.ns v b j deep k1 l) rfl aw.refl be ?_;refine nh ?_;refine dw ?_
 rcases t with ⟨rfl,rfl⟩|⟨u,n,o,w,top,x,p,q,rfl⟩
 ·refine bB 13 (v':=.bool true) rfl (M8 Value.bool (aV rfl)) (bD rfl (bM ⟨_,rfl,rfl⟩))
 ·have f:=d.splay b p;have e:=f.split b;have a:=(e.edge m q).2;refine bB 13 (v':=.bool false) rfl (M8 Value.bool (aZ aa)) (bu rfl (ag ?_));refine ig ?_;refine dC (vF _ j d v b n o p) rfl aw.refl be ?_;rintro r H' rfl;refine⟨rfl,ah ?_⟩;show J _ _ _ _ (bT ps gn cap N (k+k1+o) (jS n v)++_);refine cA ?_;refine bK 13 (dS [0,1,2,3,4,5,6,7,8,10]++[(9,false)]++dS [11]++[(12,false)]) [2] aW ab rfl<|qZ ?_;refine cz ?_;refine dC (u4 _ _ e deep m w top x q) rfl aw.refl be ?_;rintro r H' ⟨rfl,rfl⟩;refine⟨rfl,bZ [2] ?_⟩
  (repeat' (first|refine eI (gs:=[999]) rfl rfl ?_|refine aF [999] rfl (bG rfl a) rfl ?_))
  refine cz ?_;exact tG (c:=some v) 3 rfl rfl rfl rfl rfl a [] rfl<|bZ [2]<|cP<|ah ⟨_,rfl,rfl⟩
end
variable {pt ps go gn co cap N:Nat}
theorem wS(s:iO)(D:py N s)(v:Nat)(f:v<N)(g:iO)(h:Ky s v g):Fn 250 [.pointer (some ⟨pt,0,none⟩),.int .i64 (v:Int)] (ay (l8 pt ps go gn co cap N s)) ([]++l8 pt ps go gn co cap N s) λ _ H'=>H'=l8 pt ps go gn co cap N g:=by
 obtain⟨s1,i0,hP,E⟩:=h;have x:=D.part f hP
 generalize hM:ay _=M
 refine aT Tryz.func250 λ w0=>?_;refine aI ?_;refine dC (Dk s D v f s1 hP) rfl aw.refl be ?_;rintro r H' rfl;refine⟨rfl,ah ?_⟩;refine au<|bS (σ:=iO×Nat) (λ _=>[(1,af (v:Int)),(0,ap pt 0)]) (λ t=>l8 pt ps go gn co cap N t.1) (λ t=>py N t.1/\yi v t.1 g t.2) (λ t=>t.2) (s1,i0) [0,1,2,3] a8 ab rfl ⟨x,E⟩<|?_;rintro⟨m,i⟩ ⟨hm,l⟩;simp only at hm l ⊢;refine au<|ig ?_
 obtain⟨d,top,k1,hE,F⟩:∃ d top k1,Edge 1 m.ns v d top k1/\(m.ov top=none/\g=⟨d,m.ov,m.k+k1⟩\/∃ w,m.ov top=some w/\∃ s2 n o j,DJ ⟨d,m.ov,m.k+k1⟩ w s2/\v≠w/\u7 s2.ns v w n o/\yi v ⟨n,bH s2.ov top none,s2.k+o⟩ g j/\i=j+1):=by
  cases l with
  |done y z=>exact⟨_,_,_,y,.inl ⟨z,rfl⟩⟩
  |go y z q A u B=>exact⟨_,_,_,y,.inr ⟨_,z,_,_,_,_,q,A,u,B,rfl⟩⟩
 obtain⟨C,a⟩:=hm.ns.edge f hE;refine iy (u4 _ _ hm.ns v f d top k1 hE) rfl aw.refl be ?_;refine nh ?_;refine ah<|ig ?_;refine aG (bG rfl a) ?_;refine aG (aA (v:=af (enc (m.ov top))) 3 rfl rfl rfl (Kn a)) ?_;refine nh ?_;refine dw ?_
 rcases F with ⟨H,rfl⟩|⟨w,hw,s2,n,o,j,q,A,u,B,rfl⟩
 ·refine bB 23 (v':=.bool true) rfl (M8 Value.bool (aV (by show enc (m.ov top)=-1;rw[H];rfl))) (bD rfl (bM ⟨_,rfl,rfl⟩))
 ·have b:=hm.ov _ a;rw[hw] at b;refine bB 23 (v':=.bool false) rfl (M8 Value.bool (aZ (by show ¬ enc (m.ov top)=-1;rw[hw];simp[enc]))) (bu rfl (ag ?_));refine bB 5 (v':=af (w:Int)) rfl (M8 (Value.int .i64) (gX hw)) ?_;have p:py N ⟨d,m.ov,m.k+k1⟩:=⟨C,hm.ov⟩;have e:=p.part b q;show J _ _ _ _ (l8 pt ps go gn co cap N ⟨d,m.ov,m.k+k1⟩);refine aI ?_;refine dC (Dk _ p w b s2 q) rfl aw.refl be ?_;rintro r H' rfl;refine⟨rfl,ah ?_⟩;show J _ _ _ _ (l8 pt ps go gn co cap N s2);refine ig ?_;refine aG (bG rfl a) ?_;refine tG (c:=none) 3 rfl rfl rfl rfl rfl a [] rfl<|ah<|?_;show J _ _ _ _ (bT ps gn cap N s2.k s2.ns++_);refine ig ?_;refine dC (Jf _ _ e.ns v w f b A n o u) rfl aw.refl be ?_;rintro r H' rfl;refine⟨rfl,ah ?_⟩;exact⟨(⟨n,bH s2.ov top none,s2.k+o⟩,j),[0,1,2,3],a8,ab,rfl,⟨e.ovn _ (e.ns.joined f b u) _,B⟩,by show j<j+1;omega⟩
theorem oW(s:iO)(v:Nat)(a:v<N):Fn 249 [.pointer (some ⟨pt,0,none⟩),.int .i64 (v:Int)] (ay (l8 pt ps go gn co cap N s)) ([]++l8 pt ps go gn co cap N s) λ r H'=>r=.bool true/\H'=l8 pt ps go gn co cap N s:=by
 generalize hM:ay _=M
 refine aT Tryz.func249 λ w0=>?_;refine cW ?_;refine d7 7 rfl aa<|nh ?_;exact ah<|pj 4 rfl aa<|j7
def zd(s:iO)(v:Nat)(s':iO)(y:Nat):Prop:=∃ s1 n1 k1,Ky s v s1/\Edge 1 s1.ns v n1 y k1/\s'=⟨n1,s1.ov,s1.k+k1⟩
def xS(s:iO)(v:Nat)(s':iO)(y:Option Nat):Prop:=∃ s1 n1 k1,Ky s v s1/\MN s1.ns v 1 n1 y k1/\s'=⟨n1,s1.ov,s1.k+k1⟩
def L9(s:iO)(v:Nat)(s':iO):Prop:=∃ n1 k1,gq s.ns v n1 k1/\s'=⟨n1,s.ov,s.k+k1⟩
def KR(s:iO)(v w:Nat)(s':iO):Prop:=∃ s1 s2 s3 z,zd s v s1 v/\zd s1 w s2 z/\z≠v/\Ky s2 v s3/\s'=⟨s3.ns,bH s3.ov v (some w),s3.k⟩
def L7(s:iO)(v:Nat)(s':iO):Prop:=∃ s1 u n1 k1,xS s v s1 (some u)/\gq s1.ns u n1 k1/\s'=⟨jS n1 u,s1.ov,s1.k+k1⟩
def Hl(s:iO)(v:Nat)(s':iO)(y:Nat):Prop:=∃ s1 n1 k1 n2 k2 n3 k3,Ky s v s1/\gq s1.ns v n1 k1/\MW (iZ n1 (some v) 0 true) v n2 y k2/\gq n2 v n3 k3/\s'=⟨iZ n3 (some v) 0 true,s1.ov,s1.k+k1+k2+k3⟩
def Ms(s:iO)(v:Nat)(d:Int)(s':iO):Prop:=∃ s1 n1 k1,Ky s v s1/\gq s1.ns v n1 k1/\(0<=d->(n1 v).most<=4611686018427387904-d)/\(d<0→-4611686018427387904-d<=(n1 v).least)/\s'=⟨iZ n1 (some v) d false,s1.ov,s1.k+k1⟩
theorem eK.leR{N:Nat}{want:Int}{ns d:cG}{x y k:Nat}(h:F4 want ns x d y k):x<N->eK N ns->eK N d/\y<N:=by
 induction h with
 |left g _ _ e=>
  intro c a;have b:=a.l _ c;rw[g] at b;exact e b (a.push b)
 |here _ _ f=>exact λ c a=>⟨a.splay c f,c⟩
 |right _ _ f _ e=>
  intro c a;have b:=a.r _ c;rw[f] at b;exact e b (a.push b)
theorem eK.atR{N:Nat}{p:Int}{ns d:cG}{x y k:Nat}(h:HZ ns x p d y k):x<N->eK N ns->eK N d/\y<N:=by
 induction h with
 |left _ g _ e=>
  intro c a;have b:=a.l _ c;rw[g] at b;exact e b (a.push b)
 |here _ f=>exact λ c a=>⟨a.splay c f,c⟩
 |right _ f _ e=>
  intro c a;have b:=a.r _ c;rw[f] at b;exact e b (a.push b)
theorem py.above{N v:Nat}{s c:iO}{u:Nat}(e:py N s)(b:v<N)(h:xS s v c (some u)):py N c/\u<N:=by
 obtain⟨s1,k,k1,f,hE,rfl⟩:=h;have a:=e.acc b f;obtain⟨m1,l,g,⟨_,i,_⟩|⟨_,_,z,m,j,d,_⟩⟩:=hE
 ·cases i
 ·simp only[Na] at d;subst d;obtain⟨g1,g2⟩:=eK.atR j b (a.ns.splay b g);exact⟨⟨g1,a.ov⟩,g2⟩
theorem py.root{N v:Nat}{s b:iO}{y:Nat}(d:py N s)(c:v<N)(h:zd s v b y):py N b:=by
 obtain⟨s1,f,k1,e,hE,rfl⟩:=h;have a:=d.acc c e;exact⟨(a.ns.edge c hE).1,a.ov⟩
theorem wU(s:iO)(hs:py N s)(v:Nat)(hv:v<N)(b:iO)(y:Nat)(h:zd s v b y):Fn 240 [.pointer (some ⟨pt,0,none⟩),.int .i64 (v:Int)] (ay (l8 pt ps go gn co cap N s)) ([]++l8 pt ps go gn co cap N s) λ r H'=>r=.int .i64 (y:Int)/\H'=l8 pt ps go gn co cap N b:=by
 obtain⟨s1,c,k1,hA,hE,rfl⟩:=h;have a:=hs.acc hv hA
 generalize hM:ay _=M
 refine aT Tryz.func240 λ w0=>?_;refine C9 ?_;rintro r H' rfl;refine⟨rfl,ah ?_⟩;refine ig ?_;refine iy (u4 _ _ a.ns v hv c y k1 hE) rfl aw.refl be ?_;refine nh ?_;refine fw ?_;exact j7
theorem zq(s:iO)(hs:py N s)(v:Nat)(hv:v<N)(b:iO)(y:Option Nat)(h:xS s v b y):Fn 255 [.pointer (some ⟨pt,0,none⟩),.int .i64 (v:Int)] (ay (l8 pt ps go gn co cap N s)) ([]++l8 pt ps go gn co cap N s) λ r H'=>r=.int .i64 (enc y)/\H'=l8 pt ps go gn co cap N b:=by
 obtain⟨s1,c,k1,hA,hE,rfl⟩:=h;have a:=hs.acc hv hA
 generalize hM:ay _=M
 refine aT Tryz.func255 λ w0=>?_;refine C9 ?_;rintro r H' rfl;refine⟨rfl,ah ?_⟩;refine ig ?_;refine iy (Mi _ _ a.ns v hv 1 c y k1 hE) rfl aw.refl be ?_;refine nh ?_;refine fw ?_;exact j7
theorem BF(s:iO)(b:py N s)(v:Nat)(c:v<N)(a:iO)(h:L9 s v a):Fn 252 [.pointer (some ⟨pt,0,none⟩),.int .i64 (v:Int)] (ay (l8 pt ps go gn co cap N s)) ([]++l8 pt ps go gn co cap N s) λ r H'=>r=.int .i64 (a.ns v).value/\H'=l8 pt ps go gn co cap N a:=by
 obtain⟨d,k1,e,rfl⟩:=h
 generalize hM:ay _=M
 refine aT Tryz.func252 λ w0=>?_;refine ao ?_;refine ig ?_;refine iy (Ij _ _ b.ns v c d k1 e) rfl aw.refl be ?_;refine nh ?_;refine fw ?_;exact j7
theorem Dv(s:iO):Fn 237 [.pointer (some ⟨pt,0,none⟩)] (ay (l8 pt ps go gn co cap N s)) ([]++l8 pt ps go gn co cap N s) λ r H'=>r=.int .i64 (ei s.k)/\H'=l8 pt ps go gn co cap N s:=by
 generalize hM:ay _=M
 refine aT Tryz.func237 λ w0=>?_;refine ao ?_;refine ig ?_;refine iy (Fd s.k s.ns) rfl aw.refl be ?_;refine nh ?_;refine fw ?_;exact j7
theorem Km(s:iO)(hs:py N s)(v:Nat)(hv:v<N)(d:Int)(c:-9223372036854775808<=d/\d<=9223372036854775807)(b:iO)(h:Ms s v d b):Fn 254 [.pointer (some ⟨pt,0,none⟩),.int .i64 (v:Int),.int .i64 d] (ay (l8 pt ps go gn co cap N s)) ([]++l8 pt ps go gn co cap N s) λ _ H'=>H'=l8 pt ps go gn co cap N b:=by
 obtain⟨s1,e,k1,hA,f,g,i,rfl⟩:=h;have a:=hs.acc hv hA
 generalize hM:ay _=M
 refine aT Tryz.func254 λ w0=>?_;refine C9 ?_;rintro r H' rfl;refine⟨rfl,ah ?_⟩;refine ig ?_;refine sk (Kp _ _ a.ns v hv e k1 f d c g i) rfl aw.refl be ?_;rintro r H' rfl;refine nh ?_;refine fw ?_;exact bM ⟨_,rfl,rfl⟩
theorem Fe(s:iO)(hs:py N s)(v:Nat)(hv:v<N)(f:iO)(y:Nat)(h:Hl s v f y):Fn 253 [.pointer (some ⟨pt,0,none⟩),.int .i64 (v:Int)] (ay (l8 pt ps go gn co cap N s)) ([]++l8 pt ps go gn co cap N s) λ r H'=>r=.int .i64 (y:Int)/\H'=l8 pt ps go gn co cap N f:=by
 obtain⟨s1,k,k1,g,l,m,n,hA,i,j,d,rfl⟩:=h;have a:=hs.acc hv hA;have b:=(a.ns.splay hv i).lay (c:=some v) hv 0 true
 have e:eK N g:=by
  obtain⟨m1,o,q,g1,g2,_⟩:=j;exact (eK.leR g2 hv (b.splay hv g1)).1
 generalize hM:ay _=M
 refine aT Tryz.func253 λ w0=>?_;refine C9 ?_;rintro r H' rfl;refine⟨rfl,ah ?_⟩;refine ig ?_;refine dC (z1 _ _ a.ns v hv k k1 i) rfl aw.refl be ?_;rintro r H' rfl;refine⟨rfl,ah ?_⟩;show J _ _ _ _ (bT ps gn cap N _ _++_);refine ig ?_;refine iy (DM _ _ b v hv g y l j) rfl aw.refl be ?_;refine nh ?_;refine ah<|ig ?_;refine dC (z1 _ _ e v hv m n d) rfl aw.refl be ?_;rintro r H' rfl;refine⟨rfl,ah ?_⟩;refine ao ?_;exact j7
theorem Kt(s:iO)(d:py N s)(v:Nat)(a:v<N)(e:iO)(h:L7 s v e):Fn 258 [.pointer (some ⟨pt,0,none⟩),.int .i64 (v:Int)] (ay (l8 pt ps go gn co cap N s)) ([]++l8 pt ps go gn co cap N s) λ _ H'=>H'=l8 pt ps go gn co cap N e:=by
 obtain⟨s1,u,g,k1,f,i,rfl⟩:=h;obtain⟨b,c⟩:=d.above a f
 generalize hM:ay _=M
 refine aT Tryz.func258 λ w0=>?_;refine cW ?_;refine iy (oW _ _ a) rfl aw.refl be ?_;refine nh ?_;refine fw ?_;refine aI ?_;refine iy (zq s d v a s1 (some u) f) rfl aw.refl be ?_;refine nh ?_;refine dw ?_;refine bB 14 (v':=.bool false) rfl (M8 Value.bool (aZ (by simp[enc]))) (bu rfl (ag ?_));show J _ _ _ _ (bT ps gn cap N _ _++_);refine ig ?_;refine dC (vF _ _ b.ns u c g k1 i) rfl aw.refl be ?_;rintro r H' rfl;refine⟨rfl,ah ?_⟩;refine ao ?_;exact bM ⟨_,rfl,rfl⟩
theorem GG(s:iO)(g:py N s)(v w:Nat)(a:v<N)(hw:w<N)(i:iO)(h:KR s v w i):Fn 257 [.pointer (some ⟨pt,0,none⟩),.int .i64 (v:Int),.int .i64 (w:Int)] (ay (l8 pt ps go gn co cap N s)) ([]++l8 pt ps go gn co cap N s) λ _ H'=>H'=l8 pt ps go gn co cap N i:=by
 obtain⟨s1,s2,l,z,b,d,m,j,rfl⟩:=h;have e:=g.root a b;have f:=e.root hw d;have k:=f.acc a j
 generalize hM:ay _=M
 refine aT Tryz.func257 λ w0=>?_;refine jZ ?_;refine aI ?_;refine iy (oW _ _ a) rfl aw.refl be ?_;refine nh ?_;refine bJ [999] (oW _ _ hw) rfl rfl rfl rfl aW aw.refl be aE ?_;rintro r H' ⟨rfl,rfl⟩;refine dE ?_;refine nh ?_;refine fw ?_;refine aI ?_;refine iy (wU s g v a s1 v b) rfl aw.refl be ?_;refine nh ?_;refine ah<|bB 18 (v':=.bool false) rfl (M8 Value.bool (aZ ai)) (bu rfl ?_);refine aI ?_;refine iy (wU s1 e w hw s2 z d) rfl aw.refl be ?_;refine nh ?_;refine ah<|bB 24 (v':=.bool false) rfl (M8 Value.bool (aZ aa)) (bu rfl (ag ?_));refine aI ?_;refine dC (wS _ f _ a _ j) rfl aw.refl be ?_;rintro r H' rfl;refine⟨rfl,ah ?_⟩;show J _ _ _ _ (bT ps gn cap N _ _++_);refine ig ?_;refine aG (bG rfl a) ?_;refine tG (c:=some w) 3 rfl rfl rfl rfl rfl a [] rfl<|dw ?_;exact bM ⟨_,rfl,rfl⟩
end Go.Proofs.YtmcnpaelaieniaaGreatDoor
