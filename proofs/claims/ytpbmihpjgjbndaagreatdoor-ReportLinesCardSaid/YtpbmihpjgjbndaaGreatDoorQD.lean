/- The engine and the words that all chapters share: several texts in one. -/
import Derived.Test.YtpbmihpjgjbndaaGreatDoorQB
import Derived.RangeFuncRecord
import Derived.RangeFuncCalls
import Derived.RangeFuncIn
import Derived.RangeFuncSeq
/- Rows that are cut, joined and turned: what each function does to the items, and how items lie in memory. -/
set_option linter.unusedVariables false
set_option linter.unusedSimpArgs false
namespace Go.Proofs.YtpbmihpjgjbndaaGreatDoor
open Go.RowKit
variable {X:Cx} {Q:dl} {E E':Env} {H:Heap}
structure Nd where
 up:Option Nat
 l:Option Nat
 r:Option Nat
 size:Int
 value:Int
 least:Int
 most:Int
 add:Int
 turned:Bool
deriving Inhabited
abbrev bj:=Nat→Nd
abbrev cD (n:Int):Int:=IntKind.i64.wrap n
def enc:Option Nat→Int
 |none=>-1
 |some x=>(x:Int)
def dB (d:Nd):List Value:=[.int .i64 (enc d.up),.int .i64 (enc d.l),.int .i64 (enc d.r),.int .i64 d.size,.int .i64 d.value,.int .i64 d.least,.int .i64 d.most,.int .i64 d.add,.bool d.turned]
def ey (N:Nat) (ns:bj):List Value:=(List.range N).flatMap fun x=>dB (ns x)
def e7 (ns:bj) (x:Nat) (d:Nd):bj:=fun y=>if y=x then d else ns y
theorem cI (ns:bj) (x:Nat) (d:Nd):e7 ns x d x=d:=if_pos rfl
theorem dO (ns:bj) {x y:Nat} (d:Nd) (h:y≠x):e7 ns x d y=ns y:=if_neg h
theorem dS (N:Nat) (ns:bj):(ey N ns).length=N*9:=by
 unfold ey
 induction N with
 |zero=>rfl
 |succ N ih=>rw[List.range_succ,List.flatMap_append,List.length_append,ih];simp[dB];omega
theorem oh (N:Nat) (ns:bj):ey (N+1) ns=ey N ns++dB (ns N):=by
 unfold ey;rw[List.range_succ,List.flatMap_append];simp
theorem fZ {N x f:Nat} {ns:bj} (hx:x<N) (hf:f<9):(ey N ns)[x*9+f]?=(dB (ns x))[f]?:=by
 induction N with
 |zero=>omega
 |succ N ih=>
  rw[oh]
  by_cases e:x=N
  ·subst e
   rw[List.getElem?_append_right (by rw[dS];omega),dS]
   congr 1;omega
  ·rw[List.getElem?_append_left (by rw[dS];omega)]
   exact ih (by omega)
theorem wW {N x f:Nat} {ns:bj} {d:Nd} {v:Value} (hx:x<N) (hf:f<9) (hd:(dB (ns x)).set f v=dB d):(ey N ns).set (x*9+f) v=ey N (e7 ns x d):=by
 apply List.ext_getElem?
 intro i
 by_cases hi:i<N*9
 ·have hy:i/9<N:=by omega
  have e:i=(i/9)*9+i%9:=by omega
  rw[e,fZ (ns:=e7 ns x d) hy (by omega)]
  by_cases c:x*9+f=i/9*9+i%9
  ·have c1:i/9=x:=by omega
   have c2:i%9=f:=by omega
   rw[c1,c2,cI,← hd,List.getElem?_set_self (by rw[dS];omega),List.getElem?_set_self (by simp[dB];omega)]
  ·rw[List.getElem?_set_ne c,fZ hy (by omega)]
   by_cases c1:i/9=x
   ·rw[c1,cI,← hd,List.getElem?_set_ne (by omega)]
   ·rw[dO _ _ c1]
 ·rw[List.getElem?_eq_none (by rw[List.length_set,dS];omega),List.getElem?_eq_none (by rw[dS];omega)]
/-! ### What the functions do -/
def hQ (d:Nd) (side:Nat):Option Nat:=if side=0 then d.l else d.r
def bW (d:Nd) (side:Nat) (c:Option Nat):Nd:=if side=0 then { d with l:=c } else { d with r:=c }
def mF (d:Nd) (add:Int) (turn:Bool):Nd:=
 { d with value:=cD (d.value+add),least:=cD (d.least+add),most:=cD (d.most+add),add:=cD (d.add+add),l:=if turn then d.r else d.l,r:=if turn then d.l else d.r,turned:=if turn then !d.turned else d.turned }
def eB (ns:bj) (c:Option Nat) (add:Int) (turn:Bool):bj:=match c with
 |none=>ns
 |some x=>e7 ns x (mF (ns x) add turn)
def di (ns:bj) (x:Nat):bj:=
 let ns1:=eB ns (ns x).l (ns x).add (ns x).turned
 let ns2:=eB ns1 (ns x).r (ns1 x).add (ns1 x).turned
 e7 ns2 x { ns2 x with add:=0,turned:=false }
def qd (a b:Int):Int:=if b<a then b else a
def tF (a b:Int):Int:=if b>a then b else a
def eK (ns:bj) (x:Nat) (c:Option Nat):bj:=match c with
 |none=>ns
 |some c=>e7 ns x { ns x with size:=cD ((ns x).size+(ns c).size),least:=qd (ns x).least (ns c).least,most:=tF (ns x).most (ns c).most }
def ek (ns:bj) (x:Nat):bj:=eK (eK (e7 ns x { ns x with size:=1,least:=(ns x).value,most:=(ns x).value }) x (ns x).l) x (ns x).r
def cW (ns:bj) (x:Nat) (p:Nat):Nat:=if (ns p).r=some x then 1 else 0
def dR (ns:bj) (c:Option Nat) (b side:Nat):bj:=
 let ns1:=e7 ns b (bW (ns b) side c)
 match c with
 |none=>ns1
 |some x=>e7 ns1 x { ns1 x with up:=some b }
def kB (ns:bj) (p:Nat):Nat:=match (ns p).up with
 |none=>0
 |some g=>cW ns p g
def w7 (ns:bj) (g:Option Nat) (top x:Nat):bj:=match g with
 |none=>ns
 |some g=>e7 ns g (bW (ns g) top (some x))
def cz (ns:bj) (x p:Nat):bj:=
 let at_:=cW ns x p
 let ns1:=dR ns (hQ (ns x) (1-at_)) p at_
 let ns2:=dR ns1 (some p) x (1-at_)
 let ns3:=e7 ns2 x { ns2 x with up:=(ns p).up }
 let ns4:=w7 ns3 (ns p).up (kB ns p) x
 ek (ek ns4 p) x
def oV (N:Nat):Option Nat→Prop
 |none=>True
 |some x=>x<N
structure cV (N:Nat) (ns:bj):Prop where
 up:∀ x,x<N→oV N (ns x).up
 l:∀ x,x<N→oV N (ns x).l
 r:∀ x,x<N→oV N (ns x).r
theorem cV.upd {N:Nat} {ns:bj} (h:cV N ns) {x:Nat} {d:Nd} (h1:oV N d.up) (h2:oV N d.l) (h3:oV N d.r):cV N (Proofs.YtpbmihpjgjbndaaGreatDoor.e7 ns x d):=by
 refine⟨fun y hy=>?_,fun y hy=>?_,fun y hy=>?_⟩<;>unfold Proofs.YtpbmihpjgjbndaaGreatDoor.e7<;>split<;>first|assumption|exact h.up y hy|exact h.l y hy|exact h.r y hy
theorem cV.lay {N:Nat} {ns:bj} (h:cV N ns) {c:Option Nat} (hc:oV N c) (a:Int) (t:Bool):cV N (eB ns c a t):=by
 cases c with
 |none=>exact h
 |some x=>
  refine h.upd (h.up x hc) ?_ ?_<;>cases t<;>first|exact h.l x hc|exact h.r x hc
theorem cV.push {N:Nat} {ns:bj} (h:cV N ns) {x:Nat} (hx:x<N):cV N (di ns x):=by
 have h1:=h.lay (h.l x hx) (ns x).add (ns x).turned
 have h2:=h1.lay (h.r x hx) (eB ns (ns x).l (ns x).add (ns x).turned x).add (eB ns (ns x).l (ns x).add (ns x).turned x).turned
 exact h2.upd (h2.up x hx) (h2.l x hx) (h2.r x hx)
theorem cV.pullC {N:Nat} {ns:bj} (h:cV N ns) {x:Nat} (hx:x<N) (c:Option Nat):cV N (Proofs.YtpbmihpjgjbndaaGreatDoor.eK ns x c):=by
 cases c with
 |none=>exact h
 |some c=>exact h.upd (h.up x hx) (h.l x hx) (h.r x hx)
theorem cV.pull {N:Nat} {ns:bj} (h:cV N ns) {x:Nat} (hx:x<N):cV N (ek ns x):=
 cV.pullC (cV.pullC (h.upd (d:={ ns x with size:=1,least:=(ns x).value,most:=(ns x).value }) (h.up x hx) (h.l x hx) (h.r x hx)) hx _) hx _
theorem cV.down {N:Nat} {ns:bj} (h:cV N ns) {x:Nat} (hx:x<N) (s:Nat):oV N (Proofs.YtpbmihpjgjbndaaGreatDoor.hQ (ns x) s):=by
 unfold Proofs.YtpbmihpjgjbndaaGreatDoor.hQ;split
 ·exact h.l x hx
 ·exact h.r x hx
theorem cV.setDown {N:Nat} {ns:bj} (h:cV N ns) {x:Nat} (hx:x<N) {c:Option Nat} (hc:oV N c) (s:Nat):cV N (Proofs.YtpbmihpjgjbndaaGreatDoor.e7 ns x (Proofs.YtpbmihpjgjbndaaGreatDoor.bW (ns x) s c)):=by
 unfold Proofs.YtpbmihpjgjbndaaGreatDoor.bW;split
 ·exact h.upd (h.up x hx) hc (h.r x hx)
 ·exact h.upd (h.up x hx) (h.l x hx) hc
theorem cV.hang {N:Nat} {ns:bj} (h:cV N ns) {c:Option Nat} (hc:oV N c) {b:Nat} (hb:b<N) (s:Nat):cV N (dR ns c b s):=by
 have h1:=h.setDown hb hc s
 cases c with
 |none=>exact h1
 |some x=>exact h1.upd hb (h1.l x hc) (h1.r x hc)
theorem cV.setG {N:Nat} {ns:bj} (h:cV N ns) {g:Option Nat} (hg:oV N g) {x:Nat} (hx:x<N) (t:Nat):cV N (w7 ns g t x):=by
 cases g with
 |none=>exact h
 |some g=>exact h.setDown hg (c:=some x) hx t
theorem cV.rotate {N:Nat} {ns:bj} (h:cV N ns) {x p:Nat} (hx:x<N) (hp:p<N):cV N (cz ns x p):=by
 have h1:=h.hang (h.down hx (1-cW ns x p)) hp (cW ns x p)
 have h2:=h1.hang (c:=some p) hp hx (1-cW ns x p)
 have h3:=h2.upd (x:=x) (d:={ dR (dR ns (Proofs.YtpbmihpjgjbndaaGreatDoor.hQ (ns x) (1-cW ns x p)) p (cW ns x p)) (some p) x (1-cW ns x p) x with up:=(ns p).up }) (h.up p hp) (h2.l x hx) (h2.r x hx)
 exact ((h3.setG (h.up p hp) hx (kB ns p)).pull hp).pull hx
/-! ### Loops -/
def dG (ns:bj):List Nat→bj
 |[]=>ns
 |x::l=>dG (di ns x) l
def Up (ns:bj):Nat→List Nat→Prop
 |_,[]=>False
 |x,[y]=>x=y∧(ns x).up=none
 |x,y::z::l=>x=y∧(ns x).up=some z∧Up ns z (z::l)
inductive u6:bj→Nat→bj→Nat→Prop
 |done {ns:bj} {x:Nat}:(ns x).up=none→u6 ns x ns 0
 |one {ns ns':bj} {x p k:Nat}:(ns x).up=some p→(ns p).up=none→u6 (cz ns x p) x ns' k→u6 ns x ns' (k+1)
 |line {ns ns':bj} {x p g q k:Nat}:(ns x).up=some p→(ns p).up=some g→cW ns x p=cW ns p g→((cz ns p g) x).up=some q→u6 (cz (cz ns p g) x q) x ns' k→u6 ns x ns' (k+2)
 |bent {ns ns':bj} {x p g q k:Nat}:(ns x).up=some p→(ns p).up=some g→cW ns x p≠cW ns p g→((cz ns x p) x).up=some q→u6 (cz (cz ns x p) x q) x ns' k→u6 ns x ns' (k+2)
def dQ (ns:bj) (x:Nat) (ns':bj) (k:Nat):Prop:=∃ path k1,Up ns x path∧path.length≤10000∧u6 (dG ns path.reverse) x ns' k1∧k=path.length+k1
inductive yD (side:Nat):bj→Nat→bj→Nat→Nat→Prop
 |done {ns:bj} {x:Nat}:hQ (ns x) side=none→yD side ns x ns x 0
 |go {ns ns':bj} {x c y k:Nat}:hQ (ns x) side=some c→yD side (di ns c) c ns' y k→yD side ns x ns' y (k+1)
def yG (side:Nat) (ns:bj) (x:Nat) (ns':bj) (y k:Nat):Prop:=∃ ns1 k1 k2,yD side ns x ns1 y k1∧dQ ns1 y ns' k2∧k=k1+k2
def Edge (side:Nat) (ns:bj) (x:Nat) (ns':bj) (y k:Nat):Prop:=∃ ns1 k1 k2,dQ ns x ns1 k1∧yG side ns1 x ns' y k2∧k=k1+k2
def ahead (ns:bj) (x:Nat):Int:=match (ns x).l with
 |none=>0
 |some c=>(ns c).size
inductive wU:bj→Nat→Int→bj→Nat→Nat→Prop
 |left {ns ns':bj} {x c y k:Nat} {p:Int}:p<ahead ns x→(ns x).l=some c→wU (di ns c) c p ns' y k→wU ns x p ns' y (k+1)
 |here {ns ns':bj} {x k:Nat} {p:Int}:p=ahead ns x→dQ ns x ns' k→wU ns x p ns' x k
 |right {ns ns':bj} {x c y k:Nat} {p:Int}:ahead ns x<p→(ns x).r=some c→wU (di ns c) c (cD (cD (p-ahead ns x)-1)) ns' y k→wU ns x p ns' y (k+1)
inductive vu (want:Int):bj→Nat→bj→Nat→Nat→Prop
 |left {ns ns':bj} {x c y k:Nat}:(ns x).l=some c→(ns c).least=want→vu want (di ns c) c ns' y k→vu want ns x ns' y (k+1)
 |here {ns ns':bj} {x k:Nat}:(∀ c,(ns x).l=some c→(ns c).least≠want)→(ns x).value=want→dQ ns x ns' k→vu want ns x ns' x k
 |right {ns ns':bj} {x c y k:Nat}:(∀ c,(ns x).l=some c→(ns c).least≠want)→(ns x).value≠want→(ns x).r=some c→vu want (di ns c) c ns' y k→vu want ns x ns' y (k+1)
theorem cV.rot {N:Nat} {ns ns':bj} {x k:Nat} (h:u6 ns x ns' k) (hx:x<N):cV N ns→cV N ns':=by
 induction h with
 |done _=>exact id
 |one h1 _ _ ih=>exact fun hN=>ih hx (hN.rotate hx (by have:=hN.up _ hx;rw[h1] at this;exact this))
 |line h1 h2 _ h4 _ ih=>
  intro hN
  have hp:=hN.up _ hx;rw[h1] at hp
  have hg:=hN.up _ hp;rw[h2] at hg
  have hN2:=hN.rotate hp hg
  have hq:=hN2.up _ hx;rw[h4] at hq
  exact ih hx (hN2.rotate hx hq)
 |bent h1 h2 _ h4 _ ih=>
  intro hN
  have hp:=hN.up _ hx;rw[h1] at hp
  have hN2:=hN.rotate hx hp
  have hq:=hN2.up _ hx;rw[h4] at hq
  exact ih hx (hN2.rotate hx hq)
theorem Up.lt {N:Nat} {ns:bj} (hN:cV N ns):∀ {path:List Nat} {x:Nat},Up ns x path→x<N→∀ y∈path,y<N
 |[],_,h,_,_,_=>h.elim
 |[z],x,⟨h1,_⟩,hx,y,hy=>by rw[List.mem_singleton.1 hy,← h1];exact hx
 |z::z'::l,x,⟨h1,h2,h3⟩,hx,y,hy=>by
  rcases List.mem_cons.1 hy with rfl|hy
  ·rw[← h1];exact hx
  ·have:oV N (some z'):=h2▸hN.up x hx
   exact Up.lt hN h3 this y hy
theorem cV.pushes {N:Nat} {ns:bj} (h:cV N ns):∀ {l:List Nat},(∀ y∈l,y<N)→cV N (Proofs.YtpbmihpjgjbndaaGreatDoor.dG ns l)
 |[],_=>h
 |y::l,hl=>cV.pushes (h.push (hl y (by simp))) (l:=l) fun z hz=>hl z (by simp[hz])
theorem cV.splay {N:Nat} {ns ns':bj} {x k:Nat} (hN:cV N ns) (hx:x<N) (h:dQ ns x ns' k):cV N ns':=by
 obtain⟨path,k1,h1,_,h2,_⟩:=h
 exact cV.rot h2 hx (hN.pushes fun y hy=>h1.lt hN hx y (by simpa using hy))
theorem cV.dwn {N side:Nat} {ns ns':bj} {x y k:Nat} (h:yD side ns x ns' y k):x<N→cV N ns→cV N ns'∧y<N:=by
 induction h with
 |done _=>exact fun hx hN=>⟨hN,hx⟩
 |go h1 _ ih=>
  intro hx hN
  have hc:=hN.down hx side
  rw[h1] at hc
  exact ih hc (hN.push hc)
theorem cV.end_ {N side:Nat} {ns ns':bj} {x y k:Nat} (hN:cV N ns) (hx:x<N) (h:yG side ns x ns' y k):cV N ns'∧y<N:=by
 obtain⟨ns1,k1,k2,h1,h2,_⟩:=h
 obtain⟨h3,h4⟩:=cV.dwn h1 hx hN
 exact⟨h3.splay h4 h2,h4⟩
theorem cV.edge {N side:Nat} {ns ns':bj} {x y k:Nat} (hN:cV N ns) (hx:x<N) (h:Edge side ns x ns' y k):cV N ns'∧y<N:=by
 obtain⟨ns1,k1,k2,h1,h2,_⟩:=h
 exact (hN.splay hx h1).end_ hx h2
/-! ### Memory -/
def zh:UK→Bool
 |.struct _=>false
 |.arr _ _=>false
 |_=>true
def aW (pf gn cap N k:Nat) (ns:bj):Heap:=
 [blk pf 344 [.slice (some ⟨gn,0,none⟩) N cap,.int .i64 (cD k)],.own (.slice (some ⟨gn,0,none⟩) N cap) 347 9 N (ey N ns)]
theorem kK (a b:Int):cD (cD a+b)=cD (a+b):=by unfold cD;simp only[IntKind.wrap_i64];omega
theorem am {o:Oper} {t b off n e sz by_ m:Nat} {x ix:Operand} {k:IntKind} {z:Option Value} {uk:UK} {by':Nat} {z':Option Value} (ho:o.op=.indexAddr t x ix) (hx:val E x=some (.pointer (some ⟨b,off,none⟩)))
 (hi:val E ix=some (.int k (m:Int))) (ht:tab t=some ⟨.arr n e,sz,by_,z⟩) (he:tab e=some ⟨uk,1,by',z'⟩) (hm:m<n):gW X o E H (.pointer (some ⟨b,off+m,none⟩)):=by
 intro a w hA hH
 have hu:Tryz.prog.underlying t=some (.array n e):=by
  obtain⟨d,j,hd,_,hu,_⟩:=cZ ht
  rw[hd];cases d<;>simp[jP] at hu ⊢;exact hu
 have hsz:=cA he w
 simp[execOp,ho,hA.val hx,hA.val hi,Instr.indexAt,asIntOf,run_underlying hu,Instr.sureAddr,hsz,Addr.add_at,hm]
theorem vT {o:Oper} {t n e sz by_ m:Nat} {x ix:Operand} {k:IntKind} {z:Option Value} {uk:UK} {by':Nat} {z':Option Value} {cs:List Value} {v:Value} (ho:o.op=.index t x ix) (hx:val E x=some (.agg cs.toArray))
 (hi:val E ix=some (.int k (m:Int))) (ht:tab t=some ⟨.arr n e,sz,by_,z⟩) (he:tab e=some ⟨uk,1,by',z'⟩) (hg:zh uk=true) (hm:m<n) (hv:cs[m]?=some v):gW X o E H v:=by
 intro a w hA hH
 have hu:Tryz.prog.underlying t=some (.array n e):=by
  obtain⟨d,j,hd,_,hu,_⟩:=cZ ht
  rw[hd];cases d<;>simp[jP] at hu ⊢;exact hu
 have hsz:=cA he w
 have hn:=mv (nk he (fun fs (e:uk=_)=>by subst e;cases hg) (fun n e' (e:uk=_)=>by subst e;cases hg)) w
 simp[execOp,ho,hA.val hx,hA.val hi,Instr.index,asIntOf,run_underlying hu,hsz,hm,part,hn,hv]
theorem aG {o:Oper} {t g x f N cap:Nat} {xo:Operand} {ns:bj} {v:Value} (k:Nat) (ho:o.op=.load t xo) (hx:val E xo=some (.pointer (some ⟨g,x*9+f,none⟩)))
 (hk:H[k]?=some (.own (.slice (some ⟨g,0,none⟩) N cap) 347 9 N (ey N ns))) {uk:UK} {by':Nat} {z':Option Value} (ht:tab t=some ⟨uk,1,by',z'⟩) (hg:zh uk=true)
 (hxN:x<N) (hf:Nat.blt f 9=true) (hv:(dB (ns x))[f]?=some v):gW X o E H v:=by
 have hf':f<9:=by simpa using hf
 refine aD k ho hx hk ?_
 unfold ew
 rw[ht]
 cases uk<;>first|exact (fZ hxN hf').trans hv|cases hg
theorem qp {o:Oper} {g x N cap:Nat} {xo:Operand} {ns:bj} {t e by_:Nat} {z:Option Value} (k:Nat) (ho:o.op=.load t xo) (hx:val E xo=some (.pointer (some ⟨g,x*9+1,none⟩)))
 (hk:H[k]?=some (.own (.slice (some ⟨g,0,none⟩) N cap) 347 9 N (ey N ns))) (ht:tab t=some ⟨.arr 2 e,2,by_,z⟩) (hxN:x<N):gW X o E H (.agg [Value.int .i64 (enc (ns x).l),.int .i64 (enc (ns x).r)].toArray):=by
 refine aD k ho hx hk ?_
 unfold ew
 rw[ht]
 have h1:=fZ (f:=1) (ns:=ns) hxN (by decide)
 have h2:=fZ (f:=2) (ns:=ns) hxN (by decide)
 have h2':(ey N ns)[x*9+1+1]?=(dB (ns x))[2]?:=h2
 show (match dU (ey N ns) (x*9+1) 2 with|some l=>some (Value.agg l.toArray)|none=>none)=_
 unfold dU;rw[h1]
 unfold dU;rw[h2']
 rfl
theorem aN {o:Oper} {t g x s N cap:Nat} {xo:Operand} {ns:bj} (k:Nat) (ho:o.op=.load t xo) (hx:val E xo=some (.pointer (some ⟨g,x*9+1+s,none⟩)))
 (hk:H[k]?=some (.own (.slice (some ⟨g,0,none⟩) N cap) 347 9 N (ey N ns))) {k':IntKind} {by':Nat} {z':Option Value} (ht:tab t=some ⟨.int k',1,by',z'⟩)
 (hxN:x<N) (hs:s<2):gW X o E H (.int .i64 (enc (hQ (ns x) s))):=by
 refine aD k ho hx hk ?_
 unfold ew
 rw[ht]
 have h1:=fZ (f:=1+s) (ns:=ns) hxN (by omega)
 show (ey N ns)[x*9+1+s]?=_
 rw[Nat.add_assoc,h1]
 obtain rfl|rfl:s=0∨s=1:=by omega
 ·rfl
 ·rfl
theorem b9 {ops l:List Oper} {o:Oper} {t g x f N cap:Nat} {xo yo:Operand} {ns:bj} {v:Value} (k:Nat) (d:Nd) (ho:o.op=.store t xo yo) (hx:val E xo=some (.pointer (some ⟨g,x*9+f,none⟩))) (hy:val E yo=some v)
 (hk:H[k]?=some (.own (.slice (some ⟨g,0,none⟩) N cap) 347 9 N (ey N ns))) {uk:UK} {by':Nat} {z':Option Value} (ht:tab t=some ⟨uk,1,by',z'⟩) (hc:v.cells.toList=[v]) (h1:v.oneCell'=true)
 (hxN:x<N) (hf:Nat.blt f 9=true) (hd:(dB (ns x)).set f v=dB d) (gs:List Nat) (hb:iJ X.n ops gs E o undef=some E')
 (h:JL X ops l Q E' (H.set k (.own (.slice (some ⟨g,0,none⟩) N cap) 347 9 N (ey N (e7 ns x d))))):JL X ops (o::l) Q E H:=by
 have hf':f<9:=by simpa using hf
 refine aQ k ho hx hy hk (dk ht hc h1 (by rw[dS];omega)) gs hb ?_
 rw[wW hxN hf' hd]
 exact h
theorem nq {ops l:List Oper} {o:Oper} {t g x s N cap:Nat} {xo yo:Operand} {ns:bj} {c:Option Nat} (k:Nat) (ho:o.op=.store t xo yo) (hx:val E xo=some (.pointer (some ⟨g,x*9+1+s,none⟩))) (hy:val E yo=some (.int .i64 (enc c)))
 (hk:H[k]?=some (.own (.slice (some ⟨g,0,none⟩) N cap) 347 9 N (ey N ns))) {uk:UK} {by':Nat} {z':Option Value} (ht:tab t=some ⟨uk,1,by',z'⟩)
 (hxN:x<N) (hs:s<2) (gs:List Nat) (hb:iJ X.n ops gs E o undef=some E')
 (h:JL X ops l Q E' (H.set k (.own (.slice (some ⟨g,0,none⟩) N cap) 347 9 N (ey N (e7 ns x (bW (ns x) s c)))))):JL X ops (o::l) Q E H:=by
 rw[Nat.add_assoc] at hx
 obtain rfl|rfl:s=0∨s=1:=by omega
 ·exact b9 (f:=1) k { ns x with l:=c } ho hx hy hk ht rfl rfl hxN rfl rfl gs hb h
 ·exact b9 (f:=2) k { ns x with r:=c } ho hx hy hk ht rfl rfl hxN rfl rfl gs hb h
theorem xm (ns:bj) (x:Nat) (d e:Nd):e7 (e7 ns x d) x e=e7 ns x e:=by funext y;unfold e7;split<;>rfl
theorem ce {ops l:List Oper} {o:Oper} {t g x f N cap:Nat} {xo yo:Operand} {ns:bj} {d0:Nd} {v:Value} (k:Nat) (d:Nd) (ho:o.op=.store t xo yo) (hx:val E xo=some (.pointer (some ⟨g,x*9+f,none⟩))) (hy:val E yo=some v)
 (hk:H[k]?=some (.own (.slice (some ⟨g,0,none⟩) N cap) 347 9 N (ey N (e7 ns x d0)))) {uk:UK} {by':Nat} {z':Option Value} (ht:tab t=some ⟨uk,1,by',z'⟩) (hc:v.cells.toList=[v]) (h1:v.oneCell'=true)
 (hxN:x<N) (hf:Nat.blt f 9=true) (hd:(dB d0).set f v=dB d) (gs:List Nat) (hb:iJ X.n ops gs E o undef=some E')
 (h:JL X ops l Q E' (H.set k (.own (.slice (some ⟨g,0,none⟩) N cap) 347 9 N (ey N (e7 ns x d))))):JL X ops (o::l) Q E H:=by
 refine b9 k d ho hx hy hk ht hc h1 hxN hf (by rw[cI];exact hd) gs hb ?_
 rw[xm];exact h
theorem du {c:Option Nat} {x:Nat} (h:c=some x):enc c=(x:Int):=by rw[h];rfl
theorem vt {c:Option Nat} {x:Nat}:enc c=(x:Int)↔c=some x:=by
 cases c with
 |none=>simp[enc]
 |some y=>simp[enc];omega
end Go.Proofs.YtpbmihpjgjbndaaGreatDoor
/- The engine: regions that draw their order, whose effects all wait for the loads that they might spoil. -/
set_option linter.unusedVariables false
set_option linter.unusedSimpArgs false
namespace Go.Proofs.YtpbmihpjgjbndaaGreatDoor
open Go.RowKit
section
variable {P:Program} {ops:Array Oper} {md:Region.Mode} {S:Array Bool→World→Prop} {F:Exit→Act→World→Prop}
def lE (P:Program) (md:Region.Mode) (ops:Array Oper) (S:Array Bool→World→Prop) (n:Nat) (L:Array Bool→Act→World→Prop):Nat→Array Bool→Act→World→Prop
 |0,listed,a,w=>L listed a w
 |f+1,listed,a,w=>Region.ready md ops listed≠[]∧∀ i∈Region.ready md ops listed,i<n∧wpOp P ops j7 i (fun a' w'=>S (listed.setIfInBounds i true) w'∧lE P md ops S n L f (listed.setIfInBounds i true) a' w') a w
theorem iS {n g:Nat} {L:Array Bool→Act→World→Prop} {Q':Exit→Act→World→Prop} (hL:∀ listed a w,L listed a w→wpAny P md ops Q' g listed a w):
 ∀ (f:Nat) (listed:Array Bool) (a:Act) (w:World),lE P md ops S n L f listed a w→wpAny P md ops Q' (f+g) listed a w
 |0,listed,a,w,h=>by rw[Nat.zero_add];exact hL _ _ _ h
 |f+1,listed,a,w,h=>by
  rw[show f+1+g=(f+g)+1 by omega]
  exact⟨fun h0=>absurd h0 h.1,fun i hi=>iq (fun _ _ _ _ h=>h) (wpOp_mono (fun a' w' h'=>iS hL f _ a' w' h'.2) (h.2 i hi).2)⟩
theorem kA {n i:Nat} {oi:Oper} {v:Value} {L:Array Bool→Act→World→Prop} {C:World→Prop} (hi:ops[i]?=some oi) (hsel:∀ (j:Nat) (o:Oper) cs b,ops[j]?=some o→o.op≠.select cs b)
 (hC:∀ listed w,HeadInv md ops n listed→listed.getD i true=false→S listed w→C w) (hS:∀ listed w,HeadInv md ops n listed→S listed w→S (listed.setIfInBounds i true) w)
 (ht:kF md ops n=true) (hin:i<n) (hdone:∀ listed a w,L listed a w→∀ j∈Region.ready md ops listed,n≤j):
 ∀ (f:Nat) (listed:Array Bool) (a:Act) (w:World),HeadInv md ops n listed→
   (∀ j oj,ops[j]?=some oj→j≠i→listed.getD j true=false→(∀ e∈oj.after,Region.binds md e=true→e.on≠i)→oi.apart ops oj=true)→
   i∈Region.ready md ops listed→YS P ops C oi v a→S listed w→(∀ listed w,S (listed.setIfInBounds i true) w→listed.getD i true=false→S listed w)→
   lE P md ops S n L f (listed.setIfInBounds i true) (a.put oi.dst v) w→lE P md ops S n L (f+1) listed a w:=by
 intro f
 induction f with
 |zero=>
  intro listed a w inv _ hr hy hSw hback H
  have hun:=(mem_ready.1 hr).1
  refine⟨fun h=>(by rw[h] at hr;cases hr),fun j hj=>?_⟩
  have hjn:=gA ht inv hin hun j hj
  refine⟨hjn,?_⟩
  by_cases hji:j=i
  ·subst hji;exact hy.wpOp hi (hC _ _ inv hun hSw) ⟨hS _ _ inv hSw,H⟩
  ·have:=hdone _ _ _ H j (ready_mono hj hji)
   omega
 |succ f ih=>
  intro listed a w inv hfree hr hy hSw hback H
  have hun:=(mem_ready.1 hr).1
  refine⟨fun h=>(by rw[h] at hr;cases hr),fun j hj=>?_⟩
  have hjn:=gA ht inv hin hun j hj
  refine⟨hjn,?_⟩
  by_cases hji:j=i
  ·subst hji;exact hy.wpOp hi (hC _ _ inv hun hSw) ⟨hS _ _ inv hSw,H⟩
  ·have h1:=(H.2 j (ready_mono hj hji)).2
   obtain⟨hjun,oj,hoj,hall⟩:=mem_ready.1 hj
   have hnot:∀ e∈oj.after,Region.binds md e=true→e.on≠i:=fun e he hb heq=>by
    have h1:=hall e he hb
    rw[heq,getD_both hun] at h1
    cases h1
   have h2:=qC hoj (hfree j oj hoj hji hjun hnot) (fun cs b=>hsel i oi cs b hi) (fun cs b=>hsel j oj cs b hoj) hy h1
   have hfree':∀ k ok,ops[k]?=some ok→k≠i→(listed.setIfInBounds j true).getD k true=false→
    (∀ e∈ok.after,Region.binds md e=true→e.on≠i)→oi.apart ops ok=true:=fun k ok hk hki hun hno=>by
    refine hfree k ok hk hki ?_ hno
    by_cases hjk:j=k
    ·subst hjk;exact hjun
    ·rw[getD_set_ne true hjk] at hun;exact hun
   have hi2:(listed.setIfInBounds j true).getD i true=false:=by rw[getD_set_ne true hji];exact hun
   refine wpOp_mono (fun a' w' h3=>?_) h2
   have hSj:S (listed.setIfInBounds j true) w':=hback _ _ (by rw[Array.setIfInBounds_comm _ _ hji];exact h3.2.1) hi2
   refine⟨hSj,ih (listed.setIfInBounds j true) a' w' (inv.set hj hjn) hfree' (ready_mono hr (Ne.symm hji)) h3.1 hSj hback ?_⟩
   rw[Array.setIfInBounds_comm _ _ hji]
   exact h3.2.2
def y9 (P:Program) (ops:Array Oper) (S1 S2:World→Prop) (cov:Nat→Bool) (Q:Act→World→Prop):List Nat→Nat→List (Nat×Bool)→Act→World→Prop
 |[],k0,rest,a,w=>wpOp P ops j7 k0 (fun a' w'=>S2 w'∧pB P ops S2 Q rest a' w') a w
 |k::l,k0,rest,a,w=>∃ o v,ops[k]?=some o∧YS P ops (if cov k=true then S1 else S2) o v a∧y9 P ops S1 S2 cov Q l k0 rest (a.put o.dst v) w
def jX (md:Region.Mode) (ops:Array Oper) (k0 i:Nat):Bool:=match ops[k0]? with
 |some o=>o.after.toList.any fun e=>Region.binds md e&&Nat.beq e.on i
 |none=>false
def uO (S1 S2:World→Prop) (k0:Nat) (listed:Array Bool) (w:World):Prop:=if listed.getD k0 false=true then S2 w else S1 w
def vr (l:List Nat) (k0:Nat):Bool:=l.all fun k=>!(Nat.beq k k0)
theorem iQ {n g:Nat} {S1 S2:World→Prop} (h12:∀ w,S1 w→S2 w) {k0:Nat} {Lq:Act→World→Prop} (hsel:Region.noSelect ops=true) (ht:kF md ops n=true):∀ (l:List (Nat×Bool)) (listed:Array Bool) (a:Act) (w:World),HeadInv md ops n listed→listed.getD k0 false=true→S2 w→
 iK md ops n g l listed=true→pB P ops S2 Lq l a w→lE P md ops (uO S1 S2 k0) n (fun listed' a' w'=>Region.seqB md ops g n listed'=true∧Lq a' w') l.length listed a w
 |[],listed,a,w,_,_,_,hB,h=>⟨hB,h⟩
 |(k,true)::l,listed,a,w,inv,hk0,hS,hB,h=>by
  simp only[iK,Bool.and_eq_true,decide_eq_true_eq] at hB
  obtain⟨⟨hkn,hr,hf⟩,hB'⟩:=hB
  obtain⟨o,v,h0,hy,hK⟩:=h
  have hr':k∈Region.ready md ops listed:=by simpa using hr
  have hun:=(mem_ready.1 hr').1
  have hne:k≠k0:=by rintro rfl;rw[getD_both hun] at hk0;cases hk0
  have hset:∀ (li:Array Bool),(li.setIfInBounds k true).getD k0 false=li.getD k0 false:=fun li=>getD_set_ne false hne
  refine kA (C:=S2) h0 (Region.noSelect_spec hsel) (fun li w _ _ hs=>?_) (fun li w _ hs=>?_) ht hkn (fun listed' a' w' hL=>seqB_ready hL.1) l.length listed a w inv (Region.free_spec h0 hf) hr' hy ?_ (fun li w hs _=>?_)
   (iQ h12 hsel ht l _ _ w (inv.set hr' hkn) (by rw[hset];exact hk0) hS hB' hK)
  ·unfold uO at hs;split at hs
   ·exact hs
   ·exact h12 _ hs
  ·unfold uO at*;rw[hset];exact hs
  ·unfold uO;rw[if_pos hk0];exact hS
  ·unfold uO at*;rw[hset] at hs;exact hs
 |(k,false)::l,listed,a,w,inv,hk0,hS,hB,h=>by
  simp only[iK,Bool.and_eq_true,decide_eq_true_eq] at hB
  obtain⟨⟨hkn,hr⟩,hB'⟩:=hB
  refine⟨by rw[hr];simp,fun i hi=>?_⟩
  have hr':k∈Region.ready md ops listed:=by rw[hr];simp
  have hun:=(mem_ready.1 hr').1
  have hne:k≠k0:=by rintro rfl;rw[getD_both hun] at hk0;cases hk0
  rw[hr] at hi
  obtain rfl:i=k:=by simpa using hi
  have hk1:(listed.setIfInBounds i true).getD k0 false=true:=by rw[getD_set_ne false hne];exact hk0
  exact⟨hkn,wpOp_mono (fun a' w' h'=>⟨by unfold uO;rw[if_pos hk1];exact h'.1,iQ h12 hsel ht l _ _ _ (inv.set hr' hkn) hk1 h'.1 hB' h'.2⟩) h⟩
theorem qR {k0 i:Nat} (h:jX md ops k0 i=true) {n:Nat} {listed:Array Bool} (inv:HeadInv md ops n listed) (hun:listed.getD i true=false):listed.getD k0 false=false:=by
 unfold jX at h
 split at h
 ·rename_i o ho
  obtain⟨e,he,hb⟩:=List.any_eq_true.1 h
  simp only[Bool.and_eq_true] at hb
  have e1:=Nat.eq_of_beq_eq_true hb.2
  cases hc:listed.getD k0 false with
  |false=>rfl
  |true=>
   have:=inv.closed k0 o ho hc e (by simpa using he) hb.1
   rw[e1,getD_both hun] at this
   cases this
 ·cases h
theorem lU {n g:Nat} {S1 S2:World→Prop} (h12:∀ w,S1 w→S2 w) {k0:Nat} {Lq:Act→World→Prop} (hsel:Region.noSelect ops=true) (ht:kF md ops n=true) {rest:List (Nat×Bool)}:∀ (l:List Nat) (listed:Array Bool) (a:Act) (w:World),HeadInv md ops n listed→vr l k0=true→listed.getD k0 false=false→S1 w→
 iK md ops n g (l.map (fun k=>(k,true))++(k0,false)::rest) listed=true→y9 P ops S1 S2 (jX md ops k0) Lq l k0 rest a w→
  lE P md ops (uO S1 S2 k0) n (fun listed' a' w'=>Region.seqB md ops g n listed'=true∧Lq a' w') (l.length+1+rest.length) listed a w
 |[],listed,a,w,inv,_,hk0,hS,hB,h=>by
  simp only[List.map_nil,List.nil_append,iK,Bool.and_eq_true,decide_eq_true_eq] at hB
  obtain⟨⟨hkn,hr⟩,hB'⟩:=hB
  rw[show ([]:List Nat).length+1+rest.length=rest.length+1 by simp;omega]
  refine⟨by rw[hr];simp,fun i hi=>?_⟩
  have hr':k0∈Region.ready md ops listed:=by rw[hr];simp
  rw[hr] at hi
  obtain rfl:i=k0:=by simpa using hi
  have hk1:(listed.setIfInBounds i true).getD i false=true:=by
   obtain⟨_,o,ho,_⟩:=mem_ready.1 hr'
   have:=(Array.getElem?_eq_some_iff.1 ho).1
   rw[← inv.size] at this
   simp[this]
  exact⟨hkn,wpOp_mono (fun a' w' h'=>⟨by unfold uO;rw[if_pos hk1];exact h'.1,iQ h12 hsel ht rest _ _ _ (inv.set hr' hkn) hk1 h'.1 hB' h'.2⟩) h⟩
 |k::l,listed,a,w,inv,hal,hk0,hS,hB,h=>by
  simp only[List.map_cons,List.cons_append,iK,Bool.and_eq_true,decide_eq_true_eq] at hB
  obtain⟨⟨hkn,hr,hf⟩,hB'⟩:=hB
  obtain⟨o,v,h0,hy,hK⟩:=h
  simp only[vr,List.all_cons,Bool.and_eq_true,Bool.not_eq_true'] at hal
  have hne:k≠k0:=fun e=>by rw[e,Nat.beq_refl] at hal;cases hal.1
  have hr':k∈Region.ready md ops listed:=by simpa using hr
  have hset:∀ (li:Array Bool),(li.setIfInBounds k true).getD k0 false=li.getD k0 false:=fun li=>getD_set_ne false hne
  rw[show (k::l).length+1+rest.length=(l.length+1+rest.length)+1 by simp;omega]
  refine kA (C:=if jX md ops k0 k=true then S1 else S2) h0 (Region.noSelect_spec hsel) (fun li w inv' hun' hs=>?_) (fun li w _ hs=>?_) ht hkn (fun listed' a' w' hL=>seqB_ready hL.1) _ listed a w inv (Region.free_spec h0 hf) hr' hy ?_ (fun li w hs _=>?_)
   (lU h12 hsel ht l _ _ w (inv.set hr' hkn) (by simpa [vr] using hal.2) (by rw[hset];exact hk0) hS hB' hK)
  ·split
   ·rename_i hc
    have:=qR hc inv' hun'
    unfold uO at hs;rw[this] at hs;simpa using hs
   ·unfold uO at hs;split at hs
    ·exact hs
    ·exact h12 _ hs
  ·unfold uO at*;rw[hset];exact hs
  ·unfold uO;rw[hk0];simpa using hS
  ·unfold uO at*;rw[hset] at hs;exact hs
theorem qE {id:Nat} {Q:Exit→Act→World→Prop} {S1 S2:World→Prop} (h12:∀ w,S1 w→S2 w) {a:Act} {w:World} {ol:List Oper} (n:Nat) (l:List Nat) (k0:Nat) (rest:List (Nat×Bool)) (hm:P.follows .mixedOrders=true)
 (hB:(mw ol.toArray n (l.map (fun k=>(k,true))++(k0,false)::rest)&&vr l k0)=true) (hS:S1 { w with drawn:=w.drawn+1 })
 (h:y9 P ol.toArray S1 S2 (jX .any ol.toArray k0) (fun a' w'=>wpList P ol.toArray Q (ol.drop n) a' w') l k0 rest a { w with drawn:=w.drawn+1 }):(Code.region id ol.toArray true).wp P Q a w:=by
 simp only[mw,Bool.and_eq_true,decide_eq_true_eq] at hB
 obtain⟨⟨⟨⟨⟨hsel,ht⟩,hlen⟩,hn⟩,hwk⟩,hal⟩:=hB
 have inv0:HeadInv .any ol.toArray n (Array.replicate ol.toArray.size false):=
  ⟨by simp,fun j oj _ hl=>(by rw[getD_replicate_false] at hl;cases hl),fun t _ ht=>getD_in (by simpa using ht) (getD_replicate_false _ _)⟩
 have hdl:(ol.drop n).length=ol.toArray.size-n:=by simp
 have H:=lU (md:=.any) (g:=ol.toArray.size-n) h12 hsel ht l _ a _ inv0 hal (getD_replicate_false _ _) hS hwk h
 refine wp_region_any hm ?_
 have:=iS (Q':=Q) (g:=ol.toArray.size-n) (fun listed a' w' hL=>by
  have:=wpAny_of_seq (md:=.any) (Q':=Q) (ol.drop n) n listed a' w' (fun j=>by simp[List.getElem?_drop]) (by rw[hdl];exact hL.1) hL.2
  rwa [hdl] at this) _ _ _ _ H
 have hl2:l.length+1+rest.length=n:=by rw[← hlen];simp;omega
 rw[hl2,show n+(ol.toArray.size-n)=ol.toArray.size by omega] at this
 exact this
end
section
variable {X:Cx} {Q:dl} {E E':Env} {H Sf:Heap} {K:Env→Heap→Prop}
def JE (X:Cx) (ops:List Oper) (l:List Nat) (k0:Nat) (rest:List (Nat×Bool)) (Sf:Heap) (K:Env→Heap→Prop) (E:Env) (H:Heap):Prop:=
 ∀ a w,eh X.n a E→cm X.w0 X.M w H→y9 Tryz.prog ops.toArray (fun w=>cm X.w0 X.M w Sf) (fun w=>cm X.w0 X.M w []) (jX .any ops.toArray k0) (fun a' w'=>∃ E' H',eh X.n a' E'∧cm X.w0 X.M w' H'∧K E' H') l k0 rest a w
theorem ng {P:Program} {ops:Array Oper} {S:World→Prop} {Q1 Q2:Act→World→Prop} (hq:∀ a w,Q1 a w→Q2 a w):∀ l a w,pB P ops S Q1 l a w→pB P ops S Q2 l a w
 |[],a,w,h=>hq a w h
 |(k,true)::l,a,w,⟨o,v,h1,h2,h3⟩=>⟨o,v,h1,h2,ng hq l _ _ h3⟩
 |(k,false)::l,a,w,h=>wpOp_mono (fun a' w' h'=>⟨h'.1,ng hq l _ _ h'.2⟩) h
theorem pI {P:Program} {ops:Array Oper} {S1 S2:World→Prop} {cov:Nat→Bool} {Q1 Q2:Act→World→Prop} (hq:∀ a w,Q1 a w→Q2 a w) {k0:Nat} {rest:List (Nat×Bool)}:∀ l a w,y9 P ops S1 S2 cov Q1 l k0 rest a w→y9 P ops S1 S2 cov Q2 l k0 rest a w
 |[],a,w,h=>wpOp_mono (fun a' w' h'=>⟨h'.1,ng hq rest _ _ h'.2⟩) h
 |k::l,a,w,⟨o,v,h1,h2,h3⟩=>⟨o,v,h1,h2,pI hq l _ _ h3⟩
theorem fF {id:Nat} {ol:List Oper} (n:Nat) (l:List Nat) (k0:Nat) (rest:List (Nat×Bool)) (hB:(mw ol.toArray n (l.map (fun k=>(k,true))++(k0,false)::rest)&&vr l k0)=true)
 (h:JE X ol l k0 rest H (fun E' H'=>JL X ol (ol.drop n) Q E' H') E H):J X (.region id ol.toArray true) Q E H:=by
 intro a w hA hH
 refine qE (S1:=fun w=>cm X.w0 X.M w H) (S2:=fun w=>cm X.w0 X.M w []) (fun w h=>h.mono (fun c hc=>by cases hc) List.Pairwise.nil) n l k0 rest uE hB hH.drew ?_
 refine pI ?_ _ _ _ (h a _ hA hH.drew)
 rintro a w ⟨E',H',hA',hH',hq⟩
 exact hq a w hA' hH'
theorem bn {ops:List Oper} {l:List Nat} {k0 k:Nat} {rest:List (Nat×Bool)} {o:Oper} {v:Value} (gs:List Nat) (ho:ops[k]?=some o) (hc:jX .any ops.toArray k0 k=true) (hv:gW X o E Sf v) (hb:iJ X.n ops gs E o v=some E') (h:JE X ops l k0 rest Sf K E' H):JE X ops (k::l) k0 rest Sf K E H:=by
 intro a w hA hH
 obtain⟨hg,hp⟩:=cP hb
 refine⟨o,v,by simpa using ho,.inl ⟨bQ hA hg,fun w' hw'=>hv a w' hA ?_⟩,h _ w (hA.putE hp) hH⟩
 rw[if_pos hc] at hw';exact hw'
theorem f5 {ops:List Oper} {l:List Nat} {k0 k:Nat} {rest:List (Nat×Bool)} {o:Oper} {gs:List Nat} (ho:ops[k]?=some o) (he:xa X.n ops gs E o=some E') (h:JE X ops l k0 rest Sf K E' H):JE X ops (k::l) k0 rest Sf K E H:=by
 unfold xa at he
 intro a w hA hH
 split at he
 ·rename_i hg
  split at he
  ·rename_i v hv
   have:=hA.putE he
   exact⟨o,v,by simpa using ho,.inl ⟨bQ hA hg,fun w' _=>g7 (X:=⟨w',[],X.n⟩) (H:=[]) hv a w' hA ⟨rfl,rfl,rfl,Nat.le_refl _,fun _ _ _=>rfl,fun _ h=>(by cases h),fun _ h=>(by cases h),List.Pairwise.nil⟩⟩,h _ w this hH⟩
  ·cases he
 ·rename_i hg
  exact⟨o,undef,by simpa using ho,.inr ⟨bQ hA hg,rfl⟩,h _ w (hA.putE he) hH⟩
 ·cases he
theorem b5 {ops:List Oper} {l:List Nat} {k0 k:Nat} {rest:List (Nat×Bool)} {o:Oper} {v:Value} (gs:List Nat) (ho:ops[k]?=some o) (hv:gW X o E [] v) (hb:iJ X.n ops gs E o v=some E') (h:JE X ops l k0 rest Sf K E' H):JE X ops (k::l) k0 rest Sf K E H:=by
 intro a w hA hH
 obtain⟨hg,hp⟩:=cP hb
 refine⟨o,v,by simpa using ho,.inl ⟨bQ hA hg,fun w' hw'=>hv a w' hA ?_⟩,h _ w (hA.putE hp) hH⟩
 split at hw'
 ·exact hw'.mono (fun c hc=>by cases hc) List.Pairwise.nil
 ·exact hw'
theorem eH {ops:List Oper} {k0:Nat} {rest:List (Nat×Bool)} {o:Oper} (ho:ops[k0]?=some o) (h:JL X ops [o] (x4 X ops rest [] K) E H):JE X ops [] k0 rest Sf K E H:=by
 intro a w hA hH
 exact a6 ho h a w hA hH
end
end Go.Proofs.YtpbmihpjgjbndaaGreatDoor
/- Rows that are cut, joined and turned: the small functions, step by step. -/
set_option linter.unusedVariables false
set_option linter.unusedSimpArgs false
namespace Go.Proofs.YtpbmihpjgjbndaaGreatDoor
open Go.RowKit
variable {pf gn cap N:Nat}
theorem l8 (k:Nat) (ns:bj) (c:Option Nat) (hc:oV N c) (a:Int) (t:Bool):Fn 294 [.pointer (some ⟨pf,0,none⟩),.int .i64 (enc c),.int .i64 a,.bool t] (aR (aW pf gn cap N k ns)) ([]++aW pf gn cap N k ns)
 fun _ H'=>H'=aW pf gn cap N k (eB ns c a t):=by
 generalize hM:aR _=M
 refine aS Tryz.func294 rfl rfl fun w0=>?_
 refine ad (ad (aa (ae [] rfl ?_)))
 cases c with
 |none=>
  refine aP 10 (v':=.bool true) rfl (congrArg Value.bool (az rfl)) ?_
  refine bo rfl ?_
  exact aB ⟨_,rfl,rfl⟩
 |some x=>
  have hx:x<N:=hc
  refine aP 10 (v':=.bool false) rfl (congrArg Value.bool (aA (by show ¬ ((x:Int)=-1);omega))) ?_
  refine bI rfl (av ?_)
  refine ad (aa ?_)
  (repeat' (first
   |refine ai ?_
   |refine ak (gs:=[999]) rfl ?_
   |refine ab [999] (af 0 rfl rfl rfl rfl) rfl ?_
   |refine ab [999] (aU rfl rfl rfl rfl rfl (by first|assumption|omega)) rfl ?_
   |refine ab [999] (am (m:=0) rfl rfl rfl rfl rfl (by decide)) rfl ?_
   |refine ab [999] (am (m:=1) rfl rfl rfl rfl rfl (by decide)) rfl ?_
   |refine ab [999] (aN 1 rfl rfl rfl rfl (by first|assumption|omega) (by first|assumption|omega)) rfl ?_
   |refine ab [999] (aG 1 rfl rfl rfl rfl rfl (by first|assumption|omega) rfl rfl) rfl ?_))
  refine ad ?_
  refine fF 40 [0,1,2,3,4,5,6,7,8,9,10,11,12,13,14,15,16,17,18,19,20,21,22,23,24,25,26,27,28,29] 30 [(31,true),(32,true),(33,false),(34,true),(35,true),(36,false),(37,true),(38,true),(39,false)] (by kernel_rfl) ?_
  (repeat' (first
   |refine f5 (gs:=[999]) rfl rfl ?_
   |refine bn [999] rfl rfl (af 0 rfl rfl rfl rfl) rfl ?_
   |refine b5 [999] rfl (aU rfl rfl rfl rfl rfl (by first|assumption|omega)) rfl ?_
   |refine b5 [999] rfl (am (m:=0) rfl rfl rfl rfl rfl (by decide)) rfl ?_
   |refine b5 [999] rfl (am (m:=1) rfl rfl rfl rfl rfl (by decide)) rfl ?_
   |refine bn [999] rfl rfl (aN 1 rfl rfl rfl rfl (by first|assumption|omega) (by first|assumption|omega)) rfl ?_
   |refine bn [999] rfl rfl (aG 1 rfl rfl rfl rfl rfl (by first|assumption|omega) rfl rfl) rfl ?_))
  refine eH rfl ?_
  (first|refine ce 1 { ns x with value:=cD ((ns x).value+a) } rfl rfl rfl rfl rfl rfl rfl (by first|assumption|omega) rfl rfl [] rfl ?_|refine b9 1 { ns x with value:=cD ((ns x).value+a) } rfl rfl rfl rfl rfl rfl rfl (by first|assumption|omega) rfl rfl [] rfl ?_)
  refine ai ⟨⟨[],by decide,rfl⟩,?_⟩
  (repeat' (refine aZ (gs:=[999]) rfl rfl ?_))
  refine a6 rfl ?_
  (first|refine ce 1 { ns x with value:=cD ((ns x).value+a),least:=cD ((ns x).least+a) } rfl rfl rfl rfl rfl rfl rfl (by first|assumption|omega) rfl rfl [] rfl ?_|refine b9 1 { ns x with value:=cD ((ns x).value+a),least:=cD ((ns x).least+a) } rfl rfl rfl rfl rfl rfl rfl (by first|assumption|omega) rfl rfl [] rfl ?_)
  refine ai ⟨⟨[],by decide,rfl⟩,?_⟩
  (repeat' (refine aZ (gs:=[999]) rfl rfl ?_))
  refine a6 rfl ?_
  (first|refine ce 1 { ns x with value:=cD ((ns x).value+a),least:=cD ((ns x).least+a),most:=cD ((ns x).most+a) } rfl rfl rfl rfl rfl rfl rfl (by first|assumption|omega) rfl rfl [] rfl ?_|refine b9 1 { ns x with value:=cD ((ns x).value+a),least:=cD ((ns x).least+a),most:=cD ((ns x).most+a) } rfl rfl rfl rfl rfl rfl rfl (by first|assumption|omega) rfl rfl [] rfl ?_)
  refine ai ⟨⟨[],by decide,rfl⟩,?_⟩
  (repeat' (refine aZ (gs:=[999]) rfl rfl ?_))
  refine a6 rfl ?_
  (first|refine ce 1 { ns x with value:=cD ((ns x).value+a),least:=cD ((ns x).least+a),most:=cD ((ns x).most+a),add:=cD ((ns x).add+a) } rfl rfl rfl rfl rfl rfl rfl (by first|assumption|omega) rfl rfl [] rfl ?_|refine b9 1 { ns x with value:=cD ((ns x).value+a),least:=cD ((ns x).least+a),most:=cD ((ns x).most+a),add:=cD ((ns x).add+a) } rfl rfl rfl rfl rfl rfl rfl (by first|assumption|omega) rfl rfl [] rfl ?_)
  refine ai ⟨⟨[],by decide,rfl⟩,?_⟩
  refine bv ?_
  refine ai ?_
  show J _ _ _ _ (aW pf gn cap N k (e7 ns x { ns x with value:=cD ((ns x).value+a),least:=cD ((ns x).least+a),most:=cD ((ns x).most+a),add:=cD ((ns x).add+a) }))
  refine ad (aa (ae [] rfl ?_))
  cases t with
  |false=>
   refine bI rfl (av ⟨_,rfl,?_⟩)
   rfl
  |true=>
   refine bo rfl ?_
   refine fF 29 [0,1,2,3,4,5,6,7,8,9,10,11,12,13,14,15,16,17,18,19,20,22,23] 21 [(24,true),(25,false),(26,true),(27,true),(28,false)] (by kernel_rfl) ?_
   (repeat' (first
    |refine f5 (gs:=[999]) rfl rfl ?_
    |refine b5 [999] rfl (am (m:=0) rfl rfl rfl rfl rfl (by decide)) rfl ?_
    |refine b5 [999] rfl (am (m:=1) rfl rfl rfl rfl rfl (by decide)) rfl ?_
    |refine bn [999] rfl rfl (aG (v:=.int .i64 (enc (ns x).l)) (f:=1) 1 rfl rfl rfl rfl rfl hx rfl (by rw[cI];rfl)) rfl ?_
    |refine bn [999] rfl rfl (aG (v:=.int .i64 (enc (ns x).r)) (f:=2) 1 rfl rfl rfl rfl rfl hx rfl (by rw[cI];rfl)) rfl ?_
    |refine bn [999] rfl rfl (aG (v:=.bool (ns x).turned) (f:=8) 1 rfl rfl rfl rfl rfl hx rfl (by rw[cI];rfl)) rfl ?_))
   refine eH rfl ?_
   (first|refine ce 1 { ns x with value:=cD ((ns x).value+a),least:=cD ((ns x).least+a),most:=cD ((ns x).most+a),add:=cD ((ns x).add+a),l:=(ns x).r } rfl rfl rfl rfl rfl rfl rfl (by first|assumption|omega) rfl rfl [] rfl ?_|refine b9 1 { ns x with value:=cD ((ns x).value+a),least:=cD ((ns x).least+a),most:=cD ((ns x).most+a),add:=cD ((ns x).add+a),l:=(ns x).r } rfl rfl rfl rfl rfl rfl rfl (by first|assumption|omega) rfl rfl [] rfl ?_)
   refine ai ⟨⟨[],by decide,rfl⟩,?_⟩
   (repeat' (refine aZ (gs:=[999]) rfl rfl ?_))
   refine aj [999] rfl (am (m:=1) rfl rfl rfl rfl rfl (by decide)) rfl ?_
   (repeat' (refine aZ (gs:=[999]) rfl rfl ?_))
   refine a6 rfl ?_
   (first|refine ce (f:=2) 1 { ns x with value:=cD ((ns x).value+a),least:=cD ((ns x).least+a),most:=cD ((ns x).most+a),add:=cD ((ns x).add+a),l:=(ns x).r,r:=(ns x).l } rfl rfl rfl rfl rfl rfl rfl (by first|assumption|omega) rfl rfl [] rfl ?_|refine b9 (f:=2) 1 { ns x with value:=cD ((ns x).value+a),least:=cD ((ns x).least+a),most:=cD ((ns x).most+a),add:=cD ((ns x).add+a),l:=(ns x).r,r:=(ns x).l } rfl rfl rfl rfl rfl rfl rfl (by first|assumption|omega) rfl rfl [] rfl ?_)
   refine ai ⟨⟨[],by decide,rfl⟩,?_⟩
   (repeat' (refine aZ (gs:=[999]) rfl rfl ?_))
   refine a6 rfl ?_
   (first|refine ce 1 { ns x with value:=cD ((ns x).value+a),least:=cD ((ns x).least+a),most:=cD ((ns x).most+a),add:=cD ((ns x).add+a),l:=(ns x).r,r:=(ns x).l,turned:=!(ns x).turned } rfl rfl rfl rfl rfl rfl rfl (by first|assumption|omega) rfl rfl [] rfl ?_|refine b9 1 { ns x with value:=cD ((ns x).value+a),least:=cD ((ns x).least+a),most:=cD ((ns x).most+a),add:=cD ((ns x).add+a),l:=(ns x).r,r:=(ns x).l,turned:=!(ns x).turned } rfl rfl rfl rfl rfl rfl rfl (by first|assumption|omega) rfl rfl [] rfl ?_)
   refine ai ⟨⟨[],by decide,rfl⟩,?_⟩
   refine bv ?_
   exact ai ⟨_,rfl,rfl⟩
end Go.Proofs.YtpbmihpjgjbndaaGreatDoor
/- Rows that are cut, joined and turned: laying on what is below, and reckoning from below, step by step. -/
set_option linter.unusedVariables false
set_option linter.unusedSimpArgs false
namespace Go.Proofs.YtpbmihpjgjbndaaGreatDoor
open Go.RowKit
variable {pf gn cap N:Nat}
def kE (ns:bj) (x:Nat):Nat→bj
 |0=>ns
 |1=>eB ns (ns x).l (ns x).add (ns x).turned
 |_=>eB (eB ns (ns x).l (ns x).add (ns x).turned) (ns x).r (eB ns (ns x).l (ns x).add (ns x).turned x).add (eB ns (ns x).l (ns x).add (ns x).turned x).turned
def pd (d:Nd) (i:Nat):Option Nat:=if i=0 then d.l else d.r
theorem gY (k:Nat) (ns:bj) (hN:cV N ns) (x:Nat) (hx:x<N):Fn 291 [.pointer (some ⟨pf,0,none⟩),.int .i64 (x:Int)] (aR (aW pf gn cap N k ns)) ([]++aW pf gn cap N k ns)
 fun _ H'=>H'=aW pf gn cap N (k+1) (di ns x):=by
 generalize hM:aR _=M
 refine aS Tryz.func291 rfl rfl fun w0=>?_
 refine ad (aa ?_)
 (repeat' (first
  |refine ai ?_
  |refine ak (gs:=[999]) rfl ?_
  |refine ab [999] (af 0 rfl rfl rfl rfl) rfl ?_
  |refine ab [999] (aU rfl rfl rfl rfl rfl (by first|assumption|omega)) rfl ?_
  |refine ab [999] (am (m:=0) rfl rfl rfl rfl rfl (by decide)) rfl ?_
  |refine ab [999] (am (m:=1) rfl rfl rfl rfl rfl (by decide)) rfl ?_
  |refine ab [999] (aN 1 rfl rfl rfl rfl (by first|assumption|omega) (by first|assumption|omega)) rfl ?_
  |refine ab [999] (aG 1 rfl rfl rfl rfl rfl (by first|assumption|omega) rfl rfl) rfl ?_))
 refine aw 11 (v':=.int .i64 (cD ((k+1:Nat):Int))) rfl (congrArg (Value.int .i64) (kK _ _)) ?_
 (repeat' (first
  |refine ai ?_
  |refine ak (gs:=[999]) rfl ?_
  |refine ab [999] (af 0 rfl rfl rfl rfl) rfl ?_
  |refine ab [999] (aU rfl rfl rfl rfl rfl (by first|assumption|omega)) rfl ?_
  |refine ab [999] (am (m:=0) rfl rfl rfl rfl rfl (by decide)) rfl ?_
  |refine ab [999] (am (m:=1) rfl rfl rfl rfl rfl (by decide)) rfl ?_
  |refine ab [999] (aN 1 rfl rfl rfl rfl (by first|assumption|omega) (by first|assumption|omega)) rfl ?_
  |refine ab [999] (aG 1 rfl rfl rfl rfl rfl (by first|assumption|omega) rfl rfl) rfl ?_))
 refine aX 0 rfl rfl rfl rfl rfl [] rfl ?_
 refine ai ?_
 show J _ _ _ _ (aW pf gn cap N (k+1) ns)
 refine ad (aa ?_)
 (repeat' (first
  |refine ai ?_
  |refine ak (gs:=[999]) rfl ?_
  |refine ab [999] (af 0 rfl rfl rfl rfl) rfl ?_
  |refine ab [999] (aU rfl rfl rfl rfl rfl (by first|assumption|omega)) rfl ?_
  |refine ab [999] (am (m:=0) rfl rfl rfl rfl rfl (by decide)) rfl ?_
  |refine ab [999] (am (m:=1) rfl rfl rfl rfl rfl (by decide)) rfl ?_
  |refine ab [999] (aN 1 rfl rfl rfl rfl (by first|assumption|omega) (by first|assumption|omega)) rfl ?_
  |refine ab [999] (aG 1 rfl rfl rfl rfl rfl (by first|assumption|omega) rfl rfl) rfl ?_))
 refine ad (ad (aa ?_))
 (repeat' (first
  |refine ai ?_
  |refine ak (gs:=[999]) rfl ?_
  |refine ab [999] (af 0 rfl rfl rfl rfl) rfl ?_
  |refine ab [999] (aU rfl rfl rfl rfl rfl (by first|assumption|omega)) rfl ?_
  |refine ab [999] (am (m:=0) rfl rfl rfl rfl rfl (by decide)) rfl ?_
  |refine ab [999] (am (m:=1) rfl rfl rfl rfl rfl (by decide)) rfl ?_
  |refine ab [999] (aN 1 rfl rfl rfl rfl (by first|assumption|omega) (by first|assumption|omega)) rfl ?_
  |refine ab [999] (aG 1 rfl rfl rfl rfl rfl (by first|assumption|omega) rfl rfl) rfl ?_))
 refine ab [] (qp 1 rfl rfl rfl rfl hx) rfl ?_
 (repeat' (first
  |refine ai ?_
  |refine ak (gs:=[999]) rfl ?_
  |refine ab [999] (af 0 rfl rfl rfl rfl) rfl ?_
  |refine ab [999] (aU rfl rfl rfl rfl rfl (by first|assumption|omega)) rfl ?_
  |refine ab [999] (am (m:=0) rfl rfl rfl rfl rfl (by decide)) rfl ?_
  |refine ab [999] (am (m:=1) rfl rfl rfl rfl rfl (by decide)) rfl ?_
  |refine ab [999] (aN 1 rfl rfl rfl rfl (by first|assumption|omega) (by first|assumption|omega)) rfl ?_
  |refine ab [999] (aG 1 rfl rfl rfl rfl rfl (by first|assumption|omega) rfl rfl) rfl ?_))
 refine au ?_
 refine bq (σ:=Nat) (fun i=>[(24,.int .i64 (i:Int)),(23,.agg [Value.int .i64 (enc (ns x).l),.int .i64 (enc (ns x).r)].toArray),(4,.pointer (some ⟨gn,x*9,none⟩)),(1,.int .i64 (x:Int)),(0,.pointer (some ⟨pf,0,none⟩))])
  (fun i=>aW pf gn cap N (k+1) (kE ns x i)) (fun i=>i≤2) (fun i=>2-i) 0 [0,1] ⟨rfl,rfl,rfl,rfl,rfl,trivial⟩ (by decide) rfl (by omega) ?_
 intro i hi
 refine ad (aa (ae [] rfl ?_))
 refine ad (aC rfl (fun hlt=>av ?_) (fun hge=>aV ?_))
 ·have hlt:i<2:=by omega
  have hokI:cV N (kE ns x i):=by
   obtain rfl|rfl:i=0∨i=1:=by omega
   ·exact hN
   ·exact hN.lay (hN.l x hx) _ _
  refine ad (au ?_)
  refine ad (aa ?_)
  have hix:[Value.int .i64 (enc (ns x).l),.int .i64 (enc (ns x).r)][i]?=some (.int .i64 (enc (pd (ns x) i))):=by
   obtain rfl|rfl:i=0∨i=1:=by omega
   ·rfl
   ·rfl
  refine ab [] (vT rfl rfl rfl rfl rfl (by rfl) hlt hix) rfl ?_
  (repeat' (first
   |refine ai ?_
   |refine ak (gs:=[999]) rfl ?_
   |refine ab [999] (af 0 rfl rfl rfl rfl) rfl ?_
   |refine ab [999] (aU rfl rfl rfl rfl rfl (by first|assumption|omega)) rfl ?_
   |refine ab [999] (am (m:=0) rfl rfl rfl rfl rfl (by decide)) rfl ?_
   |refine ab [999] (am (m:=1) rfl rfl rfl rfl rfl (by decide)) rfl ?_
   |refine ab [999] (aN 1 rfl rfl rfl rfl (by first|assumption|omega) (by first|assumption|omega)) rfl ?_
   |refine ab [999] (aG 1 rfl rfl rfl rfl rfl (by first|assumption|omega) rfl rfl) rfl ?_))
  refine fF 11 [0,1,2,3,4,5,6,7,8,9] 10 [] (by kernel_rfl) ?_
  (repeat' (first
   |refine f5 (gs:=[999]) rfl rfl ?_
   |refine bn [999] rfl rfl (af 0 rfl rfl rfl rfl) rfl ?_
   |refine b5 [999] rfl (aU rfl rfl rfl rfl rfl (by first|assumption|omega)) rfl ?_
   |refine b5 [999] rfl (am (m:=0) rfl rfl rfl rfl rfl (by decide)) rfl ?_
   |refine b5 [999] rfl (am (m:=1) rfl rfl rfl rfl rfl (by decide)) rfl ?_
   |refine bn [999] rfl rfl (aN 1 rfl rfl rfl rfl (by first|assumption|omega) (by first|assumption|omega)) rfl ?_
   |refine bn [999] rfl rfl (aG 1 rfl rfl rfl rfl rfl (by first|assumption|omega) rfl rfl) rfl ?_))
  refine eH rfl ?_
  refine ao [] (l8 (k+1) (kE ns x i) (pd (ns x) i) (by unfold pd;split;exact hN.l x hx;exact hN.r x hx) (kE ns x i x).add (kE ns x i x).turned) rfl rfl rfl rfl (by kernel_rfl) aK.refl trivial (fun _=>rfl) ?_
  rintro v H' rfl
  refine⟨rfl,?_⟩
  refine ai ⟨⟨[],by decide,rfl⟩,?_⟩
  refine bv ?_
  refine ai ?_
  refine aa (ae [] rfl ?_)
  refine⟨i+1,[0,1],⟨?_,rfl,rfl,rfl,rfl,trivial⟩,by decide,?_,by omega,by omega⟩
  ·show some (Value.int .i64 (IntKind.i64.wrap ((i:Int)+1)))=_
   rw[bU (by omega)];rfl
  ·obtain rfl|rfl:i=0∨i=1:=by omega
   ·rfl
   ·rfl
 ·obtain rfl:i=2:=by omega
  refine aa ?_
  (repeat' (first
   |refine ai ?_
   |refine ak (gs:=[999]) rfl ?_
   |refine ab [999] (af 0 rfl rfl rfl rfl) rfl ?_
   |refine ab [999] (aU rfl rfl rfl rfl rfl (by first|assumption|omega)) rfl ?_
   |refine ab [999] (am (m:=0) rfl rfl rfl rfl rfl (by decide)) rfl ?_
   |refine ab [999] (am (m:=1) rfl rfl rfl rfl rfl (by decide)) rfl ?_
   |refine ab [999] (aN 1 rfl rfl rfl rfl (by first|assumption|omega) (by first|assumption|omega)) rfl ?_
   |refine ab [999] (aG 1 rfl rfl rfl rfl rfl (by first|assumption|omega) rfl rfl) rfl ?_))
  (first|refine ce 1 { kE ns x 2 x with add:=0 } rfl rfl rfl rfl rfl rfl rfl (by first|assumption|omega) rfl rfl [] rfl ?_|refine b9 1 { kE ns x 2 x with add:=0 } rfl rfl rfl rfl rfl rfl rfl (by first|assumption|omega) rfl rfl [] rfl ?_)
  (repeat' (first
   |refine ai ?_
   |refine ak (gs:=[999]) rfl ?_
   |refine ab [999] (af 0 rfl rfl rfl rfl) rfl ?_
   |refine ab [999] (aU rfl rfl rfl rfl rfl (by first|assumption|omega)) rfl ?_
   |refine ab [999] (am (m:=0) rfl rfl rfl rfl rfl (by decide)) rfl ?_
   |refine ab [999] (am (m:=1) rfl rfl rfl rfl rfl (by decide)) rfl ?_
   |refine ab [999] (aN 1 rfl rfl rfl rfl (by first|assumption|omega) (by first|assumption|omega)) rfl ?_
   |refine ab [999] (aG 1 rfl rfl rfl rfl rfl (by first|assumption|omega) rfl rfl) rfl ?_))
  (first|refine ce 1 { kE ns x 2 x with add:=0,turned:=false } rfl rfl rfl rfl rfl rfl rfl (by first|assumption|omega) rfl rfl [] rfl ?_|refine b9 1 { kE ns x 2 x with add:=0,turned:=false } rfl rfl rfl rfl rfl rfl rfl (by first|assumption|omega) rfl rfl [] rfl ?_)
  exact ai ⟨_,rfl,rfl⟩
end Go.Proofs.YtpbmihpjgjbndaaGreatDoor
/- Rows that are cut, joined and turned: reckoning from below, hanging, and one turn, step by step. -/
set_option linter.unusedVariables false
set_option linter.unusedSimpArgs false
namespace Go.Proofs.YtpbmihpjgjbndaaGreatDoor
open Go.RowKit
variable {pf gn cap N:Nat}
def cM (ns:bj) (x:Nat):Nat→bj
 |0=>e7 ns x { ns x with size:=1,least:=(ns x).value,most:=(ns x).value }
 |1=>eK (e7 ns x { ns x with size:=1,least:=(ns x).value,most:=(ns x).value }) x (ns x).l
 |_=>ek ns x
theorem l0 (k:Nat) (ns:bj) (hN:cV N ns) (x:Nat) (hx:x<N):Fn 289 [.pointer (some ⟨pf,0,none⟩),.int .i64 (x:Int)] (aR (aW pf gn cap N k ns)) ([]++aW pf gn cap N k ns)
 fun _ H'=>H'=aW pf gn cap N k (ek ns x):=by
 generalize hM:aR _=M
 refine aS Tryz.func289 rfl rfl fun w0=>?_
 refine ad (aa ?_)
 (repeat' (first
  |refine ai ?_
  |refine ak (gs:=[999]) rfl ?_
  |refine ab [999] (af 0 rfl rfl rfl rfl) rfl ?_
  |refine ab [999] (aU rfl rfl rfl rfl rfl (by first|assumption|omega)) rfl ?_
  |refine ab [999] (am (m:=0) rfl rfl rfl rfl rfl (by decide)) rfl ?_
  |refine ab [999] (am (m:=1) rfl rfl rfl rfl rfl (by decide)) rfl ?_
  |refine ab [999] (aN 1 rfl rfl rfl rfl (by first|assumption|omega) (by first|assumption|omega)) rfl ?_
  |refine ab [999] (aG 1 rfl rfl rfl rfl rfl (by first|assumption|omega) rfl rfl) rfl ?_))
 refine ad ?_
 refine fF 20 [0,1,2,3,4,5,6,7,8,9,10,11,12] 13 [(14,true),(15,true),(16,false),(17,true),(18,true),(19,false)] (by kernel_rfl) ?_
 (repeat' (first
  |refine f5 (gs:=[999]) rfl rfl ?_
  |refine bn [999] rfl rfl (af 0 rfl rfl rfl rfl) rfl ?_
  |refine b5 [999] rfl (aU rfl rfl rfl rfl rfl (by first|assumption|omega)) rfl ?_
  |refine b5 [999] rfl (am (m:=0) rfl rfl rfl rfl rfl (by decide)) rfl ?_
  |refine b5 [999] rfl (am (m:=1) rfl rfl rfl rfl rfl (by decide)) rfl ?_
  |refine bn [999] rfl rfl (aN 1 rfl rfl rfl rfl (by first|assumption|omega) (by first|assumption|omega)) rfl ?_
  |refine bn [999] rfl rfl (aG 1 rfl rfl rfl rfl rfl (by first|assumption|omega) rfl rfl) rfl ?_))
 refine eH rfl ?_
 (first|refine ce 1 { ns x with size:=1 } rfl rfl rfl rfl rfl rfl rfl (by first|assumption|omega) rfl rfl [] rfl ?_|refine b9 1 { ns x with size:=1 } rfl rfl rfl rfl rfl rfl rfl (by first|assumption|omega) rfl rfl [] rfl ?_)
 refine ai ⟨⟨[],by decide,rfl⟩,?_⟩
 (repeat' (refine aZ (gs:=[999]) rfl rfl ?_))
 refine a6 rfl ?_
 (first|refine ce 1 { ns x with size:=1,least:=(ns x).value } rfl rfl rfl rfl rfl rfl rfl (by first|assumption|omega) rfl rfl [] rfl ?_|refine b9 1 { ns x with size:=1,least:=(ns x).value } rfl rfl rfl rfl rfl rfl rfl (by first|assumption|omega) rfl rfl [] rfl ?_)
 refine ai ⟨⟨[],by decide,rfl⟩,?_⟩
 (repeat' (refine aZ (gs:=[999]) rfl rfl ?_))
 refine a6 rfl ?_
 (first|refine ce 1 { ns x with size:=1,least:=(ns x).value,most:=(ns x).value } rfl rfl rfl rfl rfl rfl rfl (by first|assumption|omega) rfl rfl [] rfl ?_|refine b9 1 { ns x with size:=1,least:=(ns x).value,most:=(ns x).value } rfl rfl rfl rfl rfl rfl rfl (by first|assumption|omega) rfl rfl [] rfl ?_)
 refine ai ⟨⟨[],by decide,rfl⟩,?_⟩
 refine bv ?_
 refine ai ?_
 show J _ _ _ _ (aW pf gn cap N k (cM ns x 0))
 refine ad (aa ?_)
 (repeat' (first
  |refine ai ?_
  |refine ak (gs:=[999]) rfl ?_
  |refine ab [999] (af 0 rfl rfl rfl rfl) rfl ?_
  |refine ab [999] (aU rfl rfl rfl rfl rfl (by first|assumption|omega)) rfl ?_
  |refine ab [999] (am (m:=0) rfl rfl rfl rfl rfl (by decide)) rfl ?_
  |refine ab [999] (am (m:=1) rfl rfl rfl rfl rfl (by decide)) rfl ?_
  |refine ab [999] (aN 1 rfl rfl rfl rfl (by first|assumption|omega) (by first|assumption|omega)) rfl ?_
  |refine ab [999] (aG 1 rfl rfl rfl rfl rfl (by first|assumption|omega) rfl rfl) rfl ?_))
 have e0:(cM ns x 0 x).l=(ns x).l∧(cM ns x 0 x).r=(ns x).r:=by
  show (e7 ns x _ x).l=_∧(e7 ns x _ x).r=_
  rw[cI];exact⟨rfl,rfl⟩
 refine ab [] (qp 1 rfl rfl rfl rfl hx) rfl ?_
 rw[e0.1,e0.2]
 (repeat' (first
  |refine ai ?_
  |refine ak (gs:=[999]) rfl ?_
  |refine ab [999] (af 0 rfl rfl rfl rfl) rfl ?_
  |refine ab [999] (aU rfl rfl rfl rfl rfl (by first|assumption|omega)) rfl ?_
  |refine ab [999] (am (m:=0) rfl rfl rfl rfl rfl (by decide)) rfl ?_
  |refine ab [999] (am (m:=1) rfl rfl rfl rfl rfl (by decide)) rfl ?_
  |refine ab [999] (aN 1 rfl rfl rfl rfl (by first|assumption|omega) (by first|assumption|omega)) rfl ?_
  |refine ab [999] (aG 1 rfl rfl rfl rfl rfl (by first|assumption|omega) rfl rfl) rfl ?_))
 refine au ?_
 refine bq (σ:=Nat) (fun i=>[(35,.int .i64 (i:Int)),(34,.agg [Value.int .i64 (enc (ns x).l),.int .i64 (enc (ns x).r)].toArray),(4,.pointer (some ⟨gn,x*9,none⟩)),(1,.int .i64 (x:Int)),(0,.pointer (some ⟨pf,0,none⟩))])
  (fun i=>aW pf gn cap N k (cM ns x i)) (fun i=>i≤2) (fun i=>2-i) 0 [0,1] ⟨rfl,rfl,rfl,rfl,rfl,trivial⟩ (by decide) rfl (by omega) ?_
 intro i hi
 refine ad (aa (ae [] rfl ?_))
 refine ad (aC rfl (fun hlt=>av ?_) (fun hge=>aV ?_))
 ·have hlt:i<2:=by omega
  have hix:[Value.int .i64 (enc (ns x).l),.int .i64 (enc (ns x).r)][i]?=some (.int .i64 (enc (pd (ns x) i))):=by
   obtain rfl|rfl:i=0∨i=1:=by omega
   ·rfl
   ·rfl
  have hok:oV N (pd (ns x) i):=by unfold pd;split;exact hN.l x hx;exact hN.r x hx
  have hstep:cM ns x (i+1)=eK (cM ns x i) x (pd (ns x) i):=by
   obtain rfl|rfl:i=0∨i=1:=by omega
   ·rfl
   ·rfl
  refine ad (au ?_)
  refine ad (aa ?_)
  refine ab [] (vT rfl rfl rfl rfl rfl (by rfl) hlt hix) rfl ?_
  (repeat' (first
   |refine ai ?_
   |refine ak (gs:=[999]) rfl ?_
   |refine ab [999] (af 0 rfl rfl rfl rfl) rfl ?_
   |refine ab [999] (aU rfl rfl rfl rfl rfl (by first|assumption|omega)) rfl ?_
   |refine ab [999] (am (m:=0) rfl rfl rfl rfl rfl (by decide)) rfl ?_
   |refine ab [999] (am (m:=1) rfl rfl rfl rfl rfl (by decide)) rfl ?_
   |refine ab [999] (aN 1 rfl rfl rfl rfl (by first|assumption|omega) (by first|assumption|omega)) rfl ?_
   |refine ab [999] (aG 1 rfl rfl rfl rfl rfl (by first|assumption|omega) rfl rfl) rfl ?_))
  refine ad (aa (ae [] rfl ?_))
  cases hc:pd (ns x) i with
  |none=>
   rw[hc] at hstep
   refine aP 39 (v':=.bool false) rfl (congrArg Value.bool (aA (by simp[enc]))) ?_
   refine bI rfl (av ?_)
   refine aa (ae [] rfl ?_)
   refine⟨i+1,[0,1],⟨?_,rfl,rfl,rfl,rfl,trivial⟩,by decide,?_,by omega,by omega⟩
   ·show some (Value.int .i64 (IntKind.i64.wrap ((i:Int)+1)))=_
    rw[bU (by omega)];rfl
   ·rw[hstep];rfl
  |some c=>
   rw[hc] at hstep hok
   have hcN:c<N:=hok
   refine aP 39 (v':=.bool true) rfl (congrArg Value.bool (az (by simp[enc]))) ?_
   refine bo rfl ?_
   refine ad (aa ?_)
   (repeat' (first
    |refine ai ?_
    |refine ak (gs:=[999]) rfl ?_
    |refine ab [999] (af 0 rfl rfl rfl rfl) rfl ?_
    |refine ab [999] (aU rfl rfl rfl rfl rfl (by first|assumption|omega)) rfl ?_
    |refine ab [999] (am (m:=0) rfl rfl rfl rfl rfl (by decide)) rfl ?_
    |refine ab [999] (am (m:=1) rfl rfl rfl rfl rfl (by decide)) rfl ?_
    |refine ab [999] (aN 1 rfl rfl rfl rfl (by first|assumption|omega) (by first|assumption|omega)) rfl ?_
    |refine ab [999] (aG 1 rfl rfl rfl rfl rfl (by first|assumption|omega) rfl rfl) rfl ?_))
   refine fF 39 [0,1,2,3,4,5,6,7,8,9,10,11,12,13,14,15,16,17,18,19,20,21,22,23,24,25,26,27,28,29,30,31] 32 [(33,true),(34,true),(35,false),(36,true),(37,true),(38,false)] (by kernel_rfl) ?_
   (repeat' (first
    |refine f5 (gs:=[999]) rfl rfl ?_
    |refine bn [999] rfl rfl (af 0 rfl rfl rfl rfl) rfl ?_
    |refine b5 [999] rfl (aU rfl rfl rfl rfl rfl (by first|assumption|omega)) rfl ?_
    |refine b5 [999] rfl (am (m:=0) rfl rfl rfl rfl rfl (by decide)) rfl ?_
    |refine b5 [999] rfl (am (m:=1) rfl rfl rfl rfl rfl (by decide)) rfl ?_
    |refine bn [999] rfl rfl (aN 1 rfl rfl rfl rfl (by first|assumption|omega) (by first|assumption|omega)) rfl ?_
    |refine bn [999] rfl rfl (aG 1 rfl rfl rfl rfl rfl (by first|assumption|omega) rfl rfl) rfl ?_))
   refine eH rfl ?_
   (first|refine ce 1 { cM ns x i x with size:=cD ((cM ns x i x).size+(cM ns x i c).size) } rfl rfl rfl rfl rfl rfl rfl (by first|assumption|omega) rfl rfl [] rfl ?_|refine b9 1 { cM ns x i x with size:=cD ((cM ns x i x).size+(cM ns x i c).size) } rfl rfl rfl rfl rfl rfl rfl (by first|assumption|omega) rfl rfl [] rfl ?_)
   refine ai ⟨⟨[],by decide,rfl⟩,?_⟩
   (repeat' (refine aZ (gs:=[999]) rfl rfl ?_))
   refine a6 rfl ?_
   (first|refine ce 1 { cM ns x i x with size:=cD ((cM ns x i x).size+(cM ns x i c).size),least:=qd (cM ns x i x).least (cM ns x i c).least } rfl rfl rfl rfl rfl rfl rfl (by first|assumption|omega) rfl rfl [] rfl ?_|refine b9 1 { cM ns x i x with size:=cD ((cM ns x i x).size+(cM ns x i c).size),least:=qd (cM ns x i x).least (cM ns x i c).least } rfl rfl rfl rfl rfl rfl rfl (by first|assumption|omega) rfl rfl [] rfl ?_)
   refine ai ⟨⟨[],by decide,rfl⟩,?_⟩
   (repeat' (refine aZ (gs:=[999]) rfl rfl ?_))
   refine a6 rfl ?_
   (first|refine ce 1 { cM ns x i x with size:=cD ((cM ns x i x).size+(cM ns x i c).size),least:=qd (cM ns x i x).least (cM ns x i c).least,most:=tF (cM ns x i x).most (cM ns x i c).most } rfl rfl rfl rfl rfl rfl rfl (by first|assumption|omega) rfl rfl [] rfl ?_|refine b9 1 { cM ns x i x with size:=cD ((cM ns x i x).size+(cM ns x i c).size),least:=qd (cM ns x i x).least (cM ns x i c).least,most:=tF (cM ns x i x).most (cM ns x i c).most } rfl rfl rfl rfl rfl rfl rfl (by first|assumption|omega) rfl rfl [] rfl ?_)
   refine ai ⟨⟨[],by decide,rfl⟩,?_⟩
   refine bv ?_
   refine ai ?_
   refine aa (ae [] rfl ?_)
   refine⟨i+1,[0,1],⟨?_,rfl,rfl,rfl,rfl,trivial⟩,by decide,?_,by omega,by omega⟩
   ·show some (Value.int .i64 (IntKind.i64.wrap ((i:Int)+1)))=_
    rw[bU (by omega)];rfl
   ·rw[hstep];rfl
 ·obtain rfl:i=2:=by omega
  exact⟨_,rfl,rfl⟩
theorem jq (k:Nat) (ns:bj) (hN:cV N ns) (x p:Nat) (hx:x<N) (hp:(ns x).up=some p):Fn 292 [.pointer (some ⟨pf,0,none⟩),.int .i64 (x:Int)] (aR (aW pf gn cap N k ns)) ([]++aW pf gn cap N k ns)
 fun v H'=>v=.int .i64 (cW ns x p:Nat)∧H'=aW pf gn cap N k ns:=by
 have hpN:p<N:=by have:=hN.up x hx;rw[hp] at this;exact this
 generalize hM:aR _=M
 refine aS Tryz.func292 rfl rfl fun w0=>?_
 refine ad (aa (ae [] rfl ?_))
 refine ad (ad ?_)
 refine bp 18 [(0,true),(1,true),(2,true),(3,true),(4,true),(5,true),(6,true),(7,true),(8,true),(9,true),(10,true),(11,true),(12,true),(13,true),(14,true),(15,true),(16,true),(17,true)] [0,1] (by kernel_rfl) (by decide) rfl ?_
 (repeat' (first
  |refine aZ (gs:=[999]) rfl rfl ?_
  |refine aj [999] rfl (af 0 rfl rfl rfl rfl) rfl ?_
  |refine aj [999] rfl (aU rfl rfl rfl rfl rfl (by first|assumption|omega)) rfl ?_
  |refine aj [999] rfl (am (m:=0) rfl rfl rfl rfl rfl (by decide)) rfl ?_
  |refine aj [999] rfl (am (m:=1) rfl rfl rfl rfl rfl (by decide)) rfl ?_
  |refine aj [999] rfl (aN 1 rfl rfl rfl rfl (by first|assumption|omega) (by first|assumption|omega)) rfl ?_))
 refine aj [999] rfl (aG (v:=.int .i64 (p:Int)) (f:=0) 1 rfl rfl rfl rfl rfl hx rfl (by show some (Value.int .i64 (enc (ns x).up))=_;rw[hp];rfl)) rfl ?_
 (repeat' (first
  |refine aZ (gs:=[999]) rfl rfl ?_
  |refine aj [999] rfl (af 0 rfl rfl rfl rfl) rfl ?_
  |refine aj [999] rfl (aU rfl rfl rfl rfl rfl (by first|assumption|omega)) rfl ?_
  |refine aj [999] rfl (am (m:=0) rfl rfl rfl rfl rfl (by decide)) rfl ?_
  |refine aj [999] rfl (am (m:=1) rfl rfl rfl rfl rfl (by decide)) rfl ?_
  |refine aj [999] rfl (aN 1 rfl rfl rfl rfl (by first|assumption|omega) (by first|assumption|omega)) rfl ?_))
 refine bv ?_
 refine ai ?_
 unfold cW
 by_cases hr:(ns p).r=some x
 ·rw[if_pos hr]
  refine aP 22 (v':=.bool true) rfl (congrArg Value.bool (az (vt.2 hr))) ?_
  refine bo rfl ?_
  refine ad (aa (ae [] rfl ?_))
  exact aB ⟨_,rfl,rfl,rfl⟩
 ·rw[if_neg hr]
  refine aP 22 (v':=.bool false) rfl (congrArg Value.bool (aA (fun h=>hr (vt.1 h)))) ?_
  refine bI rfl ?_
  refine av (ad (aa (ae [] rfl ?_)))
  exact aB ⟨_,rfl,rfl,rfl⟩
theorem oS (k:Nat) (ns:bj) (hN:cV N ns) (c:Option Nat) (hc:oV N c) (b:Nat) (hb:b<N) (s:Nat) (hs:s<2):Fn 288 [.pointer (some ⟨pf,0,none⟩),.int .i64 (enc c),.int .i64 (b:Int),.int .i64 (s:Int)] (aR (aW pf gn cap N k ns)) ([]++aW pf gn cap N k ns)
 fun _ H'=>H'=aW pf gn cap N k (dR ns c b s):=by
 generalize hM:aR _=M
 refine aS Tryz.func288 rfl rfl fun w0=>?_
 refine ad (aa ?_)
 (repeat' (first
  |refine ai ?_
  |refine ak (gs:=[999]) rfl ?_
  |refine ab [999] (af 0 rfl rfl rfl rfl) rfl ?_
  |refine ab [999] (aU rfl rfl rfl rfl rfl (by first|assumption|omega)) rfl ?_
  |refine ab [999] (am (m:=0) rfl rfl rfl rfl rfl (by decide)) rfl ?_
  |refine ab [999] (am (m:=1) rfl rfl rfl rfl rfl (by decide)) rfl ?_
  |refine ab [999] (aN 1 rfl rfl rfl rfl (by first|assumption|omega) (by first|assumption|omega)) rfl ?_
  |refine ab [999] (aG 1 rfl rfl rfl rfl rfl (by first|assumption|omega) rfl rfl) rfl ?_))
 refine ab [] (am rfl rfl rfl rfl rfl hs) rfl ?_
 refine nq 1 rfl rfl rfl rfl rfl hb hs [] rfl ?_
 refine ai ?_
 show J _ _ _ _ (aW pf gn cap N k (e7 ns b (bW (ns b) s c)))
 refine ad (aa (ae [] rfl ?_))
 cases c with
 |none=>
  refine aP 19 (v':=.bool false) rfl (congrArg Value.bool (aA (by simp[enc]))) ?_
  exact bI rfl (av ⟨_,rfl,rfl⟩)
 |some x=>
  have hx:x<N:=hc
  refine aP 19 (v':=.bool true) rfl (congrArg Value.bool (az (by simp[enc]))) ?_
  refine bo rfl ?_
  refine aa ?_
  (repeat' (first
   |refine ai ?_
   |refine ak (gs:=[999]) rfl ?_
   |refine ab [999] (af 0 rfl rfl rfl rfl) rfl ?_
   |refine ab [999] (aU rfl rfl rfl rfl rfl (by first|assumption|omega)) rfl ?_
   |refine ab [999] (am (m:=0) rfl rfl rfl rfl rfl (by decide)) rfl ?_
   |refine ab [999] (am (m:=1) rfl rfl rfl rfl rfl (by decide)) rfl ?_
   |refine ab [999] (aN 1 rfl rfl rfl rfl (by first|assumption|omega) (by first|assumption|omega)) rfl ?_
   |refine ab [999] (aG 1 rfl rfl rfl rfl rfl (by first|assumption|omega) rfl rfl) rfl ?_))
  (first|refine ce 1 { e7 ns b (bW (ns b) s (some x)) x with up:=some b } rfl rfl rfl rfl rfl rfl rfl (by first|assumption|omega) rfl rfl [] rfl ?_|refine b9 1 { e7 ns b (bW (ns b) s (some x)) x with up:=some b } rfl rfl rfl rfl rfl rfl rfl (by first|assumption|omega) rfl rfl [] rfl ?_)
  exact ai ⟨_,rfl,rfl⟩
end Go.Proofs.YtpbmihpjgjbndaaGreatDoor
/- Rows that are cut, joined and turned: one turn, step by step. -/
set_option linter.unusedVariables false
set_option linter.unusedSimpArgs false
namespace Go.Proofs.YtpbmihpjgjbndaaGreatDoor
open Go.RowKit
variable {pf gn cap N:Nat}
theorem qj (ns:bj) (x p:Nat):cW ns x p<2:=by unfold cW;split<;>omega
theorem ya (ns:bj) (p:Nat):kB ns p<2:=by
 unfold kB;split
 ·omega
 ·exact qj _ _ _
theorem gX (k:Nat) (ns:bj) (hN:cV N ns) (x p:Nat) (hx:x<N) (hp:(ns x).up=some p):Fn 293 [.pointer (some ⟨pf,0,none⟩),.int .i64 (x:Int)] (aR (aW pf gn cap N k ns)) ([]++aW pf gn cap N k ns)
 fun _ H'=>H'=aW pf gn cap N (k+1) (cz ns x p):=by
 have hpN:p<N:=by have:=hN.up x hx;rw[hp] at this;exact this
 have hgN:oV N (ns p).up:=hN.up p hpN
 have hs:=qj ns x p
 have ht:=ya ns p
 generalize hM:aR _=M
 refine aS Tryz.func293 rfl rfl fun w0=>?_
 refine ad (aa ?_)
 (repeat' (first
  |refine ai ?_
  |refine ak (gs:=[999]) rfl ?_
  |refine ab [999] (af 0 rfl rfl rfl rfl) rfl ?_
  |refine ab [999] (aU rfl rfl rfl rfl rfl (by first|assumption|omega)) rfl ?_
  |refine ab [999] (am (m:=0) rfl rfl rfl rfl rfl (by decide)) rfl ?_
  |refine ab [999] (am (m:=1) rfl rfl rfl rfl rfl (by decide)) rfl ?_
  |refine ab [999] (aN 1 rfl rfl rfl rfl (by first|assumption|omega) (by first|assumption|omega)) rfl ?_
  |refine ab [999] (aG 1 rfl rfl rfl rfl rfl (by first|assumption|omega) rfl rfl) rfl ?_))
 refine aw 12 (v':=.int .i64 (cD ((k+1:Nat):Int))) rfl (congrArg (Value.int .i64) (kK _ _)) ?_
 (repeat' (first
  |refine ai ?_
  |refine ak (gs:=[999]) rfl ?_
  |refine ab [999] (af 0 rfl rfl rfl rfl) rfl ?_
  |refine ab [999] (aU rfl rfl rfl rfl rfl (by first|assumption|omega)) rfl ?_
  |refine ab [999] (am (m:=0) rfl rfl rfl rfl rfl (by decide)) rfl ?_
  |refine ab [999] (am (m:=1) rfl rfl rfl rfl rfl (by decide)) rfl ?_
  |refine ab [999] (aN 1 rfl rfl rfl rfl (by first|assumption|omega) (by first|assumption|omega)) rfl ?_
  |refine ab [999] (aG 1 rfl rfl rfl rfl rfl (by first|assumption|omega) rfl rfl) rfl ?_))
 refine aX 0 rfl rfl rfl rfl rfl [] rfl ?_
 refine ai ?_
 show J _ _ _ _ (aW pf gn cap N (k+1) ns)
 refine ad (aa ?_)
 (repeat' (first
  |refine ai ?_
  |refine ak (gs:=[999]) rfl ?_
  |refine ab [999] (af 0 rfl rfl rfl rfl) rfl ?_
  |refine ab [999] (aU rfl rfl rfl rfl rfl (by first|assumption|omega)) rfl ?_
  |refine ab [999] (am (m:=0) rfl rfl rfl rfl rfl (by decide)) rfl ?_
  |refine ab [999] (am (m:=1) rfl rfl rfl rfl rfl (by decide)) rfl ?_
  |refine ab [999] (aN 1 rfl rfl rfl rfl (by first|assumption|omega) (by first|assumption|omega)) rfl ?_
  |refine ab [999] (aG 1 rfl rfl rfl rfl rfl (by first|assumption|omega) rfl rfl) rfl ?_))
 refine aP 4 (v':=.int .i64 (p:Int)) rfl (congrArg (Value.int .i64) (du hp)) ?_
 refine ad ?_
 refine bp 13 [(0,true),(1,true),(2,true),(3,true),(4,true),(5,true),(6,true),(7,true),(8,true),(9,true),(10,false),(11,true),(12,true)] [0,1] (by kernel_rfl) (by decide) rfl ?_
 (repeat' (first
  |refine aZ (gs:=[999]) rfl rfl ?_
  |refine aj [999] rfl (af 0 rfl rfl rfl rfl) rfl ?_
  |refine aj [999] rfl (aU rfl rfl rfl rfl rfl (by first|assumption|omega)) rfl ?_
  |refine aj [999] rfl (am (m:=0) rfl rfl rfl rfl rfl (by decide)) rfl ?_
  |refine aj [999] rfl (am (m:=1) rfl rfl rfl rfl rfl (by decide)) rfl ?_
  |refine aj [999] rfl (aN 1 rfl rfl rfl rfl (by first|assumption|omega) (by first|assumption|omega)) rfl ?_))
 refine aj [999] rfl (aG (f:=0) 1 rfl rfl rfl rfl rfl hpN rfl rfl) rfl ?_
 (repeat' (first
  |refine aZ (gs:=[999]) rfl rfl ?_
  |refine aj [999] rfl (af 0 rfl rfl rfl rfl) rfl ?_
  |refine aj [999] rfl (aU rfl rfl rfl rfl rfl (by first|assumption|omega)) rfl ?_
  |refine aj [999] rfl (am (m:=0) rfl rfl rfl rfl rfl (by decide)) rfl ?_
  |refine aj [999] rfl (am (m:=1) rfl rfl rfl rfl rfl (by decide)) rfl ?_
  |refine aj [999] rfl (aN 1 rfl rfl rfl rfl (by first|assumption|omega) (by first|assumption|omega)) rfl ?_))
 refine a6 rfl ?_
 refine ao [] (jq (k+1) ns hN x p hx hp) rfl rfl rfl rfl (by kernel_rfl) aK.refl trivial (fun _=>rfl) ?_
 rintro v H' ⟨rfl,rfl⟩
 refine⟨rfl,?_⟩
 refine ai ⟨⟨[0,1],by decide,rfl⟩,?_⟩
 (repeat' (refine aZ (gs:=[999]) rfl rfl ?_))
 refine bv ?_
 refine ai ?_
 show J _ _ _ _ (aW pf gn cap N (k+1) ns)
 refine ad (aa (ae [] rfl ?_))
 refine d7 [(7,.int .i64 (kB ns p:Nat)),(6,.int .i64 (cW ns x p:Nat)),(5,.int .i64 (enc (ns p).up)),(4,.int .i64 (p:Int)),(1,.int .i64 (x:Int)),(0,.pointer (some ⟨pf,0,none⟩))] (aW pf gn cap N (k+1) ns) ?_ ?_
 ·refine ad (aa (ae [] rfl ?_))
  cases hg:(ns p).up with
  |none=>
   have e:kB ns p=0:=by unfold kB;rw[hg]
   refine aP 35 (v':=.bool false) rfl (congrArg Value.bool (aA (by simp[enc]))) ?_
   refine bI rfl (av ⟨[0,1],⟨?_,rfl,rfl,rfl,rfl,rfl,trivial⟩,by decide,rfl⟩)
   rw[e];rfl
  |some g=>
   have e:kB ns p=cW ns p g:=by unfold kB;rw[hg]
   refine aP 35 (v':=.bool true) rfl (congrArg Value.bool (az (by simp[enc]))) ?_
   refine bo rfl ?_
   refine aa ?_
   (repeat' (first
    |refine ai ?_
    |refine ak (gs:=[999]) rfl ?_
    |refine ab [999] (af 0 rfl rfl rfl rfl) rfl ?_
    |refine ab [999] (aU rfl rfl rfl rfl rfl (by first|assumption|omega)) rfl ?_
    |refine ab [999] (am (m:=0) rfl rfl rfl rfl rfl (by decide)) rfl ?_
    |refine ab [999] (am (m:=1) rfl rfl rfl rfl rfl (by decide)) rfl ?_
    |refine ab [999] (aN 1 rfl rfl rfl rfl (by first|assumption|omega) (by first|assumption|omega)) rfl ?_
    |refine ab [999] (aG 1 rfl rfl rfl rfl rfl (by first|assumption|omega) rfl rfl) rfl ?_))
   refine ao [] (jq (k+1) ns hN p g hpN hg) rfl rfl rfl rfl (by kernel_rfl) aK.refl trivial (fun _=>rfl) ?_
   rintro v H' ⟨rfl,rfl⟩
   refine⟨rfl,?_⟩
   (repeat' (first
    |refine ai ?_
    |refine ak (gs:=[999]) rfl ?_
    |refine ab [999] (af 0 rfl rfl rfl rfl) rfl ?_
    |refine ab [999] (aU rfl rfl rfl rfl rfl (by first|assumption|omega)) rfl ?_
    |refine ab [999] (am (m:=0) rfl rfl rfl rfl rfl (by decide)) rfl ?_
    |refine ab [999] (am (m:=1) rfl rfl rfl rfl rfl (by decide)) rfl ?_
    |refine ab [999] (aN 1 rfl rfl rfl rfl (by first|assumption|omega) (by first|assumption|omega)) rfl ?_
    |refine ab [999] (aG 1 rfl rfl rfl rfl rfl (by first|assumption|omega) rfl rfl) rfl ?_))
   refine⟨[0,1],⟨?_,rfl,rfl,rfl,rfl,rfl,trivial⟩,by decide,rfl⟩
   rw[e];rfl
 ·obtain⟨s,hse⟩:∃ s,cW ns x p=s:=⟨_,rfl⟩
  obtain⟨tp,htp⟩:∃ s,kB ns p=s:=⟨_,rfl⟩
  unfold cz
  rw[hse,htp]
  rw[hse] at hs
  rw[htp] at ht
  have e1:IntKind.i64.wrap (1-(s:Int))=((1-s:Nat):Int):=by rw[bU (by omega)];omega
  have hN1:=hN.hang (hN.down hx (1-s)) hpN s
  have hN2:=hN1.hang (c:=some p) hpN hx (1-s)
  have hN3:=hN2.upd (x:=x) (d:={ dR (dR ns (hQ (ns x) (1-s)) p s) (some p) x (1-s) x with up:=(ns p).up }) hgN (hN2.l x hx) (hN2.r x hx)
  have hN4:=hN3.setG hgN hx tp
  have hN5:=hN4.pull hpN
  refine ad (aa ?_)
  (repeat' (first
   |refine ai ?_
   |refine ak (gs:=[999]) rfl ?_
   |refine ab [999] (af 0 rfl rfl rfl rfl) rfl ?_
   |refine ab [999] (aU rfl rfl rfl rfl rfl (by first|assumption|omega)) rfl ?_
   |refine ab [999] (am (m:=0) rfl rfl rfl rfl rfl (by decide)) rfl ?_
   |refine ab [999] (am (m:=1) rfl rfl rfl rfl rfl (by decide)) rfl ?_
   |refine ab [999] (aN 1 rfl rfl rfl rfl (by first|assumption|omega) (by first|assumption|omega)) rfl ?_
   |refine ab [999] (aG 1 rfl rfl rfl rfl rfl (by first|assumption|omega) rfl rfl) rfl ?_))
  refine aw 46 (v':=.int .i64 ((1-s:Nat):Int)) rfl (congrArg (Value.int .i64) e1) ?_
  (repeat' (first
   |refine ai ?_
   |refine ak (gs:=[999]) rfl ?_
   |refine ab [999] (af 0 rfl rfl rfl rfl) rfl ?_
   |refine ab [999] (aU rfl rfl rfl rfl rfl (by first|assumption|omega)) rfl ?_
   |refine ab [999] (am (m:=0) rfl rfl rfl rfl rfl (by decide)) rfl ?_
   |refine ab [999] (am (m:=1) rfl rfl rfl rfl rfl (by decide)) rfl ?_
   |refine ab [999] (aN 1 rfl rfl rfl rfl (by first|assumption|omega) (by first|assumption|omega)) rfl ?_
   |refine ab [999] (aG 1 rfl rfl rfl rfl rfl (by first|assumption|omega) rfl rfl) rfl ?_))
  refine ab [] (am rfl rfl rfl rfl rfl (by omega)) rfl ?_
  (repeat' (first
   |refine ai ?_
   |refine ak (gs:=[999]) rfl ?_
   |refine ab [999] (af 0 rfl rfl rfl rfl) rfl ?_
   |refine ab [999] (aU rfl rfl rfl rfl rfl (by first|assumption|omega)) rfl ?_
   |refine ab [999] (am (m:=0) rfl rfl rfl rfl rfl (by decide)) rfl ?_
   |refine ab [999] (am (m:=1) rfl rfl rfl rfl rfl (by decide)) rfl ?_
   |refine ab [999] (aN 1 rfl rfl rfl rfl (by first|assumption|omega) (by first|assumption|omega)) rfl ?_
   |refine ab [999] (aG 1 rfl rfl rfl rfl rfl (by first|assumption|omega) rfl rfl) rfl ?_))
  refine ao [] (oS (k+1) ns hN (hQ (ns x) (1-s)) (hN.down hx _) p hpN s hs) rfl rfl rfl rfl (by kernel_rfl) aK.refl trivial (fun _=>rfl) ?_
  rintro v H' rfl
  refine⟨rfl,?_⟩
  refine ai ?_
  show J _ _ _ _ (aW pf gn cap N (k+1) _)
  refine ad (aa ?_)
  (repeat' (first
   |refine ai ?_
   |refine ak (gs:=[999]) rfl ?_
   |refine ab [999] (af 0 rfl rfl rfl rfl) rfl ?_
   |refine ab [999] (aU rfl rfl rfl rfl rfl (by first|assumption|omega)) rfl ?_
   |refine ab [999] (am (m:=0) rfl rfl rfl rfl rfl (by decide)) rfl ?_
   |refine ab [999] (am (m:=1) rfl rfl rfl rfl rfl (by decide)) rfl ?_
   |refine ab [999] (aN 1 rfl rfl rfl rfl (by first|assumption|omega) (by first|assumption|omega)) rfl ?_
   |refine ab [999] (aG 1 rfl rfl rfl rfl rfl (by first|assumption|omega) rfl rfl) rfl ?_))
  refine aw 58 (v':=.int .i64 ((1-s:Nat):Int)) rfl (congrArg (Value.int .i64) e1) ?_
  refine ao [] (oS (k+1) _ hN1 (some p) hpN x hx (1-s) (by omega)) rfl rfl rfl rfl (by kernel_rfl) aK.refl trivial (fun _=>rfl) ?_
  rintro v H' rfl
  refine⟨rfl,?_⟩
  refine ai ?_
  show J _ _ _ _ (aW pf gn cap N (k+1) _)
  refine ad (aa ?_)
  (repeat' (first
   |refine ai ?_
   |refine ak (gs:=[999]) rfl ?_
   |refine ab [999] (af 0 rfl rfl rfl rfl) rfl ?_
   |refine ab [999] (aU rfl rfl rfl rfl rfl (by first|assumption|omega)) rfl ?_
   |refine ab [999] (am (m:=0) rfl rfl rfl rfl rfl (by decide)) rfl ?_
   |refine ab [999] (am (m:=1) rfl rfl rfl rfl rfl (by decide)) rfl ?_
   |refine ab [999] (aN 1 rfl rfl rfl rfl (by first|assumption|omega) (by first|assumption|omega)) rfl ?_
   |refine ab [999] (aG 1 rfl rfl rfl rfl rfl (by first|assumption|omega) rfl rfl) rfl ?_))
  (first|refine ce 1 { dR (dR ns (hQ (ns x) (1-s)) p s) (some p) x (1-s) x with up:=(ns p).up } rfl rfl rfl rfl rfl rfl rfl (by first|assumption|omega) rfl rfl [] rfl ?_|refine b9 1 { dR (dR ns (hQ (ns x) (1-s)) p s) (some p) x (1-s) x with up:=(ns p).up } rfl rfl rfl rfl rfl rfl rfl (by first|assumption|omega) rfl rfl [] rfl ?_)
  refine ai ?_
  show J _ _ _ _ (aW pf gn cap N (k+1) _)
  generalize h3:e7 _ _ _=ns3 at*
  refine d7 [(4,.int .i64 (p:Int)),(1,.int .i64 (x:Int)),(0,.pointer (some ⟨pf,0,none⟩))] (aW pf gn cap N (k+1) (w7 ns3 (ns p).up tp x)) ?_ ?_
  ·refine ad (aa (ae [] rfl ?_))
   cases hg:(ns p).up with
   |none=>
    refine aP 69 (v':=.bool false) rfl (congrArg Value.bool (aA (by simp[enc]))) ?_
    exact bI rfl (av ⟨[0,1],⟨rfl,rfl,rfl,trivial⟩,by decide,rfl⟩)
   |some g=>
    rw[hg] at hgN
    have hgN':g<N:=hgN
    refine aP 69 (v':=.bool true) rfl (congrArg Value.bool (az (by simp[enc]))) ?_
    refine bo rfl ?_
    refine aa ?_
    (repeat' (refine ak (gs:=[999]) rfl ?_))
    refine ab [999] (af 0 rfl rfl rfl rfl) rfl ?_
    (repeat' (refine ak (gs:=[999]) rfl ?_))
    refine aw 74 (v':=.int .i64 (g:Int)) rfl (congrArg (Value.int .i64) (by first|exact du hg|rfl)) ?_
    refine ab [999] (aU rfl rfl rfl rfl rfl hgN') rfl ?_
    (repeat' (refine ak (gs:=[999]) rfl ?_))
    refine ab [] (am rfl rfl rfl rfl rfl ht) rfl ?_
    refine nq (c:=some x) 1 rfl rfl rfl rfl rfl hgN' ht [] rfl ?_
    exact ai ⟨[0,1],⟨rfl,rfl,rfl,trivial⟩,by decide,rfl⟩
  ·refine ad (aa ?_)
   (repeat' (first
    |refine ai ?_
    |refine ak (gs:=[999]) rfl ?_
    |refine ab [999] (af 0 rfl rfl rfl rfl) rfl ?_
    |refine ab [999] (aU rfl rfl rfl rfl rfl (by first|assumption|omega)) rfl ?_
    |refine ab [999] (am (m:=0) rfl rfl rfl rfl rfl (by decide)) rfl ?_
    |refine ab [999] (am (m:=1) rfl rfl rfl rfl rfl (by decide)) rfl ?_
    |refine ab [999] (aN 1 rfl rfl rfl rfl (by first|assumption|omega) (by first|assumption|omega)) rfl ?_
    |refine ab [999] (aG 1 rfl rfl rfl rfl rfl (by first|assumption|omega) rfl rfl) rfl ?_))
   refine ao [] (l0 (k+1) _ hN4 p hpN) rfl rfl rfl rfl (by kernel_rfl) aK.refl trivial (fun _=>rfl) ?_
   rintro v H' rfl
   refine⟨rfl,?_⟩
   refine ai ?_
   show J _ _ _ _ (aW pf gn cap N (k+1) _)
   refine aa ?_
   (repeat' (first
    |refine ai ?_
    |refine ak (gs:=[999]) rfl ?_
    |refine ab [999] (af 0 rfl rfl rfl rfl) rfl ?_
    |refine ab [999] (aU rfl rfl rfl rfl rfl (by first|assumption|omega)) rfl ?_
    |refine ab [999] (am (m:=0) rfl rfl rfl rfl rfl (by decide)) rfl ?_
    |refine ab [999] (am (m:=1) rfl rfl rfl rfl rfl (by decide)) rfl ?_
    |refine ab [999] (aN 1 rfl rfl rfl rfl (by first|assumption|omega) (by first|assumption|omega)) rfl ?_
    |refine ab [999] (aG 1 rfl rfl rfl rfl rfl (by first|assumption|omega) rfl rfl) rfl ?_))
   refine ao [] (l0 (k+1) _ hN5 x hx) rfl rfl rfl rfl (by kernel_rfl) aK.refl trivial (fun _=>rfl) ?_
   rintro v H' rfl
   refine⟨rfl,?_⟩
   exact ai ⟨_,rfl,by subst h3;rfl⟩
end Go.Proofs.YtpbmihpjgjbndaaGreatDoor
/- The engine: a range over a function, whose body never leaves the loop. -/
set_option linter.unusedVariables false
set_option linter.unusedSimpArgs false
namespace Go.Proofs.YtpbmihpjgjbndaaGreatDoor
open Go.RowKit
def ly (l:List Oper):Bool:=l.all fun o=>match o.op with
 |.defer _=>false
 |_=>true
section
variable {P:Program} {ops:Array Oper} {R:Exit→Act→World→Prop}
theorem pT {n r:Nat} {row:String} {args:Array Value} {w:World} {K:Value→World→Prop} (h:Rows P row args w K):RowsIn (Fence.wide.inRound r) n P row args w K:=
 fun c cs _=>by obtain⟨v,w',r,s⟩:=h c cs;exact⟨v,w',r,stepsIn_wide.2 s⟩
theorem lJ {r n:Nat} (hno:¬ LetsOut R):∀ (l:List Oper) (a:Act) (w:World),ly l=true→wpList P ops R l a w→wpListIn (Fence.wide.inRound r) n P ops R l a w
 |[],_,_,_,h=>h
 |o::l,a,w,hp,h=>by
  simp only[ly,List.all_cons,Bool.and_eq_true] at hp
  have ih:=fun a w=>lJ (r:=r) (n:=n) hno l a w hp.2
  unfold wpList at h
  unfold wpListIn
  split
  ·rename_i hw
   rw[if_pos hw] at h
   rcases h with h|⟨_,h⟩
   ·refine⟨fun _ _=>trivial,?_⟩
    have hs:o.semAt (Fence.wide.inRound r).round a.eval=execOp a.eval o:=Oper.semAt_eq _ a.eval o fun c hc=>by rw[hc] at hp;cases hp.1
    rw[hs]
    unfold Oper.wp at h
    generalize (execOp a.eval o).run P w=res at*
    cases res with
    |ok x w'=>
     cases x<;>simp only[Oper.upon,Oper.uponIn] at h ⊢<;>first|exact ih _ _ h|exact h.elim|skip
     ·refine⟨fun hd=>(by simp[Fence.wide] at hd),(CallsIn.inRound r (callsIn_wide.2 h)).mono ?_⟩
      intro e w'' he
      cases e with
      |returned v=>exact ih _ _ he
      |panicked ch=>exact he
      |outgrown=>exact he
     ·exact⟨fun hd=>(by simp[Fence.wide] at hd),pT (h.mono fun v w'' hv=>ih _ _ hv)⟩
    |halt x w'=>cases x<;>simp only[Oper.upon,Oper.uponIn] at h ⊢<;>first|exact h|exact h.elim
   ·exact absurd h hno
  ·rename_i hw
   rw[if_neg hw] at h
   exact⟨fun _ _=>trivial,ih _ _ h⟩
end
section
variable {X:Cx} {E E':Env} {H:Heap} {K:Env→Heap→Prop}
def JR (X:Cx) (r:Nat) (c:Code) (K:Env→Heap→Prop) (E:Env) (H:Heap):Prop:=∀ a w,eh X.n a E→cm X.w0 X.M w H→c.wpIn (Fence.wide.inRound r) 0 Tryz.prog (jO X (xb K)) a w
theorem sO:¬ LetsOut (jO X (xb K)):=fun ⟨_,_,_,_,_,_,h⟩=>h
theorem n9 {r id:Nat} {l:List Oper} (hp:ly l=true) (h:JL X l l (xb K) E H):JR X r (.region id l.toArray false) K E H:=
 fun a w hA hH=>wpIn_region_lit (lJ sO l a w hp (h a w hA hH))
theorem vJ {r id:Nat} {c:Code} (h:JR X r c K E H):JR X r (.block id c) K E H:=fun a w hA hH=>by
 refine wpIn_block (wpIn_mono (h a w hA hH) ?_)
 rintro e a' w' ⟨E',H',h1,h2,h3⟩
 cases e with
 |normal=>exact⟨E',H',h1,h2,h3⟩
 |_=>exact h3.elim
end
def yk (gf:FuncId) (lb:List Value) (S:Heap) (nr:Nat) (x:Nat→List Value):Prop:=
 ∀ (l:Nat) (J:Nat→World→Prop) (W:World),(∀ k W,J k W→∀ c∈S,c.holds W)→(∀ k W W',J k W→cm W [] W' []→J k W')→
   (∀ k W,k<nr→J k W→YieldAt Fence.wide 0 Tryz.prog l (x k).toArray W fun e W'=>e=.returned (.bool true)∧J (k+1) W')→
   J 0 W→Calls Tryz.prog gf (#[.func (.yield l) #[] #[]]++lb.toArray) W fun e W'=>(∃ v,e=.returned v)∧J nr W'
def sK:List Nat→List Value→Env→Env
 |p::ps,v::vs,E=>sK ps vs ((p,v)::E)
 |_,_,E=>E
theorem eh.bind {n:Nat}:∀ (ps:List Nat) (vs:List Value) (tmps:Array Value) (E:Env),(ps.all fun p=>Nat.blt p n)=true→eh ⟨n,[]⟩ { tmps:=tmps,defers:=[] } E→
 eh ⟨n,[]⟩ { tmps:=(ps.zip vs).foldl (fun t (p,v)=>t.setIfInBounds p v) tmps,defers:=[] } (sK ps vs E)
 |[],_,_,_,_,h=>h
 |p::ps,[],tmps,E,_,h=>h
 |p::ps,v::vs,tmps,E,hp,h=>by
  simp only[List.all_cons,Bool.and_eq_true] at hp
  have h1:eh ⟨n,[]⟩ { tmps:=tmps.setIfInBounds p v,defers:=[] } ((p,v)::E):=h.put (d:=p) (by simpa using hp.1) v
  exact eh.bind ps vs _ _ hp.2 h1
abbrev nT (D:Nat):Deferred:={ target:=.collected D,args:=#[] }
abbrev sq:Obj:=.deferred (some [])
section
variable {w0:World} {M:List Nat} {n:Nat} {E:Env} {H:Heap} {R:Exit→Act→World→Prop}
theorem cm.turn {w:World} {o o':Obj} {r:Nat} {K:Heap} (h:cm w0 M w (.obj r o::K)):cm w0 M (w.putObj r o') (.obj r o'::K):=by
 have hr:w.heap[r]?=some o:=h.holds (.obj r o) (by simp)
 have hlt:=(Array.getElem?_eq_some_iff.1 hr).1
 refine h.step (d:=.obj r o') 0 rfl rfl rfl rfl (by simp) (fun k _ hk=>World.putObj_heap_other (fun e=>hk (by rw[e];rfl))) (World.putObj_heap_same hlt) (fun b hb=>.inl hb)
theorem cm.tail {w:World} {c:aO} {K:Heap} (h:cm w0 M w (c::K)):cm w0 M w K:=h.sub (List.sublist_cons_self c K)
theorem cm.after {w w':World} {K:Heap} (h:cm w0 M w K) (h':cm w [] w' []):cm w0 M w' K:=by
 have hb:∀ k,k<w.heap.size→w'.heap[k]?=w.heap[k]?:=fun k hk=>h'.keep k hk (by simp)
 refine⟨h'.os.trans h.os,h'.tape.trans h.tape,h'.output.trans h.output,Nat.le_trans h.size h'.size,fun k hk hM=>?_,fun c hc=>?_,h.own,h.dis⟩
 ·rw[hb k (Nat.lt_of_lt_of_le hk h.size)];exact h.keep k hk hM
 ·exact aO.holds_of (h.holds c hc) fun b hbe=>hb b (aO.at_lt (h.holds c hc) hbe)
theorem yQ {X:Cx} {x y:Code} (h:W X x (Exit.then (y.wp Tryz.prog R) R) E H):W X (.seq x y) R E H:=fun a w hA hH=>wp_seq (h a w hA hH)
theorem x1 {X:Cx} {id:Nat} {c:Code} (h:W X c (Exit.inBlock id R) E H):W X (.block id c) R E H:=fun a w hA hH=>wp_block (h a w hA hH)
theorem xw {g:Operand} {ps:List Nat} {assign body:Code} {gf:FuncId} {lb:List Value} {S:Heap} {nr:Nat} {x:Nat→List Value} (Hk:Nat→Heap) (hg:val E g=some (.func (.func gf) #[] lb.toArray)) (hc:fj gf=true)
 (hit:yk gf lb S nr x) (hps:∀ k,k<nr→(x k).length=ps.length) (hpn:(ps.all fun p=>Nat.blt p n)=true) (hS:∀ k W,cm w0 M W (Hk k)→∀ c∈S,c.holds W)
 (hbody:∀ r D k (rdy bsy:Obj),k<nr→JR ⟨w0,M,⟨n,[]⟩⟩ r assign (fun E1 H1=>H1=(.obj r rdy::.obj D sq::Hk k)∧
  JR ⟨w0,M,⟨n,[]⟩⟩ r body (fun _ H2=>∃ ix:List Nat,ix.Nodup∧bF H2 ix=some (.obj r bsy::.obj D sq::Hk (k+1))) E1 (.obj r bsy::.obj D sq::Hk k)) (sK ps (x k) E) (.obj r rdy::.obj D sq::Hk k))
 (hrest:∀ D a w,eh ⟨n,[nT D]⟩ a E→cm w0 M w (.obj D sq::Hk nr)→R .normal a w):W ⟨w0,M,⟨n,[]⟩⟩ (.rangeFunc g ps.toArray assign body) R E (Hk 0):=by
 intro a w hA hH
 refine (wpIn_wide (n:=0)).1 (wpIn_rangeFunc ?_)
 intro fn _
 obtain⟨rec,hrec⟩:∃ rec:LoopState→Option Code→Loop,rec=fun st pe=>{ state:=st,pending:=pe,fn,tmps:=a.tmps,params:=ps.toArray,assign,body,defers:=w.heap.size }:=⟨_,rfl⟩
 obtain⟨W1,hW1⟩:∃ W1,(w.alloc (.deferred (some []))).alloc (.loop (rec .ready none))=W1:=⟨_,rfl⟩
 have hH1:cm w0 M W1 (.obj (w.heap.size+1) (.loop (rec .ready none))::.obj w.heap.size sq::Hk 0):=by
  have:=(hH.alloc sq).alloc (.loop (rec .ready none))
  rw[World.size_alloc] at this
  rw[← hW1];exact this
 have hev:a.eval g=.func (.func gf) #[] lb.toArray:=hA.val hg
 refine⟨w.heap.size+1,[nT w.heap.size],W1,{ target:=.fn (.func gf) lb.toArray,args:=#[.func (.yield (w.heap.size+1)) #[] #[]] },W1,gf,#[.func (.yield (w.heap.size+1)) #[] #[]]++lb.toArray,W1,?_,?_,fun _ _=>trivial,?_,fun hd=>(by simp[Fence.wide] at hd),?_⟩
 ·rw[← hW1,hrec];exact run_enterLoop_outer _ _ _ _ _
 ·simp only[resolve,hev]
  simp[go_sem]
 ·simp[invoke,fC hc]
 ·refine (callsIn_wide.2 (hit (w.heap.size+1) (fun k W=>cm w0 M W (.obj (w.heap.size+1) (.loop (rec .ready none))::.obj w.heap.size sq::Hk k)) W1 (fun k W h=>hS k W h.tail.tail) (fun k W W' h h'=>h.after h') ?_ hH1)).mono ?_
  ·intro k W hk h
   have hl:W.heap[w.heap.size+1]?=some (.loop (rec .ready none)):=h.holds (.obj _ _) (by simp)
   have hy:=run_yield (P:=Tryz.prog) (args:=(x k).toArray) hl (by rw[hrec];simp[hps k hk])
   rw[hrec] at hy
   refine⟨fn,_,assign,body,hy,roundIn_of_wpIn trivial ?_⟩
   have hA1:eh ⟨n,[]⟩ { tmps:=((ps.toArray.zip (x k).toArray).foldl (fun t (p,v)=>t.setIfInBounds p v) a.tmps),defers:=[] } (sK ps (x k) E):=by
    have:=eh.bind ps (x k) a.tmps E hpn ⟨hA.size,rfl,hA.get⟩
    have e:(ps.toArray.zip (x k).toArray).foldl (fun t (p,v)=>t.setIfInBounds p v) a.tmps=(ps.zip (x k)).foldl (fun t (p,v)=>t.setIfInBounds p v) a.tmps:=by
     rw[← Array.foldl_toList];simp
    rw[e];exact this
   refine wpIn_mono (hbody (w.heap.size+1) w.heap.size k (.loop (rec .ready none)) (.loop { rec .ready none with state:=.busy }) hk _ W hA1 h) ?_
   rintro e a1 W2 ⟨E1,H1,hA2,hH2,hq⟩
   cases e with
   |normal=>
    obtain⟨rfl,hb⟩:=hq
    have hl2:W2.heap[w.heap.size+1]?=some (.loop (rec .ready none)):=hH2.holds (.obj _ _) (by simp)
    refine⟨_,run_beginRound hl2 (by rw[hrec]),?_⟩
    refine wpIn_mono (hb a1 _ hA2 hH2.turn) ?_
    rintro e a3 W3 ⟨E3,H3,hA3,hH3,hq3⟩
    cases e with
    |normal=>
     obtain⟨ix,hix,hp⟩:=hq3
     have h3:=hH3.picks ix hix hp
     have hl3:W3.heap[w.heap.size+1]?=some (.loop { rec .ready none with state:=.busy }):=h3.holds (.obj _ _) (by simp)
     refine⟨_,_,run_endRound none hl3,rfl,?_⟩
     have:=h3.turn (o':=.loop (rec .ready none))
     rw[hrec] at this ⊢
     exact this
    |_=>exact hq3.elim
   |_=>exact hq.elim
  ·rintro e W2 ⟨⟨v,rfl⟩,h⟩
   have hl:W2.heap[w.heap.size+1]?=some (.loop (rec .ready none)):=h.holds (.obj _ _) (by simp)
   refine⟨none,_,by have:=run_endLoop (P:=Tryz.prog) hl (by rw[hrec];simp);rw[hrec] at this;exact this,?_⟩
   have h3:=h.turn (o':=.loop (rec .exhausted none))
   rw[hrec] at h3
   exact hrest w.heap.size _ _ ⟨hA.size,by show [_]++a.defers=_;rw[hA.defers];rfl,hA.get⟩ h3.tail
def yg (fn:Func) (w0:World) (M:List Nat) (Rr:Value→Heap→Prop):Exit→Act→World→Prop:=fun e a w=>
 (e=.normal∨e=.ret)∧∃ E' H' D,eh ⟨fn.ntmps,[nT D]⟩ a E'∧cm w0 M w (.obj D sq::H')∧∃ vs,m9 E' fn.results.toList=some vs∧Rr (iE vs) H'
def zx (D:Nat) (rs:List ResultVar) (Rr:Value→Heap→Prop):dl:=fun e E H=>(e=.normal∨e=.ret)∧∃ H' ix,List.Nodup ix∧bF H ix=some (.obj D sq::H')∧∃ vs,m9 E rs=some vs∧Rr (iE vs) H'
theorem zu {D:Nat} {fn:Func} {c:Code} {Rr:Value→Heap→Prop} (h:J ⟨w0,M,⟨fn.ntmps,[nT D]⟩⟩ c (zx D fn.results.toList Rr) E H) {a:Act} {w:World} (hA:eh ⟨fn.ntmps,[nT D]⟩ a E) (hH:cm w0 M w H):c.wp Tryz.prog (yg fn w0 M Rr) a w:=by
 refine wp_mono (h a w hA hH) ?_
 rintro e a' w' ⟨E',H',hA',hH',he,H2,ix,hix,hp,vs,h1,h2⟩
 exact⟨he,E',H2,D,hA',hH'.picks ix hix hp,vs,h1,h2⟩
theorem yF {f:FuncId} {fn:Func} {c:Code} {args:List Value} {Rr:Value→Heap→Prop} (hf:Tryz.prog.funcs[f]?=some fn) (hb:fn.body=some c) (hn:Nat.ble args.length fn.ntmps=true)
 (h:∀ w0,W ⟨w0,M,⟨fn.ntmps,[]⟩⟩ c (yg fn w0 M Rr) (kL 0 args) H):Fn f args M H Rr:=by
 intro w hH
 refine (callsIn_wide (n:=0)).1 (callsIn_of_wp_marks hf hb trivial (wpIn_wide.2 ?_))
 refine wp_mono (h w _ w (ks hn) hH) ?_
 have key:∀ a w',(∃ E' H' D,eh ⟨fn.ntmps,[nT D]⟩ a E'∧cm w M w' (.obj D sq::H')∧∃ vs,m9 E' fn.results.toList=some vs∧Rr (iE vs) H')→
  LeavesInM Fence.wide 0 Tryz.prog fn a.tmps (fun e w'=>∃ v H',e=.returned v∧cm w M w' H'∧Rr v H') a.defers .returning w':=by
  rintro a w' ⟨E',H',D,hA',hH',vs,h1,h2⟩
  rw[hA'.defers]
  have hD:w'.heap[D]?=some (.deferred (some [])):=hH'.holds (.obj D sq) (by simp)
  refine⟨by simp,.inl ⟨D,_,rfl,run_takeDeferred hD,?_⟩⟩
  exact⟨iE vs,gD hA' h1 _,iE vs,H',rfl,(hH'.turn (o':=.deferred none)).tail,h2⟩
 rintro e a w' ⟨rfl|rfl,hq⟩
 ·exact key a w' hq
 ·exact key a w' hq
end
/-! ### The iterator's side -/
section
variable {G:Nat→World→Prop} {n:Nat} {S:Heap} {E F:Env} {k nr l:Nat} {x:Nat→List Value} {ops:List Oper} {R:Exit→Act→World→Prop}
def qi:Heap→Bool
 |[]=>true
 |.seg ..::H=>qi H
 |_=>false
theorem jh:∀ {S:Heap},qi S=true→∀ c∈S,c.mine=none
 |[],_,c,hc=>by cases hc
 |.seg ..::S,h,c,hc=>by
  rcases List.mem_cons.1 hc with rfl|hc
  ·rfl
  ·exact jh (S:=S) h c hc
 |.obj ..::_,h,_,_=>by cases h
 |.own ..::_,h,_,_=>by cases h
 |.tab ..::_,h,_,_=>by cases h
theorem qf {w:World} (hs:qi S=true) (h:∀ c∈S,c.holds w):cm w [] w S:=by
 refine⟨rfl,rfl,rfl,Nat.le_refl _,fun _ _ _=>rfl,h,fun c hc b hb=>(by rw[jh hs c hc] at hb;cases hb),?_⟩
 rw[List.pairwise_iff_getElem]
 intro i j hi hj _
 have h1:=jh hs _ (List.getElem_mem hi)
 have h2:=jh hs _ (List.getElem_mem hj)
 exact⟨fun b hb=>(by rw[h1] at hb;cases hb),fun b hb=>(by rw[h2] at hb;cases hb)⟩
def JY (G:Nat→World→Prop) (n:Nat) (ops l:List Oper) (R:Exit→Act→World→Prop) (E:Env) (k:Nat):Prop:=∀ a w,eh ⟨n,[]⟩ a E→G k w→wpListIn Fence.wide 0 Tryz.prog ops.toArray R l a w
theorem kd {P:Program} {ops:Array Oper} {R Rn:Exit→Act→World→Prop} {l2:List Oper} (hno:¬ LetsOut Rn) (hn:∀ e a w,e≠.normal→¬ Rn e a w) (h2:∀ a w,Rn .normal a w→wpListIn Fence.wide 0 P ops R l2 a w):
 ∀ (l1:List Oper) (a:Act) (w:World),ly l1=true→wpList P ops Rn l1 a w→wpListIn Fence.wide 0 P ops R (l1++l2) a w
 |[],a,w,_,h=>h2 a w h
 |o::l1,a,w,hp,h=>by
  simp only[ly,List.all_cons,Bool.and_eq_true] at hp
  have ih:=fun a w=>kd hno hn h2 l1 a w hp.2
  unfold wpList at h
  show wpListIn _ _ _ _ _ (o::(l1++l2)) a w
  unfold wpListIn
  split
  ·rename_i hw
   rw[if_pos hw] at h
   rcases h with h|⟨_,h⟩
   ·refine⟨fun _ _=>trivial,?_⟩
    have hs:o.semAt Fence.wide.round a.eval=execOp a.eval o:=Oper.semAt_none a.eval o
    rw[hs]
    unfold Oper.wp at h
    generalize (execOp a.eval o).run P w=res at*
    cases res with
    |ok x w'=>
     cases x<;>simp only[Oper.upon,Oper.uponIn] at h ⊢<;>first|exact ih _ _ h|exact h.elim|skip
     ·refine⟨fun hd=>(by simp[Fence.wide] at hd),(callsIn_wide.2 h).mono ?_⟩
      intro e w'' he
      cases e with
      |returned v=>exact ih _ _ he
      |panicked ch=>exact absurd he (hn _ _ _ (by simp))
      |outgrown=>exact absurd he hno
     ·refine⟨fun hd=>(by simp[Fence.wide] at hd),fun c cs _=>?_⟩
      obtain⟨v,w'',r,s⟩:=h c cs
      exact⟨v,w'',ih _ _ r,stepsIn_wide.2 s⟩
    |halt x w'=>cases x<;>simp only[Oper.upon,Oper.uponIn] at h ⊢<;>first|exact absurd h (hn _ _ _ (by simp))|exact h.elim
   ·exact absurd h hno
  ·rename_i hw
   rw[if_neg hw] at h
   exact⟨fun _ _=>trivial,ih _ _ h⟩
theorem vz {l2:List Oper} (m:Nat) (hs:qi S=true) (hJS:∀ k W,G k W→∀ c∈S,c.holds W) (hJa:∀ k W W',G k W→cm W [] W' []→G k W') (hp:ly (l2.take m)=true) (h1:∀ w,JL ⟨w,[],⟨n,[]⟩⟩ ops (l2.take m) (xb fun E' _=>kS E' F) E S) (h2:JY G n ops (l2.drop m) R F k):JY G n ops l2 R E k:=by
 intro a w hA hJ
 rw[← List.take_append_drop m l2]
 refine kd (Rn:=jO ⟨w,[],⟨n,[]⟩⟩ (xb fun E' _=>kS E' F)) sO (fun e a w hne hq=>?_) ?_ _ a w hp (h1 w a w hA (qf hs (hJS k w hJ)))
 ·obtain⟨_,_,_,_,hq⟩:=hq
  cases e with
  |normal=>exact hne rfl
  |_=>exact hq
 ·rintro a' w' ⟨E',H',hA',hH',hq⟩
  exact h2 a' w' (hA'.ents F hq) (hJa k w w' hJ (hH'.mono (fun c hc=>by cases hc) List.Pairwise.nil))
theorem wu {l2:List Oper} {o:Oper} {f:Operand} {args:Array Operand} {ts:Array TypeId} {E':Env} (hY:∀ k W,k<nr→G k W→YieldAt Fence.wide 0 Tryz.prog l (x k).toArray W fun e W'=>e=.returned (.bool true)∧G (k+1) W') (hk:k<nr)
 (ho:o.op=.call ⟨.value f,args,ts⟩) (hg:o.guard=none) (hf:val E f=some (.func (.yield l) #[] #[])) (ha:vals E args.toList=some (x k)) (hb:o7 ⟨n,[]⟩ o.dst (.bool true) E=some E') (h:JY G n ops l2 R E' (k+1)):JY G n ops (o::l2) R E k:=by
 intro a w hA hJ
 obtain⟨fn,tmps,assign,body,hy,hr⟩:=hY k w hk hJ
 unfold wpListIn
 rw[if_pos (by simp[Region.wanted,hg])]
 refine⟨fun _ _=>trivial,?_⟩
 have e1:args.map a.eval=(x k).toArray:=by
  rw[← hA.vals _ _ ha]
  exact Array.ext' (by simp)
 have hs:o.semAt Fence.wide.round a.eval=execOp a.eval o:=Oper.semAt_none a.eval o
 have he:(execOp a.eval o).run Tryz.prog w=.ok (.round l fn tmps assign body) w:=by
  simp[execOp,ho,resolve,invoke,Deferred.ofValue,hA.val hf,e1,hy]
 rw[hs,he,Oper.uponIn_round]
 refine⟨fun hd=>(by simp[Fence.wide] at hd),hr.mono ?_⟩
 rintro e W' ⟨rfl,hJ'⟩
 exact h _ _ (hA.putE hb) hJ'
theorem yK (h:∀ a w,eh ⟨n,[]⟩ a E→G k w→R .normal a w):JY G n ops [] R E k:=h
def WG (G:Nat→World→Prop) (n:Nat) (c:Code) (R:Exit→Act→World→Prop) (E:Env) (k:Nat):Prop:=∀ a w,eh ⟨n,[]⟩ a E→G k w→c.wp Tryz.prog R a w
theorem uP {id:Nat} {l:List Oper} (h:JY G n l l R E k):WG G n (.region id l.toArray false) R E k:=fun a w hA hJ=>(wpIn_wide (n:=0)).1 (wpIn_region_lit (h a w hA hJ))
theorem nj {x y:Code} (h:WG G n x (Exit.then (y.wp Tryz.prog R) R) E k):WG G n (.seq x y) R E k:=fun a w hA hJ=>wp_seq (h a w hA hJ)
theorem kP {c:Code} {Q:dl} (hs:qi S=true) (hJS:∀ k W,G k W→∀ c∈S,c.holds W) (hJa:∀ k W W',G k W→cm W [] W' []→G k W') (h:∀ w,J ⟨w,[],⟨n,[]⟩⟩ c Q E S)
 (hq:∀ e E' a w',eh ⟨n,[]⟩ a E'→G k w'→(∃ w H',cm w [] w' H'∧Q e E' H')→R e a w'):WG G n c R E k:=by
 intro a w hA hJ
 refine wp_mono (h w a w hA (qf hs (hJS k w hJ))) ?_
 rintro e a' w' ⟨E',H',hA',hH',hq'⟩
 exact hq e E' a' w' hA' (hJa k w w' hJ (hH'.mono (fun c hc=>by cases hc) List.Pairwise.nil)) ⟨w,H',hH',hq'⟩
end
end Go.Proofs.YtpbmihpjgjbndaaGreatDoor
/- A row, from its last one on. -/
set_option linter.unusedVariables false
set_option linter.unusedSimpArgs false
namespace Go.Proofs.YtpbmihpjgjbndaaGreatDoor
open Go.RowKit
def fh (W:List Nat):List Value:=ap (W.map fun (i:Nat)=>(i:Int))
theorem tO {W:List Nat} {k r:Nat} (h:W[k]?=some r):(fh W)[k]?=some (.int .i64 (r:Int)):=b8 (by rw[List.getElem?_map,h];rfl)
theorem qQ (A:Option Addr) (m c:Nat):Fn 290 [.slice A m c] [] [] fun v H'=>∃ b,v=.func (.func 295) #[] #[.pointer (some ⟨b,0,none⟩)]∧H'=[blk b 23 [.slice A m c]]:=by
 refine aS Tryz.func290 rfl rfl fun w0=>?_
 refine ad (aa ?_)
 refine bw rfl rfl rfl (fun _=>rfl) fun b=>?_
 refine ae [] rfl ?_
 refine ad (aa (ae [] rfl ?_))
 exact aB ⟨_,rfl,b,rfl,rfl⟩
def vR (W:List Nat) (k:Nat):List Value:=[.int .i64 ((W.length-1-k:Nat):Int),.int .i64 ((W.getD (W.length-1-k) 0:Nat):Int)]
theorem sf (W:List Nat) (b g c:Nat) (hW:W.length≤100000):yk 295 [.pointer (some ⟨b,0,none⟩)] [.seg b 0 [.slice (some ⟨g,0,none⟩) W.length c],.seg g 0 (fh W)] W.length (vR W):=by
 intro l G w hGS hGa hY h0
 refine calls_of_wp Tryz.func295 rfl ?_
 have hA0:=ks (n:=19) (args:=[.func (.yield l) #[] #[],.pointer (some ⟨b,0,none⟩)]) rfl
 suffices hWG:WG G 19 _ (bodyPost Tryz.prog _ fun e W'=>(∃ v,e=.returned v)∧G W.length W') (kL 0 [.func (.yield l) #[] #[],.pointer (some ⟨b,0,none⟩)]) 0 from hWG _ _ hA0 h0
 refine nj (kP (Q:=xb fun E' _=>kS E' [(3,.int .i64 ((W.length:Int)-1)),(1,.pointer (some ⟨b,0,none⟩)),(0,.func (.yield l) #[] #[])]) (S:=[.seg b 0 [.slice (some ⟨g,0,none⟩) W.length c],.seg g 0 (fh W)]) rfl hGS hGa (fun w=>?_) ?_)
 ·refine aa ?_
  refine ab [] (bz (i:=0) 0 rfl rfl rfl rfl rfl) rfl ?_
  refine ah [] rfl ?_
  refine ai ⟨?_,rfl,rfl,trivial⟩
  exact congrArg some (congrArg (Value.int .i64) (bU (by omega)))
 ·rintro e E' a w' hA hG ⟨w1,H',_,hq⟩
  cases e with
  |normal=>
   have hA:=hA.ents _ hq
   clear hq
   refine wp_block (wp_loop_ghost (fun m a w=>∃ k,m=W.length-k∧k≤W.length∧eh ⟨19,[]⟩ a [(3,.int .i64 ((W.length:Int)-1-k)),(1,.pointer (some ⟨b,0,none⟩)),(0,.func (.yield l) #[] #[])]∧G k w) W.length ⟨0,rfl,Nat.zero_le _,?_,hG⟩ ?_)
   ·have e:(W.length:Int)-1-((0:Nat):Int)=(W.length:Int)-1:=by omega
    rw[e];exact hA
   clear hA hG
   rintro m a w ⟨k,rfl,hk,hA,hG⟩
   suffices hWG:WG G 19 _ _ [(3,.int .i64 ((W.length:Int)-1-k)),(1,.pointer (some ⟨b,0,none⟩)),(0,.func (.yield l) #[] #[])] k from hWG _ _ hA hG
   clear hA hG
   by_cases hlt:k<W.length
   ·have ei:(W.length:Int)-1-k=((W.length-1-k:Nat):Int):=by omega
    obtain⟨j,hj⟩:∃ j,W.length-1-k=j:=⟨_,rfl⟩
    have hjl:j<W.length:=by omega
    have hget:W[j]?=some (W.getD j 0):=by rw[List.getD_eq_getElem?_getD,List.getElem?_eq_getElem hjl];rfl
    rw[ei,hj]
    refine nj (kP (Q:=xb fun E' _=>kS E' [(3,.int .i64 (j:Int)),(1,.pointer (some ⟨b,0,none⟩)),(0,.func (.yield l) #[] #[])]) (S:=[.seg b 0 [.slice (some ⟨g,0,none⟩) W.length c],.seg g 0 (fh W)]) rfl hGS hGa (fun w=>?_) ?_)
    ·refine ad (aa (ae [] rfl ?_))
     refine aP 8 (v':=.bool true) rfl (congrArg Value.bool (az (by omega))) ?_
     exact bo rfl (av ⟨rfl,rfl,rfl,trivial⟩)
    ·rintro e E1 a1 w1 hA1 hG1 ⟨_,_,_,hq⟩
     cases e with
     |normal=>
      have hA1:=hA1.ents _ hq
      suffices hWG:WG G 19 _ _ [(3,.int .i64 (j:Int)),(1,.pointer (some ⟨b,0,none⟩)),(0,.func (.yield l) #[] #[])] k from hWG _ _ hA1 hG1
      refine nj fun a w hA hG=>wp_block ?_
      suffices hWG:WG G 19 _ _ [(3,.int .i64 (j:Int)),(1,.pointer (some ⟨b,0,none⟩)),(0,.func (.yield l) #[] #[])] k from hWG _ _ hA hG
      refine nj (uP ?_)
      refine vz (S:=[.seg b 0 [.slice (some ⟨g,0,none⟩) W.length c],.seg g 0 (fh W)]) (F:=[(16,.int .i64 ((W.getD j 0:Nat):Int)),(12,.int .i64 (j:Int)),(11,.func (.yield l) #[] #[]),(3,.int .i64 (j:Int)),(1,.pointer (some ⟨b,0,none⟩)),(0,.func (.yield l) #[] #[])]) 6 rfl hGS hGa rfl (fun w=>?_) ?_
      ·show JL _ _ [_,_,_,_,_,_] _ _ _
       refine ah [] rfl ?_
       refine ab [] (bz (i:=0) 0 rfl rfl rfl rfl rfl) rfl ?_
       refine ah [] rfl ?_
       refine ab [] (aJ rfl rfl rfl rfl rfl hjl) rfl ?_
       refine ab [] (bz (i:=j) 1 rfl rfl rfl (Nat.zero_add _).symm (tO hget)) rfl ?_
       exact ai ⟨rfl,rfl,rfl,rfl,rfl,rfl,trivial⟩
      ·refine wu hY hlt rfl rfl rfl (by unfold vR;rw[hj];rfl) rfl ?_
       refine vz (S:=[.seg b 0 [.slice (some ⟨g,0,none⟩) W.length c],.seg g 0 (fh W)]) (F:=[(18,.bool false),(3,.int .i64 (j:Int)),(1,.pointer (some ⟨b,0,none⟩)),(0,.func (.yield l) #[] #[])]) 1 rfl hGS hGa rfl (fun w=>?_) (yK fun a w hA hG=>?_)
       ·exact ae [] rfl ⟨rfl,rfl,rfl,rfl,trivial⟩
       ·refine wp_cond_false (hA.val (x:=.tmp 18) rfl) (wp_skip ?_)
        suffices hWG:WG G 19 _ _ [(18,.bool false),(3,.int .i64 (j:Int)),(1,.pointer (some ⟨b,0,none⟩)),(0,.func (.yield l) #[] #[])] (k+1) from hWG _ _ hA hG
        refine kP (Q:=xb fun E' _=>kS E' [(3,.int .i64 ((W.length:Int)-1-((k+1:Nat):Int))),(1,.pointer (some ⟨b,0,none⟩)),(0,.func (.yield l) #[] #[])]) (S:=[.seg b 0 [.slice (some ⟨g,0,none⟩) W.length c],.seg g 0 (fh W)]) rfl hGS hGa (fun w=>?_) ?_
        ·skip
         refine aa (ae [] rfl ?_)
         refine⟨?_,rfl,rfl,trivial⟩
         exact congrArg some (congrArg (Value.int .i64) ((bU (by omega)).trans (by omega)))
        ·rintro e E2 a2 w2 hA2 hG2 ⟨_,_,_,hq2⟩
         cases e with
         |normal=>exact⟨W.length-(k+1),by omega,k+1,rfl,hlt,hA2.ents _ hq2,hG2⟩
         |_=>exact hq2.elim
     |_=>exact hq.elim
   ·obtain rfl:k=W.length:=by omega
    refine nj (kP (Q:=fun e _ _=>e=.exit 0) (S:=[.seg b 0 [.slice (some ⟨g,0,none⟩) W.length c],.seg g 0 (fh W)]) rfl hGS hGa (fun w=>?_) ?_)
    ·refine ad (aa (ae [] rfl ?_))
     refine aP 8 (v':=.bool false) rfl (congrArg Value.bool (aA (by omega))) ?_
     exact bI rfl (aV rfl)
    ·rintro e E1 a1 w1 hA1 hG1 ⟨_,_,_,rfl⟩
     simp only[Exit.then,Exit.inBlock,if_true]
     exact⟨hA1.defers,_,gD (E:=[]) (hA1.ents [] trivial) rfl _,⟨_,rfl⟩,hG1⟩
  |_=>exact hq.elim
end Go.Proofs.YtpbmihpjgjbndaaGreatDoor
/- Rows that are cut, joined and turned: an item is made the top of its tree, step by step. -/
set_option linter.unusedVariables false
set_option linter.unusedSimpArgs false
namespace Go.Proofs.YtpbmihpjgjbndaaGreatDoor
open Go.RowKit
variable {pf gn cap N:Nat}
theorem Up.get {ns:bj}:∀ {path:List Nat} {x i y:Nat},Up ns x path→path[i]?=some y→(ns y).up=path[i+1]?
 |[],_,_,_,h,_=>h.elim
 |[z],x,0,y,⟨h1,h2⟩,hy=>by
  simp only[List.getElem?_cons_zero,Option.some.injEq] at hy
  subst hy;subst h1;simpa using h2
 |[z],x,i+1,y,_,hy=>by simp at hy
 |z::z'::l,x,0,y,⟨h1,h2,_⟩,hy=>by
  simp only[List.getElem?_cons_zero,Option.some.injEq] at hy
  subst hy;subst h1;simpa using h2
 |z::z'::l,x,i+1,y,⟨_,_,h3⟩,hy=>by
  have:=Up.get (i:=i) (y:=y) h3 (by simpa using hy)
  simpa using this
theorem Up.head {ns:bj} {path:List Nat} {x:Nat} (h:Up ns x path):path[0]?=some x:=by
 match path,h with
 |[z],⟨h1,_⟩=>rw[h1];rfl
 |z::_::_,⟨h1,_⟩=>rw[h1];rfl
theorem mz (ns:bj):∀ (l:List Nat) (x:Nat),dG ns (l++[x])=di (dG ns l) x
 |[],_=>rfl
 |y::l,x=>mz (di ns y) l x
theorem rS (W:List Nat) (i:Nat) (y:Nat) (h:W[i]?=some y):fh (W.take i)++ap [(y:Int)]=fh (W.take (i+1)):=by
 rw[List.take_add_one,h];simp[fh,ap]
theorem v7 (k:Nat) (ns:bj) (hN:cV N ns) (x:Nat) (hx:x<N) (path:List Nat) (hU:Up ns x path) (hpl:path.length≤10000) (ns':bj) (k1:Nat) (hR:u6 (dG ns path.reverse) x ns' k1):
 Fn 277 [.pointer (some ⟨pf,0,none⟩),.int .i64 (x:Int)] (aR (aW pf gn cap N k ns)) ([]++aW pf gn cap N k ns) fun _ H'=>H'=aW pf gn cap N (k+(path.length+k1)) ns':=by
 have hlt:=hU.lt hN hx
 generalize hM:aR _=M
 refine yF Tryz.func277 rfl rfl fun w0=>?_
 refine sU (aa ?_)
 refine bw rfl rfl rfl (fun _=>rfl) fun pb=>?_
 refine ai ?_
 refine sU (aa ?_)
 refine ah [] rfl ?_
 refine bK rfl rfl rfl rfl rfl rfl rfl (fun _=>rfl) fun pg=>?_
 refine mn 1 1 rfl (by decide) ?_
 refine ah [] rfl ?_
 refine ai ?_
 refine sU (ad (aa ?_))
 have hp0:=hU.head
 have hlen:0<path.length:=(List.getElem?_eq_some_iff.1 hp0).1
 (repeat' (first
  |refine ak (gs:=[999]) rfl ?_
  |refine ab [999] (af 1 rfl rfl rfl rfl) rfl ?_
  |refine ab [999] (af 2 rfl rfl rfl rfl) rfl ?_
  |refine ab [999] (aU rfl rfl rfl rfl rfl (by first|assumption|omega)) rfl ?_
  |refine ab [999] (aG 3 rfl rfl rfl rfl rfl (by first|assumption|omega) rfl rfl) rfl ?_))
 refine ai ?_
 have e1:(Value.int IntKind.i64 (x:Int)).cells.toList++[]=fh (path.take (0+1)):=by rw[List.take_add_one,hp0];rfl
 rw[e1]
 refine aP 5 (v':=.int .i64 (enc path[0+1]?)) rfl (congrArg (fun c=>Value.int .i64 (enc c)) (hU.get hp0)) ?_
 refine au ?_
 refine bq (σ:=Nat×Option Addr×Nat) (fun s=>[(5,.int .i64 (enc path[s.1+1]?)),(4,.slice s.2.1 (s.1+1) s.2.2),(2,.pointer (some ⟨pb,0,none⟩)),(1,.int .i64 (x:Int)),(0,.pointer (some ⟨pf,0,none⟩))])
  (fun s=>[.own (.slice s.2.1 (s.1+1) s.2.2) 3 1 (s.1+1) (fh (path.take (s.1+1))),blk pb 328 [.pointer (some ⟨pf,0,none⟩)]]++aW pf gn cap N k ns) (fun s=>s.1<path.length) (fun s=>path.length-s.1) (0,some ⟨pg,0,none⟩,1) [0,1,2,3] ⟨rfl,rfl,rfl,rfl,rfl,trivial⟩ (by decide) rfl hlen ?_
 rintro⟨i,A,c⟩ hi
 simp only at hi ⊢
 refine ad (ad (aa (ae [] rfl ?_)))
 cases hy:path[i+1]? with
 |some y=>
  have hyN:=hlt y (List.mem_of_getElem? hy)
  have hil:i+1<path.length:=(List.getElem?_eq_some_iff.1 hy).1
  refine aP 20 (v':=.bool true) rfl (congrArg Value.bool (az (by simp[enc]))) (bo rfl (av ?_))
  refine ad (au ?_)
  refine aa (ah [] rfl ?_)
  refine bK rfl rfl rfl rfl rfl rfl rfl (fun _=>rfl) fun g4=>?_
  refine be (n:=i+1) (m:=1) (off:=0) (news:=ap [(y:Int)]) 1 0 rfl rfl rfl rfl rfl rfl (by decide) rfl rfl (aL g4 _ _ (0,0)) (fun _=>rfl) rfl rfl (by omega) (by omega) (fun _ _=>rfl) fun A4 c4=>?_
  rw[rS path (i+1) y hy]
  refine ah [] rfl ?_
  refine ai ?_
  show J _ _ _ _ ([_,_,_]++aW pf gn cap N k ns)
  refine aa ?_
  (repeat' (first
   |refine ak (gs:=[999]) rfl ?_
   |refine ab [999] (af 2 rfl rfl rfl rfl) rfl ?_
   |refine ab [999] (af 3 rfl rfl rfl rfl) rfl ?_
   |refine ab [999] (aU rfl rfl rfl rfl rfl (by first|assumption|omega)) rfl ?_
   |refine ab [999] (aG 4 rfl rfl rfl rfl rfl (by first|assumption|omega) rfl rfl) rfl ?_))
  refine ai ?_
  exact⟨(i+1,A4,c4),[1,2,3,4],⟨congrArg some (congrArg (fun c=>Value.int .i64 (enc c)) (hU.get hy)),rfl,rfl,rfl,rfl,trivial⟩,by decide,rfl,hil,by simp only;omega⟩
 |none=>
  have hil:i+1=path.length:=by have:=List.getElem?_eq_none_iff.1 hy;omega
  refine aP 20 (v':=.bool false) rfl (congrArg Value.bool (aA (by simp[enc]))) (bI rfl (aV ?_))
  rw[hil,List.take_length]
  show W _ _ _ _ ([_,_]++aW pf gn cap N k ns)
  clear hi hy hil
  refine yQ ?_
  intro a w hA hH
  obtain⟨gp,rfl⟩:∃ gp,A=some ⟨gp,0,none⟩:=by
   obtain⟨_,_,h3,_⟩:=bh (X:=⟨w0,M,⟨82,[]⟩⟩) 0 rfl w hH
   exact h3 hlen
  revert a w hA hH
  suffices hW:W ⟨w0,M,⟨82,[]⟩⟩ _ _ [(4,.slice (some ⟨gp,0,none⟩) path.length c),(2,.pointer (some ⟨pb,0,none⟩)),(1,.int .i64 (x:Int))] ([.own (.slice (some ⟨gp,0,none⟩) path.length c) 3 1 path.length (fh path),blk pb 328 [.pointer (some ⟨pf,0,none⟩)]]++aW pf gn cap N k ns) from
   fun a w hA hH=>hW a w (hA.ents _ ⟨rfl,rfl,rfl,trivial⟩) hH
  refine sU (aa ?_)
  refine ah [] rfl ?_
  refine ax [] (qQ (some ⟨gp,0,none⟩) path.length c) rfl rfl rfl rfl (by kernel_rfl) trivial (fun _=>rfl) ?_
  rintro v H' ⟨bk,rfl,rfl⟩
  refine⟨rfl,?_⟩
  refine ai ?_
  refine x1 ?_
  refine xw (nr:=path.length) (x:=vR path) (gf:=295) (lb:=[.pointer (some ⟨bk,0,none⟩)]) (S:=[.seg bk 0 [.slice (some ⟨gp,0,none⟩) path.length c],.seg gp 0 (fh path)])
   (fun i=>[blk bk 23 [.slice (some ⟨gp,0,none⟩) path.length c],.own (.slice (some ⟨gp,0,none⟩) path.length c) 3 1 path.length (fh path),blk pb 328 [.pointer (some ⟨pf,0,none⟩)]]++aW pf gn cap N (k+i) (dG ns (path.reverse.take i)))
   rfl (by kernel_rfl) (sf path bk gp c (by omega)) (fun i _=>rfl) rfl ?_ ?_ ?_
  ·intro i W h ch hch
   simp only[List.mem_cons,List.not_mem_nil,or_false] at hch
   rcases hch with rfl|rfl
   ·exact aL _ _ _ _ W (h.holds (blk bk 23 [.slice (some ⟨gp,0,none⟩) path.length c]) (by simp))
   ·exact bX W (h.holds (.own (.slice (some ⟨gp,0,none⟩) path.length c) 3 1 path.length (fh path)) (by simp))
  ·intro r D i rdy bsy hi
   refine n9 rfl ?_
   refine ae [] rfl ⟨rfl,?_⟩
   have hrev:path.reverse[i]?=some (path.getD (path.length-1-i) 0):=by
    rw[List.getElem?_reverse hi,List.getD_eq_getElem?_getD,List.getElem?_eq_getElem (by omega)];rfl
   obtain⟨y,hy⟩:∃ y,path.getD (path.length-1-i) 0=y:=⟨_,rfl⟩
   rw[hy] at hrev
   have hyN:y<N:=hlt y (by have:=List.mem_of_getElem? hrev;simpa using this)
   have hNi:cV N (dG ns (path.reverse.take i)):=hN.pushes fun z hz=>hlt z (by have:=List.mem_of_mem_take hz;simpa using this)
   refine vJ (n9 rfl ?_)
   refine ab [] (af (v:=.pointer (some ⟨pf,0,none⟩)) 4 rfl rfl rfl rfl) rfl ?_
   refine ah [] rfl ?_
   refine aw 38 (v':=.int .i64 (y:Int)) rfl (congrArg (fun z:Nat=>Value.int .i64 (z:Int)) hy) ?_
   refine bY (aK.re (A:=[_,_,_,_,_]++aW pf gn cap N (k+i) (dG ns (path.reverse.take i))) (R:=[]) [5,6,0,1,2,3,4] rfl (by decide)) ?_
   refine ao [] (gY (k+i) _ hNi y hyN) rfl rfl rfl rfl (by kernel_rfl) aK.refl trivial (fun _=>rfl) ?_
   rintro v H' rfl
   refine⟨rfl,ai ⟨[2,3,4,5,6,0,1],by decide,?_⟩⟩
   rw[List.take_add_one,hrev]
   show _=some (_::_::([_,_,_]++aW pf gn cap N (k+i+1) (dG ns (path.reverse.take i++[y]))))
   rw[mz]
   rfl
  ·intro D a w hA hH
   have hfull:path.reverse.take path.length=path.reverse:=List.take_of_length_le (by simp)
   rw[hfull] at hH
   show Code.wp Tryz.prog _ _ a w
   refine zu (fn:=Tryz.f277) (E:=[(2,.pointer (some ⟨pb,0,none⟩)),(1,.int .i64 (x:Int))]) (H:=aW pf gn cap N (k+path.length) (dG ns path.reverse)++[.obj D sq,blk pb 328 [.pointer (some ⟨pf,0,none⟩)]]) (D:=D) (Rr:=fun _ H'=>H'=aW pf gn cap N (k+(path.length+k1)) ns') ?_ (hA.ents _ ⟨rfl,rfl,trivial⟩) (hH.picks [4,5,0,3] (by decide) rfl)
   have hN0:cV N (dG ns path.reverse):=hN.pushes fun z hz=>hlt z (by simpa using hz)
   refine au ?_
   refine bq (σ:=bj×Nat) (fun _=>[(2,.pointer (some ⟨pb,0,none⟩)),(1,.int .i64 (x:Int))])
    (fun s=>aW pf gn cap N (k+path.length+(k1-s.2)) s.1++[.obj D sq,blk pb 328 [.pointer (some ⟨pf,0,none⟩)]]) (fun s=>cV N s.1∧u6 s.1 x ns' s.2∧s.2≤k1) (fun s=>s.2) (dG ns path.reverse,k1) [0,1,2,3] ⟨rfl,rfl,trivial⟩ (by decide) ?_ ⟨hN0,hR,Nat.le_refl _⟩ ?_
   ·simp only[Nat.sub_self,Nat.add_zero];rfl
   rintro⟨m,j⟩ ⟨hNm,hRm,hj⟩
   simp only at hNm hRm hj ⊢
   refine ad (ad (aa ?_))
   (repeat' (first
    |refine ak (gs:=[999]) rfl ?_
    |refine ab [999] (af 3 rfl rfl rfl rfl) rfl ?_
    |refine ab [999] (af 0 rfl rfl rfl rfl) rfl ?_
    |refine ab [999] (aU rfl rfl rfl rfl rfl (by first|assumption|omega)) rfl ?_
    |refine ab [999] (aG 1 rfl rfl rfl rfl rfl (by first|assumption|omega) rfl rfl) rfl ?_))
   refine ai ?_
   cases hRm with
   |done hup=>
    refine aP 48 (v':=.bool false) rfl (congrArg Value.bool (aA (by show ¬ enc (ns' x).up≠-1;rw[hup];simp[enc]))) (bI rfl (aV ?_))
    refine⟨.inl rfl,aW pf gn cap N (k+path.length+(k1-0)) ns',[2,0,1],by decide,rfl,[],rfl,?_⟩
    show _=aW _ _ _ _ _ _
    rw[show k+path.length+(k1-0)=k+(path.length+k1) by omega]
   |one hup hup2 hrest=>
    rename_i p j
    have hpN:p<N:=by have:=hNm.up x hx;rw[hup] at this;exact this
    refine aP 48 (v':=.bool true) rfl (congrArg Value.bool (az (by show enc (m x).up≠-1;rw[hup];simp[enc]))) (bo rfl (av ?_))
    refine au (ad (aa ?_))
    (repeat' (first
     |refine ak (gs:=[999]) rfl ?_
     |refine ab [999] (af 3 rfl rfl rfl rfl) rfl ?_
     |refine ab [999] (af 0 rfl rfl rfl rfl) rfl ?_
     |refine ab [999] (aU rfl rfl rfl rfl rfl (by first|assumption|omega)) rfl ?_
     |refine ab [999] (aG 1 rfl rfl rfl rfl rfl (by first|assumption|omega) rfl rfl) rfl ?_))
    refine ai ?_
    refine aP 8 (v':=.int .i64 (p:Int)) rfl (congrArg (Value.int .i64) (du hup)) ?_
    refine ad (ad (aa ?_))
    (repeat' (first
     |refine ak (gs:=[999]) rfl ?_
     |refine ab [999] (af 3 rfl rfl rfl rfl) rfl ?_
     |refine ab [999] (af 0 rfl rfl rfl rfl) rfl ?_
     |refine ab [999] (aU rfl rfl rfl rfl rfl (by first|assumption|omega)) rfl ?_
     |refine ab [999] (aG 1 rfl rfl rfl rfl rfl (by first|assumption|omega) rfl rfl) rfl ?_))
    refine ai ?_
    refine aP 65 (v':=.bool false) rfl (congrArg Value.bool (aA (by show ¬ enc (m p).up≠-1;rw[hup2];simp[enc]))) (bI rfl (av ?_))
    refine aa ?_
    refine ab [] (af 3 rfl rfl rfl rfl) rfl ?_
    refine ah [] rfl ?_
    refine ao [] (gX _ m hNm x p hx hup) rfl rfl rfl rfl (by kernel_rfl) aK.refl trivial (fun _=>rfl) ?_
    rintro v H' rfl
    refine⟨rfl,ai ?_⟩
    refine⟨(cz m x p,j),[0,1,2,3],⟨rfl,rfl,trivial⟩,by decide,?_,⟨hNm.rotate hx hpN,hrest,by omega⟩,by simp only;omega⟩
    show some (aW _ _ _ _ (k+path.length+(k1-(j+1))+1) _++_)=_
    rw[show k+path.length+(k1-(j+1))+1=k+path.length+(k1-j) by omega]
   |line hup hup2 hs hq hrest=>
    rename_i p g q j
    have hpN:p<N:=by have:=hNm.up x hx;rw[hup] at this;exact this
    refine aP 48 (v':=.bool true) rfl (congrArg Value.bool (az (by show enc (m x).up≠-1;rw[hup];simp[enc]))) (bo rfl (av ?_))
    refine au (ad (aa ?_))
    (repeat' (first
     |refine ak (gs:=[999]) rfl ?_
     |refine ab [999] (af 3 rfl rfl rfl rfl) rfl ?_
     |refine ab [999] (af 0 rfl rfl rfl rfl) rfl ?_
     |refine ab [999] (aU rfl rfl rfl rfl rfl (by first|assumption|omega)) rfl ?_
     |refine ab [999] (aG 1 rfl rfl rfl rfl rfl (by first|assumption|omega) rfl rfl) rfl ?_))
    refine ai ?_
    refine aP 8 (v':=.int .i64 (p:Int)) rfl (congrArg (Value.int .i64) (du hup)) ?_
    refine ad (ad (aa ?_))
    (repeat' (first
     |refine ak (gs:=[999]) rfl ?_
     |refine ab [999] (af 3 rfl rfl rfl rfl) rfl ?_
     |refine ab [999] (af 0 rfl rfl rfl rfl) rfl ?_
     |refine ab [999] (aU rfl rfl rfl rfl rfl (by first|assumption|omega)) rfl ?_
     |refine ab [999] (aG 1 rfl rfl rfl rfl rfl (by first|assumption|omega) rfl rfl) rfl ?_))
    refine ai ?_
    refine aP 65 (v':=.bool true) rfl (congrArg Value.bool (az (by show enc (m p).up≠-1;rw[hup2];simp[enc]))) (bo rfl ?_)
    refine ad ?_
    refine bp 7 [(0,true),(1,true),(3,true),(4,true),(2,false),(5,false),(6,true)] [0,1,2,3] (by kernel_rfl) (by decide) rfl ?_
    (repeat' (first
     |refine aZ (gs:=[999]) rfl rfl ?_
     |refine aj [999] rfl (af 3 rfl rfl rfl rfl) rfl ?_))
    refine a6 rfl ?_
    refine ao [] (jq _ m hNm x p hx hup) rfl rfl rfl rfl (by kernel_rfl) aK.refl trivial (fun _=>rfl) ?_
    rintro v H' ⟨rfl,rfl⟩
    refine⟨rfl,?_⟩
    refine ai ⟨⟨[0,1,2,3],by decide,rfl⟩,?_⟩
    refine a6 rfl ?_
    refine ao [] (jq _ m hNm p g hpN hup2) rfl rfl rfl rfl (by kernel_rfl) aK.refl trivial (fun _=>rfl) ?_
    rintro v H' ⟨rfl,rfl⟩
    refine⟨rfl,?_⟩
    refine ai ⟨⟨[0,1,2,3],by decide,rfl⟩,?_⟩
    (repeat' (refine aZ (gs:=[999]) rfl rfl ?_))
    refine bv ?_
    refine ai ?_
    refine aP 72 (v':=.bool true) rfl (congrArg Value.bool (az (by rw[hs]))) (bo rfl ?_)
    have hgN:g<N:=by have:=hNm.up p hpN;rw[hup2] at this;exact this
    have hN2:=hNm.rotate hpN hgN
    refine aa ?_
    refine ab [] (af 3 rfl rfl rfl rfl) rfl ?_
    refine ah [] rfl ?_
    refine ao [] (gX _ m hNm p g hpN hup2) rfl rfl rfl rfl (by kernel_rfl) aK.refl trivial (fun _=>rfl) ?_
    rintro v H' rfl
    refine⟨rfl,ai ?_⟩
    refine aa ?_
    refine ab [] (af 3 rfl rfl rfl rfl) rfl ?_
    refine ah [] rfl ?_
    refine ao [] (gX _ (cz m p g) hN2 x q hx hq) rfl rfl rfl rfl (by kernel_rfl) aK.refl trivial (fun _=>rfl) ?_
    rintro v H' rfl
    refine⟨rfl,ai ?_⟩
    have hqN:q<N:=by have:=hN2.up x hx;rw[hq] at this;exact this
    refine⟨(cz (cz m p g) x q,j),[0,1,2,3],⟨rfl,rfl,trivial⟩,by decide,?_,⟨hN2.rotate hx hqN,hrest,by omega⟩,by simp only;omega⟩
    show some (aW _ _ _ _ (k+path.length+(k1-(j+2))+1+1) _++_)=_
    rw[show k+path.length+(k1-(j+2))+1+1=k+path.length+(k1-j) by omega]
   |bent hup hup2 hs hq hrest=>
    rename_i p g q j
    have hpN:p<N:=by have:=hNm.up x hx;rw[hup] at this;exact this
    refine aP 48 (v':=.bool true) rfl (congrArg Value.bool (az (by show enc (m x).up≠-1;rw[hup];simp[enc]))) (bo rfl (av ?_))
    refine au (ad (aa ?_))
    (repeat' (first
     |refine ak (gs:=[999]) rfl ?_
     |refine ab [999] (af 3 rfl rfl rfl rfl) rfl ?_
     |refine ab [999] (af 0 rfl rfl rfl rfl) rfl ?_
     |refine ab [999] (aU rfl rfl rfl rfl rfl (by first|assumption|omega)) rfl ?_
     |refine ab [999] (aG 1 rfl rfl rfl rfl rfl (by first|assumption|omega) rfl rfl) rfl ?_))
    refine ai ?_
    refine aP 8 (v':=.int .i64 (p:Int)) rfl (congrArg (Value.int .i64) (du hup)) ?_
    refine ad (ad (aa ?_))
    (repeat' (first
     |refine ak (gs:=[999]) rfl ?_
     |refine ab [999] (af 3 rfl rfl rfl rfl) rfl ?_
     |refine ab [999] (af 0 rfl rfl rfl rfl) rfl ?_
     |refine ab [999] (aU rfl rfl rfl rfl rfl (by first|assumption|omega)) rfl ?_
     |refine ab [999] (aG 1 rfl rfl rfl rfl rfl (by first|assumption|omega) rfl rfl) rfl ?_))
    refine ai ?_
    refine aP 65 (v':=.bool true) rfl (congrArg Value.bool (az (by show enc (m p).up≠-1;rw[hup2];simp[enc]))) (bo rfl ?_)
    refine ad ?_
    refine bp 7 [(0,true),(1,true),(3,true),(4,true),(2,false),(5,false),(6,true)] [0,1,2,3] (by kernel_rfl) (by decide) rfl ?_
    (repeat' (first
     |refine aZ (gs:=[999]) rfl rfl ?_
     |refine aj [999] rfl (af 3 rfl rfl rfl rfl) rfl ?_))
    refine a6 rfl ?_
    refine ao [] (jq _ m hNm x p hx hup) rfl rfl rfl rfl (by kernel_rfl) aK.refl trivial (fun _=>rfl) ?_
    rintro v H' ⟨rfl,rfl⟩
    refine⟨rfl,?_⟩
    refine ai ⟨⟨[0,1,2,3],by decide,rfl⟩,?_⟩
    refine a6 rfl ?_
    refine ao [] (jq _ m hNm p g hpN hup2) rfl rfl rfl rfl (by kernel_rfl) aK.refl trivial (fun _=>rfl) ?_
    rintro v H' ⟨rfl,rfl⟩
    refine⟨rfl,?_⟩
    refine ai ⟨⟨[0,1,2,3],by decide,rfl⟩,?_⟩
    (repeat' (refine aZ (gs:=[999]) rfl rfl ?_))
    refine bv ?_
    refine ai ?_
    refine aP 72 (v':=.bool false) rfl (congrArg Value.bool (aA (by omega))) (bI rfl ?_)
    have hN2:=hNm.rotate hx hpN
    refine aa ?_
    refine ab [] (af 3 rfl rfl rfl rfl) rfl ?_
    refine ah [] rfl ?_
    refine ao [] (gX _ m hNm x p hx hup) rfl rfl rfl rfl (by kernel_rfl) aK.refl trivial (fun _=>rfl) ?_
    rintro v H' rfl
    refine⟨rfl,ai ?_⟩
    refine aa ?_
    refine ab [] (af 3 rfl rfl rfl rfl) rfl ?_
    refine ah [] rfl ?_
    refine ao [] (gX _ (cz m x p) hN2 x q hx hq) rfl rfl rfl rfl (by kernel_rfl) aK.refl trivial (fun _=>rfl) ?_
    rintro v H' rfl
    refine⟨rfl,ai ?_⟩
    have hqN:q<N:=by have:=hN2.up x hx;rw[hq] at this;exact this
    refine⟨(cz (cz m x p) x q,j),[0,1,2,3],⟨rfl,rfl,trivial⟩,by decide,?_,⟨hN2.rotate hx hqN,hrest,by omega⟩,by simp only;omega⟩
    show some (aW _ _ _ _ (k+path.length+(k1-(j+2))+1+1) _++_)=_
    rw[show k+path.length+(k1-(j+2))+1+1=k+path.length+(k1-j) by omega]
end Go.Proofs.YtpbmihpjgjbndaaGreatDoor
/- Rows that are cut, joined and turned: their ends, step by step. -/
set_option linter.unusedVariables false
set_option linter.unusedSimpArgs false
namespace Go.Proofs.YtpbmihpjgjbndaaGreatDoor
open Go.RowKit
variable {pf gn cap N:Nat}
theorem dd (k:Nat) (ns:bj) (hN:cV N ns) (x:Nat) (hx:x<N) (ns':bj) (j:Nat) (h:dQ ns x ns' j):
 Fn 277 [.pointer (some ⟨pf,0,none⟩),.int .i64 (x:Int)] (aR (aW pf gn cap N k ns)) ([]++aW pf gn cap N k ns) fun _ H'=>H'=aW pf gn cap N (k+j) ns':=by
 obtain⟨path,k1,h1,h2,h3,rfl⟩:=h
 exact v7 k ns hN x hx path h1 h2 ns' k1 h3
theorem dL (k:Nat) (ns:bj) (x:Nat) (hx:x<N):Fn 276 [.pointer (some ⟨pf,0,none⟩),.int .i64 (x:Int)] (aR (aW pf gn cap N k ns)) ([]++aW pf gn cap N k ns)
 fun v H'=>v=.bool true∧H'=aW pf gn cap N k ns:=by
 generalize hM:aR _=M
 refine aS Tryz.func276 rfl rfl fun w0=>?_
 refine ad (aa (ae [] rfl ?_))
 refine ad (aa (ah [] rfl ?_))
 refine aw 7 (v':=.bool true) rfl (congrArg Value.bool (az (by omega))) ?_
 (repeat' (first
  |refine ai ?_
  |refine ak (gs:=[999]) rfl ?_
  |refine ab [999] (af 0 rfl rfl rfl rfl) rfl ?_
  |refine ab [999] (aU rfl rfl rfl rfl rfl (by first|assumption|omega)) rfl ?_
  |refine ab [999] (am (m:=0) rfl rfl rfl rfl rfl (by decide)) rfl ?_
  |refine ab [999] (am (m:=1) rfl rfl rfl rfl rfl (by decide)) rfl ?_
  |refine ab [999] (aN 1 rfl rfl rfl rfl (by first|assumption|omega) (by first|assumption|omega)) rfl ?_
  |refine ab [999] (aG 1 rfl rfl rfl rfl rfl (by first|assumption|omega) rfl rfl) rfl ?_))
 refine aP 4 (v':=.bool true) rfl (congrArg Value.bool (az (by omega))) ?_
 exact aB ⟨_,rfl,rfl,rfl⟩
theorem me (k:Nat) (ns:bj) (hN:cV N ns) (x:Nat) (hx:x<N) (s:Nat) (hs:s<2) (ns':bj) (y j:Nat) (h:yG s ns x ns' y j):
 Fn 278 [.pointer (some ⟨pf,0,none⟩),.int .i64 (x:Int),.int .i64 (s:Int)] (aR (aW pf gn cap N k ns)) ([]++aW pf gn cap N k ns) fun v H'=>v=.int .i64 (y:Int)∧H'=aW pf gn cap N (k+j) ns':=by
 obtain⟨ns1,k1,k2,hd,hS,rfl⟩:=h
 generalize hM:aR _=M
 refine aS Tryz.func278 rfl rfl fun w0=>?_
 refine ad (aa (ae [] rfl ?_))
 refine d7 [(1,.int .i64 (y:Int)),(0,.pointer (some ⟨pf,0,none⟩))] (aW pf gn cap N (k+k1) ns1) ?_ ?_
 ·refine au ?_
  refine bq (σ:=bj×Nat×Nat) (fun t=>[(2,.int .i64 (s:Int)),(1,.int .i64 (t.2.1:Int)),(0,.pointer (some ⟨pf,0,none⟩))])
   (fun t=>aW pf gn cap N (k+(k1-t.2.2)) t.1) (fun t=>cV N t.1∧t.2.1<N∧yD s t.1 t.2.1 ns1 y t.2.2∧t.2.2≤k1) (fun t=>t.2.2) (ns,x,k1) [0,1] ⟨rfl,rfl,rfl,trivial⟩ (by decide) ?_ ⟨hN,hx,hd,Nat.le_refl _⟩ ?_
  ·simp only[Nat.sub_self,Nat.add_zero];rfl
  rintro⟨m,z,j⟩ ⟨hNm,hz,hdm,hj⟩
  simp only at hNm hz hdm hj ⊢
  refine ad (ad (aa ?_))
  (repeat' (first
   |refine ai ?_
   |refine ak (gs:=[999]) rfl ?_
   |refine ab [999] (af 0 rfl rfl rfl rfl) rfl ?_
   |refine ab [999] (aU rfl rfl rfl rfl rfl (by first|assumption|omega)) rfl ?_
   |refine ab [999] (am (m:=0) rfl rfl rfl rfl rfl (by decide)) rfl ?_
   |refine ab [999] (am (m:=1) rfl rfl rfl rfl rfl (by decide)) rfl ?_
   |refine ab [999] (aN 1 rfl rfl rfl rfl (by first|assumption|omega) (by first|assumption|omega)) rfl ?_
   |refine ab [999] (aG 1 rfl rfl rfl rfl rfl (by first|assumption|omega) rfl rfl) rfl ?_))
  refine ab [] (am rfl rfl rfl rfl rfl hs) rfl ?_
  (repeat' (first
   |refine ai ?_
   |refine ak (gs:=[999]) rfl ?_
   |refine ab [999] (af 0 rfl rfl rfl rfl) rfl ?_
   |refine ab [999] (aU rfl rfl rfl rfl rfl (by first|assumption|omega)) rfl ?_
   |refine ab [999] (am (m:=0) rfl rfl rfl rfl rfl (by decide)) rfl ?_
   |refine ab [999] (am (m:=1) rfl rfl rfl rfl rfl (by decide)) rfl ?_
   |refine ab [999] (aN 1 rfl rfl rfl rfl (by first|assumption|omega) (by first|assumption|omega)) rfl ?_
   |refine ab [999] (aG 1 rfl rfl rfl rfl rfl (by first|assumption|omega) rfl rfl) rfl ?_))
  cases hdm with
  |done h0=>
   refine aP 17 (v':=.bool false) rfl (congrArg Value.bool (aA (by rw[h0];simp[enc]))) (bI rfl (aV ?_))
   exact⟨[0,1],⟨rfl,rfl,trivial⟩,by decide,rfl⟩
  |go h1 h2=>
   rename_i c j
   have hc:=hNm.down hz s
   rw[h1] at hc
   refine aP 17 (v':=.bool true) rfl (congrArg Value.bool (az (by rw[h1];simp[enc]))) (bo rfl (av ?_))
   refine au (ad (aa ?_))
   (repeat' (first
    |refine ai ?_
    |refine ak (gs:=[999]) rfl ?_
    |refine ab [999] (af 0 rfl rfl rfl rfl) rfl ?_
    |refine ab [999] (aU rfl rfl rfl rfl rfl (by first|assumption|omega)) rfl ?_
    |refine ab [999] (am (m:=0) rfl rfl rfl rfl rfl (by decide)) rfl ?_
    |refine ab [999] (am (m:=1) rfl rfl rfl rfl rfl (by decide)) rfl ?_
    |refine ab [999] (aN 1 rfl rfl rfl rfl (by first|assumption|omega) (by first|assumption|omega)) rfl ?_
    |refine ab [999] (aG 1 rfl rfl rfl rfl rfl (by first|assumption|omega) rfl rfl) rfl ?_))
   refine ab [] (am rfl rfl rfl rfl rfl hs) rfl ?_
   (repeat' (first
    |refine ai ?_
    |refine ak (gs:=[999]) rfl ?_
    |refine ab [999] (af 0 rfl rfl rfl rfl) rfl ?_
    |refine ab [999] (aU rfl rfl rfl rfl rfl (by first|assumption|omega)) rfl ?_
    |refine ab [999] (am (m:=0) rfl rfl rfl rfl rfl (by decide)) rfl ?_
    |refine ab [999] (am (m:=1) rfl rfl rfl rfl rfl (by decide)) rfl ?_
    |refine ab [999] (aN 1 rfl rfl rfl rfl (by first|assumption|omega) (by first|assumption|omega)) rfl ?_
    |refine ab [999] (aG 1 rfl rfl rfl rfl rfl (by first|assumption|omega) rfl rfl) rfl ?_))
   refine aP 1 (v':=.int .i64 (c:Int)) rfl (congrArg (Value.int .i64) (du h1)) ?_
   refine aa (ah [] rfl ?_)
   refine ao [] (gY _ m hNm c hc) rfl rfl rfl rfl (by kernel_rfl) aK.refl trivial (fun _=>rfl) ?_
   rintro v H' rfl
   refine⟨rfl,ai ?_⟩
   refine⟨(di m c,c,j),[0,1],⟨rfl,rfl,rfl,trivial⟩,by decide,?_,⟨hNm.push hc,hc,h2,by show j≤k1;omega⟩,by show j<j+1;omega⟩
   show some (aW _ _ _ _ (k+(k1-(j+1))+1) _)=_
   rw[show k+(k1-(j+1))+1=k+(k1-j) by omega]
 ·obtain⟨hN1,hy⟩:=cV.dwn hd hx hN
  refine ad (aa (ah [] rfl ?_))
  refine ao [] (dd _ _ hN1 _ hy _ _ hS) rfl rfl rfl rfl (by kernel_rfl) aK.refl trivial (fun _=>rfl) ?_
  rintro v H' rfl
  refine⟨rfl,ai ?_⟩
  refine ad (aa (ae [] rfl ?_))
  refine aB ⟨_,rfl,rfl,?_⟩
  show aW _ _ _ _ (k+k1+k2) _=_
  rw[Nat.add_assoc]
theorem um (k:Nat) (ns:bj) (hN:cV N ns) (x:Nat) (hx:x<N) (ns':bj) (y j:Nat) (h:Edge 0 ns x ns' y j):
 Fn 287 [.pointer (some ⟨pf,0,none⟩),.int .i64 (x:Int)] (aR (aW pf gn cap N k ns)) ([]++aW pf gn cap N k ns) fun v H'=>v=.int .i64 (y:Int)∧H'=aW pf gn cap N (k+j) ns':=by
 obtain⟨ns1,k1,k2,hS,hE,rfl⟩:=h
 generalize hM:aR _=M
 refine aS Tryz.func287 rfl rfl fun w0=>?_
 refine ad (aa (ae [] rfl ?_))
 refine ad (ad (aa (ah [] rfl ?_)))
 refine ao [] (dL _ _ _ hx) rfl rfl rfl rfl (by kernel_rfl) aK.refl trivial (fun _=>rfl) ?_
 rintro v H' ⟨rfl,rfl⟩
 refine⟨rfl,?_⟩
 (repeat' (first
  |refine ai ?_
  |refine ak (gs:=[999]) rfl ?_
  |refine ab [999] (af 0 rfl rfl rfl rfl) rfl ?_
  |refine ab [999] (aU rfl rfl rfl rfl rfl (by first|assumption|omega)) rfl ?_
  |refine ab [999] (am (m:=0) rfl rfl rfl rfl rfl (by decide)) rfl ?_
  |refine ab [999] (am (m:=1) rfl rfl rfl rfl rfl (by decide)) rfl ?_
  |refine ab [999] (aN 1 rfl rfl rfl rfl (by first|assumption|omega) (by first|assumption|omega)) rfl ?_
  |refine ab [999] (aG 1 rfl rfl rfl rfl rfl (by first|assumption|omega) rfl rfl) rfl ?_))
 refine bI rfl ?_
 refine av (ad (aa (ah [] rfl ?_)))
 refine ao [] (dd _ _ hN _ hx _ _ hS) rfl rfl rfl rfl (by kernel_rfl) aK.refl trivial (fun _=>rfl) ?_
 rintro v H' rfl
 refine⟨rfl,ai ?_⟩
 refine ad (aa (ah [] rfl ?_))
 refine ao [] (me _ ns1 (hN.splay hx hS) x hx 0 (by decide) ns' y k2 hE) rfl rfl rfl rfl (by kernel_rfl) aK.refl trivial (fun _=>rfl) ?_
 rintro v H' ⟨rfl,rfl⟩
 refine⟨rfl,?_⟩
 (repeat' (first
  |refine ai ?_
  |refine ak (gs:=[999]) rfl ?_
  |refine ab [999] (af 0 rfl rfl rfl rfl) rfl ?_
  |refine ab [999] (aU rfl rfl rfl rfl rfl (by first|assumption|omega)) rfl ?_
  |refine ab [999] (am (m:=0) rfl rfl rfl rfl rfl (by decide)) rfl ?_
  |refine ab [999] (am (m:=1) rfl rfl rfl rfl rfl (by decide)) rfl ?_
  |refine ab [999] (aN 1 rfl rfl rfl rfl (by first|assumption|omega) (by first|assumption|omega)) rfl ?_
  |refine ab [999] (aG 1 rfl rfl rfl rfl rfl (by first|assumption|omega) rfl rfl) rfl ?_))
 refine aB ⟨_,rfl,rfl,?_⟩
 show aW _ _ _ _ (k+k1+k2) _=_
 rw[Nat.add_assoc]
theorem m0 (k:Nat) (ns:bj) (hN:cV N ns) (x:Nat) (hx:x<N) (ns':bj) (y j:Nat) (h:Edge 1 ns x ns' y j):
 Fn 264 [.pointer (some ⟨pf,0,none⟩),.int .i64 (x:Int)] (aR (aW pf gn cap N k ns)) ([]++aW pf gn cap N k ns) fun v H'=>v=.int .i64 (y:Int)∧H'=aW pf gn cap N (k+j) ns':=by
 obtain⟨ns1,k1,k2,hS,hE,rfl⟩:=h
 generalize hM:aR _=M
 refine aS Tryz.func264 rfl rfl fun w0=>?_
 refine ad (aa (ae [] rfl ?_))
 refine ad (ad (aa (ah [] rfl ?_)))
 refine ao [] (dL _ _ _ hx) rfl rfl rfl rfl (by kernel_rfl) aK.refl trivial (fun _=>rfl) ?_
 rintro v H' ⟨rfl,rfl⟩
 refine⟨rfl,?_⟩
 (repeat' (first
  |refine ai ?_
  |refine ak (gs:=[999]) rfl ?_
  |refine ab [999] (af 0 rfl rfl rfl rfl) rfl ?_
  |refine ab [999] (aU rfl rfl rfl rfl rfl (by first|assumption|omega)) rfl ?_
  |refine ab [999] (am (m:=0) rfl rfl rfl rfl rfl (by decide)) rfl ?_
  |refine ab [999] (am (m:=1) rfl rfl rfl rfl rfl (by decide)) rfl ?_
  |refine ab [999] (aN 1 rfl rfl rfl rfl (by first|assumption|omega) (by first|assumption|omega)) rfl ?_
  |refine ab [999] (aG 1 rfl rfl rfl rfl rfl (by first|assumption|omega) rfl rfl) rfl ?_))
 refine bI rfl ?_
 refine av (ad (aa (ah [] rfl ?_)))
 refine ao [] (dd _ _ hN _ hx _ _ hS) rfl rfl rfl rfl (by kernel_rfl) aK.refl trivial (fun _=>rfl) ?_
 rintro v H' rfl
 refine⟨rfl,ai ?_⟩
 refine ad (aa (ah [] rfl ?_))
 refine ao [] (me _ ns1 (hN.splay hx hS) x hx 1 (by decide) ns' y k2 hE) rfl rfl rfl rfl (by kernel_rfl) aK.refl trivial (fun _=>rfl) ?_
 rintro v H' ⟨rfl,rfl⟩
 refine⟨rfl,?_⟩
 (repeat' (first
  |refine ai ?_
  |refine ak (gs:=[999]) rfl ?_
  |refine ab [999] (af 0 rfl rfl rfl rfl) rfl ?_
  |refine ab [999] (aU rfl rfl rfl rfl rfl (by first|assumption|omega)) rfl ?_
  |refine ab [999] (am (m:=0) rfl rfl rfl rfl rfl (by decide)) rfl ?_
  |refine ab [999] (am (m:=1) rfl rfl rfl rfl rfl (by decide)) rfl ?_
  |refine ab [999] (aN 1 rfl rfl rfl rfl (by first|assumption|omega) (by first|assumption|omega)) rfl ?_
  |refine ab [999] (aG 1 rfl rfl rfl rfl rfl (by first|assumption|omega) rfl rfl) rfl ?_))
 refine aB ⟨_,rfl,rfl,?_⟩
 show aW _ _ _ _ (k+k1+k2) _=_
 rw[Nat.add_assoc]
end Go.Proofs.YtpbmihpjgjbndaaGreatDoor
/- Rows that are cut, joined and turned: what is asked and changed of a whole row, step by step. -/
set_option linter.unusedVariables false
set_option linter.unusedSimpArgs false
namespace Go.Proofs.YtpbmihpjgjbndaaGreatDoor
open Go.RowKit
variable {pf gn cap N:Nat}
theorem vw (k:Nat) (ns:bj) (hN:cV N ns) (x:Nat) (hx:x<N) (ns':bj) (j:Nat) (h:dQ ns x ns' j):
 Fn 279 [.pointer (some ⟨pf,0,none⟩),.int .i64 (x:Int)] (aR (aW pf gn cap N k ns)) ([]++aW pf gn cap N k ns) fun v H'=>v=.int .i64 (ns' x).value∧H'=aW pf gn cap N (k+j) ns':=by
 generalize hM:aR _=M
 refine aS Tryz.func279 rfl rfl fun w0=>?_
 refine ad (aa (ae [] rfl ?_))
 refine ad (ad (aa (ah [] rfl ?_)))
 refine ao [] (dL _ _ _ hx) rfl rfl rfl rfl (by kernel_rfl) aK.refl trivial (fun _=>rfl) ?_
 rintro v H' ⟨rfl,rfl⟩
 refine⟨rfl,?_⟩
 (repeat' (first
  |refine ai ?_
  |refine ak (gs:=[999]) rfl ?_
  |refine ab [999] (af 0 rfl rfl rfl rfl) rfl ?_
  |refine ab [999] (aU rfl rfl rfl rfl rfl (by first|assumption|omega)) rfl ?_
  |refine ab [999] (am (m:=0) rfl rfl rfl rfl rfl (by decide)) rfl ?_
  |refine ab [999] (am (m:=1) rfl rfl rfl rfl rfl (by decide)) rfl ?_
  |refine ab [999] (aN 1 rfl rfl rfl rfl (by first|assumption|omega) (by first|assumption|omega)) rfl ?_
  |refine ab [999] (aG 1 rfl rfl rfl rfl rfl (by first|assumption|omega) rfl rfl) rfl ?_))
 refine bI rfl ?_
 refine av (ad (aa (ah [] rfl ?_)))
 refine ao [] (dd _ _ hN _ hx _ _ h) rfl rfl rfl rfl (by kernel_rfl) aK.refl trivial (fun _=>rfl) ?_
 rintro v H' rfl
 refine⟨rfl,ai ?_⟩
 refine ad (aa ?_)
 (repeat' (first
  |refine ai ?_
  |refine ak (gs:=[999]) rfl ?_
  |refine ab [999] (af 0 rfl rfl rfl rfl) rfl ?_
  |refine ab [999] (aU rfl rfl rfl rfl rfl (by first|assumption|omega)) rfl ?_
  |refine ab [999] (am (m:=0) rfl rfl rfl rfl rfl (by decide)) rfl ?_
  |refine ab [999] (am (m:=1) rfl rfl rfl rfl rfl (by decide)) rfl ?_
  |refine ab [999] (aN 1 rfl rfl rfl rfl (by first|assumption|omega) (by first|assumption|omega)) rfl ?_
  |refine ab [999] (aG 1 rfl rfl rfl rfl rfl (by first|assumption|omega) rfl rfl) rfl ?_))
 exact aB ⟨_,rfl,rfl,rfl⟩
theorem qK (k:Nat) (ns:bj) (hN:cV N ns) (x:Nat) (hx:x<N) (ns':bj) (j:Nat) (h:dQ ns x ns' j):
 Fn 280 [.pointer (some ⟨pf,0,none⟩),.int .i64 (x:Int)] (aR (aW pf gn cap N k ns)) ([]++aW pf gn cap N k ns) fun _ H'=>H'=aW pf gn cap N (k+j) (eB ns' (some x) 0 true):=by
 generalize hM:aR _=M
 refine aS Tryz.func280 rfl rfl fun w0=>?_
 refine ad (aa (ah [] rfl ?_))
 refine ao [] (dL _ _ _ hx) rfl rfl rfl rfl (by kernel_rfl) aK.refl trivial (fun _=>rfl) ?_
 rintro v H' ⟨rfl,rfl⟩
 refine⟨rfl,?_⟩
 (repeat' (first
  |refine ai ?_
  |refine ak (gs:=[999]) rfl ?_
  |refine ab [999] (af 0 rfl rfl rfl rfl) rfl ?_
  |refine ab [999] (aU rfl rfl rfl rfl rfl (by first|assumption|omega)) rfl ?_
  |refine ab [999] (am (m:=0) rfl rfl rfl rfl rfl (by decide)) rfl ?_
  |refine ab [999] (am (m:=1) rfl rfl rfl rfl rfl (by decide)) rfl ?_
  |refine ab [999] (aN 1 rfl rfl rfl rfl (by first|assumption|omega) (by first|assumption|omega)) rfl ?_
  |refine ab [999] (aG 1 rfl rfl rfl rfl rfl (by first|assumption|omega) rfl rfl) rfl ?_))
 refine bo rfl ?_
 refine ad (aa (ah [] rfl ?_))
 refine ao [] (dd _ _ hN _ hx _ _ h) rfl rfl rfl rfl (by kernel_rfl) aK.refl trivial (fun _=>rfl) ?_
 rintro v H' rfl
 refine⟨rfl,ai ?_⟩
 refine aa (ah [] rfl ?_)
 refine ao [] (l8 _ ns' (some x) hx 0 true) rfl rfl rfl rfl (by kernel_rfl) aK.refl trivial (fun _=>rfl) ?_
 rintro v H' rfl
 refine⟨rfl,ai ?_⟩
 exact⟨_,rfl,rfl⟩
theorem nQ (k:Nat) (ns:bj) (hN:cV N ns) (x:Nat) (hx:x<N) (ns':bj) (j:Nat) (h:dQ ns x ns' j):
 Fn 286 [.pointer (some ⟨pf,0,none⟩),.int .i64 (x:Int)] (aR (aW pf gn cap N k ns)) ([]++aW pf gn cap N k ns) fun _ H'=>H'=aW pf gn cap N (k+j) (match (ns' x).l with
  |none=>ns'
  |some c=>ek (e7 (e7 ns' c { ns' c with up:=none }) x (bW (e7 ns' c { ns' c with up:=none } x) 0 none)) x):=by
 have hN':=hN.splay hx h
 generalize hM:aR _=M
 refine aS Tryz.func286 rfl rfl fun w0=>?_
 refine ad (aa (ae [] rfl ?_))
 refine ad (ad (aa (ah [] rfl ?_)))
 refine ao [] (dL _ _ _ hx) rfl rfl rfl rfl (by kernel_rfl) aK.refl trivial (fun _=>rfl) ?_
 rintro v H' ⟨rfl,rfl⟩
 refine⟨rfl,?_⟩
 (repeat' (first
  |refine ai ?_
  |refine ak (gs:=[999]) rfl ?_
  |refine ab [999] (af 0 rfl rfl rfl rfl) rfl ?_
  |refine ab [999] (aU rfl rfl rfl rfl rfl (by first|assumption|omega)) rfl ?_
  |refine ab [999] (am (m:=0) rfl rfl rfl rfl rfl (by decide)) rfl ?_
  |refine ab [999] (am (m:=1) rfl rfl rfl rfl rfl (by decide)) rfl ?_
  |refine ab [999] (aN 1 rfl rfl rfl rfl (by first|assumption|omega) (by first|assumption|omega)) rfl ?_
  |refine ab [999] (aG 1 rfl rfl rfl rfl rfl (by first|assumption|omega) rfl rfl) rfl ?_))
 refine bI rfl ?_
 refine av (ad (aa (ah [] rfl ?_)))
 refine ao [] (dd _ _ hN _ hx _ _ h) rfl rfl rfl rfl (by kernel_rfl) aK.refl trivial (fun _=>rfl) ?_
 rintro v H' rfl
 refine⟨rfl,ai ?_⟩
 refine ad (ad (aa ?_))
 (repeat' (first
  |refine ai ?_
  |refine ak (gs:=[999]) rfl ?_
  |refine ab [999] (af 0 rfl rfl rfl rfl) rfl ?_
  |refine ab [999] (aU rfl rfl rfl rfl rfl (by first|assumption|omega)) rfl ?_
  |refine ab [999] (am (m:=0) rfl rfl rfl rfl rfl (by decide)) rfl ?_
  |refine ab [999] (am (m:=1) rfl rfl rfl rfl rfl (by decide)) rfl ?_
  |refine ab [999] (aN 1 rfl rfl rfl rfl (by first|assumption|omega) (by first|assumption|omega)) rfl ?_
  |refine ab [999] (aG 1 rfl rfl rfl rfl rfl (by first|assumption|omega) rfl rfl) rfl ?_))
 refine ad (aa (ae [] rfl ?_))
 cases hl:(ns' x).l with
 |none=>
  refine aP 23 (v':=.bool false) rfl (congrArg Value.bool (aA (by show ¬ enc (ns' x).l≠-1;rw[hl];simp[enc]))) (bI rfl (av ?_))
  refine ad (aa (ae [] rfl ?_))
  exact aB ⟨_,rfl,rfl⟩
 |some c=>
  have hc:=hN'.l x hx
  rw[hl] at hc
  have hcN:c<N:=hc
  refine aP 23 (v':=.bool true) rfl (congrArg Value.bool (az (by show enc (ns' x).l≠-1;rw[hl];simp[enc]))) (bo rfl ?_)
  refine aP 5 (v':=.int .i64 (c:Int)) rfl (congrArg (Value.int .i64) (du hl)) ?_
  have hN1:=hN'.upd (x:=c) (d:={ ns' c with up:=none }) trivial (hN'.l c hcN) (hN'.r c hcN)
  have hN2:=hN1.setDown hx (c:=none) trivial 0
  refine ad ?_
  refine fF 17 [0,1,2,3,4,5,6,7,8,9,10,11,13,14] 12 [(15,true),(16,false)] (by kernel_rfl) ?_
  (repeat' (first
   |refine f5 (gs:=[999]) rfl rfl ?_
   |refine bn [999] rfl rfl (af 0 rfl rfl rfl rfl) rfl ?_
   |refine b5 [999] rfl (aU rfl rfl rfl rfl rfl (by first|assumption|omega)) rfl ?_
   |refine b5 [999] rfl (am (m:=0) rfl rfl rfl rfl rfl (by decide)) rfl ?_
   |refine b5 [999] rfl (am (m:=1) rfl rfl rfl rfl rfl (by decide)) rfl ?_
   |refine bn [999] rfl rfl (aN 1 rfl rfl rfl rfl (by first|assumption|omega) (by first|assumption|omega)) rfl ?_
   |refine bn [999] rfl rfl (aG 1 rfl rfl rfl rfl rfl (by first|assumption|omega) rfl rfl) rfl ?_))
  refine eH rfl ?_
  refine b9 (f:=0) (v:=.int .i64 (enc none)) 1 { ns' c with up:=none } rfl rfl rfl rfl rfl rfl rfl hcN rfl rfl [] rfl ?_
  refine ai ⟨⟨[],by decide,rfl⟩,?_⟩
  (repeat' (first
   |refine aZ (gs:=[999]) rfl rfl ?_
   |refine aj [999] rfl (aU rfl rfl rfl rfl rfl (by first|assumption|omega)) rfl ?_
   |refine aj [999] rfl (am (m:=0) rfl rfl rfl rfl rfl (by decide)) rfl ?_))
  refine a6 rfl ?_
  refine nq (s:=0) (c:=none) 1 rfl rfl rfl rfl rfl hx (by decide) [] rfl ?_
  refine ai ⟨⟨[],by decide,rfl⟩,?_⟩
  refine bv ?_
  refine ai ?_
  show J _ _ _ _ (aW pf gn cap N (k+j) (e7 (e7 ns' c { ns' c with up:=none }) x (bW (e7 ns' c { ns' c with up:=none } x) 0 none)))
  refine aa (ah [] rfl ?_)
  refine ao [] (l0 _ _ hN2 x hx) rfl rfl rfl rfl (by kernel_rfl) aK.refl trivial (fun _=>rfl) ?_
  rintro v H' rfl
  refine⟨rfl,ai ?_⟩
  refine ad (aa (ae [] rfl ?_))
  exact aB ⟨_,rfl,rfl⟩
theorem xV {X:Cx} {E:Env} {H:Heap} {o:Oper} {g x N cap:Nat} {xo:Operand} {ns:bj} (k:Nat) (ho:o.op=.load 347 xo) (hx:val E xo=some (.pointer (some ⟨g,x*9,none⟩)))
 (hk:H[k]?=some (.own (.slice (some ⟨g,0,none⟩) N cap) 347 9 N (ey N ns))) {fs:List (Nat×Nat×Nat)} {by_:Nat} {z:Option Value} (ht:tab 347=some ⟨.struct fs,9,by_,z⟩) (hxN:x<N):gW X o E H (.agg (dB (ns x)).toArray):=by
 refine aD k ho hx hk ?_
 unfold ew
 rw[ht]
 have hg:∀ f,f<9→(ey N ns)[x*9+f]?=(dB (ns x))[f]?:=fun f hf=>fZ hxN hf
 have key:∀ n f,f+n=9→dU (ey N ns) (x*9+f) n=some ((dB (ns x)).drop f):=by
  intro n
  induction n with
  |zero=>intro f hf;obtain rfl:f=9:=by omega
         rfl
  |succ n ih=>
   intro f hf
   unfold dU
   have hl:f<(dB (ns x)).length:=by show f<9;omega
   rw[hg f (by omega),List.getElem?_eq_getElem hl]
   show (match dU (ey N ns) (x*9+(f+1)) n with|some l=>some (_::l)|none=>none)=_
   rw[ih (f+1) (by omega),List.drop_eq_getElem_cons hl]
 have:=key 9 0 rfl
 show (match dU (ey N ns) (x*9) 9 with|some l=>some (Value.agg l.toArray)|none=>none)=_
 rw[show x*9=x*9+0 from rfl,this]
 rfl
theorem xv (k:Nat) (ns:bj) (hN:cV N ns) (x:Nat) (hx:x<N) (ns':bj) (j:Nat) (h:dQ ns x ns' j) (d:Int) (hd:-9223372036854775808≤d∧d≤9223372036854775807) (h1:0≤d→(ns' x).most≤4611686018427387904-d) (h2:d<0→-4611686018427387904-d≤(ns' x).least):
 Fn 282 [.pointer (some ⟨pf,0,none⟩),.int .i64 (x:Int),.int .i64 d] (aR (aW pf gn cap N k ns)) ([]++aW pf gn cap N k ns) fun _ H'=>H'=aW pf gn cap N (k+j) (eB ns' (some x) d false):=by
 generalize hM:aR _=M
 refine aS Tryz.func282 rfl rfl fun w0=>?_
 refine ad (aa (ae [] rfl ?_))
 refine ad (ad (aa (ah [] rfl ?_)))
 refine ao [] (dL _ _ _ hx) rfl rfl rfl rfl (by kernel_rfl) aK.refl trivial (fun _=>rfl) ?_
 rintro v H' ⟨rfl,rfl⟩
 refine⟨rfl,?_⟩
 (repeat' (first
  |refine ai ?_
  |refine ak (gs:=[999]) rfl ?_
  |refine ab [999] (af 0 rfl rfl rfl rfl) rfl ?_
  |refine ab [999] (aU rfl rfl rfl rfl rfl (by first|assumption|omega)) rfl ?_
  |refine ab [999] (am (m:=0) rfl rfl rfl rfl rfl (by decide)) rfl ?_
  |refine ab [999] (am (m:=1) rfl rfl rfl rfl rfl (by decide)) rfl ?_
  |refine ab [999] (aN 1 rfl rfl rfl rfl (by first|assumption|omega) (by first|assumption|omega)) rfl ?_
  |refine ab [999] (aG 1 rfl rfl rfl rfl rfl (by first|assumption|omega) rfl rfl) rfl ?_))
 refine bI rfl ?_
 refine av (ad (aa (ah [] rfl ?_)))
 refine ao [] (dd _ _ hN _ hx _ _ h) rfl rfl rfl rfl (by kernel_rfl) aK.refl trivial (fun _=>rfl) ?_
 rintro v H' rfl
 refine⟨rfl,ai ?_⟩
 refine ad (ad (aa ?_))
 (repeat' (first
  |refine ai ?_
  |refine ak (gs:=[999]) rfl ?_
  |refine ab [999] (af 0 rfl rfl rfl rfl) rfl ?_
  |refine ab [999] (aU rfl rfl rfl rfl rfl (by first|assumption|omega)) rfl ?_
  |refine ab [999] (am (m:=0) rfl rfl rfl rfl rfl (by decide)) rfl ?_
  |refine ab [999] (am (m:=1) rfl rfl rfl rfl rfl (by decide)) rfl ?_
  |refine ab [999] (aN 1 rfl rfl rfl rfl (by first|assumption|omega) (by first|assumption|omega)) rfl ?_
  |refine ab [999] (aG 1 rfl rfl rfl rfl rfl (by first|assumption|omega) rfl rfl) rfl ?_))
 refine ab [] (xV 1 rfl rfl rfl rfl hx) rfl ?_
 refine ci rfl rfl rfl (fun _=>rfl) fun p7=>?_
 refine aX 0 rfl rfl rfl rfl rfl [] rfl ?_
 refine ai ?_
 by_cases h0:0≤d
 ·have h1:=h1 h0
  refine ad (aa (ah [] rfl ?_))
  refine aw 24 (v':=.bool true) rfl (congrArg Value.bool (az h0)) ?_
  (repeat' (first
   |refine ai ?_
   |refine ak (gs:=[999]) rfl ?_
   |refine ab [999] (af 0 rfl rfl rfl rfl) rfl ?_
   |refine ab [999] (aU rfl rfl rfl rfl rfl (by first|assumption|omega)) rfl ?_
   |refine ab [999] (am (m:=0) rfl rfl rfl rfl rfl (by decide)) rfl ?_
   |refine ab [999] (am (m:=1) rfl rfl rfl rfl rfl (by decide)) rfl ?_
   |refine ab [999] (aN 1 rfl rfl rfl rfl (by first|assumption|omega) (by first|assumption|omega)) rfl ?_
   |refine ab [999] (aG 1 rfl rfl rfl rfl rfl (by first|assumption|omega) rfl rfl) rfl ?_))
  refine aw 31 (v':=.bool false) rfl (congrArg Value.bool (aA (by rw[bU (by omega)];omega))) ?_
  (repeat' (first
   |refine ai ?_
   |refine ak (gs:=[999]) rfl ?_
   |refine ab [999] (af 0 rfl rfl rfl rfl) rfl ?_
   |refine ab [999] (aU rfl rfl rfl rfl rfl (by first|assumption|omega)) rfl ?_
   |refine ab [999] (am (m:=0) rfl rfl rfl rfl rfl (by decide)) rfl ?_
   |refine ab [999] (am (m:=1) rfl rfl rfl rfl rfl (by decide)) rfl ?_
   |refine ab [999] (aN 1 rfl rfl rfl rfl (by first|assumption|omega) (by first|assumption|omega)) rfl ?_
   |refine ab [999] (aG 1 rfl rfl rfl rfl rfl (by first|assumption|omega) rfl rfl) rfl ?_))
  refine aw 34 (v':=.bool false) rfl (congrArg Value.bool (aA (by omega))) ?_
  (repeat' (first
   |refine ai ?_
   |refine ak (gs:=[999]) rfl ?_
   |refine ab [999] (af 0 rfl rfl rfl rfl) rfl ?_
   |refine ab [999] (aU rfl rfl rfl rfl rfl (by first|assumption|omega)) rfl ?_
   |refine ab [999] (am (m:=0) rfl rfl rfl rfl rfl (by decide)) rfl ?_
   |refine ab [999] (am (m:=1) rfl rfl rfl rfl rfl (by decide)) rfl ?_
   |refine ab [999] (aN 1 rfl rfl rfl rfl (by first|assumption|omega) (by first|assumption|omega)) rfl ?_
   |refine ab [999] (aG 1 rfl rfl rfl rfl rfl (by first|assumption|omega) rfl rfl) rfl ?_))
  refine bI rfl ?_
  refine av (ad ?_)
  refine bA (aK.re (A:=[_]++aW pf gn cap N (k+j) ns') (R:=[]) [1,2] rfl (by decide)) ?_
  refine aa (ah [] rfl ?_)
  refine ao [] (l8 _ ns' (some x) hx d false) rfl rfl rfl rfl (by kernel_rfl) aK.refl trivial (fun _=>rfl) ?_
  rintro v H' rfl
  refine⟨rfl,ai ?_⟩
  refine ad (aa (ae [] rfl ?_))
  exact aB ⟨_,rfl,rfl⟩
 ·have h2:=h2 (by omega)
  refine ad (aa (ah [] rfl ?_))
  refine aw 24 (v':=.bool false) rfl (congrArg Value.bool (aA h0)) ?_
  (repeat' (first
   |refine ai ?_
   |refine ak (gs:=[999]) rfl ?_
   |refine ab [999] (af 0 rfl rfl rfl rfl) rfl ?_
   |refine ab [999] (aU rfl rfl rfl rfl rfl (by first|assumption|omega)) rfl ?_
   |refine ab [999] (am (m:=0) rfl rfl rfl rfl rfl (by decide)) rfl ?_
   |refine ab [999] (am (m:=1) rfl rfl rfl rfl rfl (by decide)) rfl ?_
   |refine ab [999] (aN 1 rfl rfl rfl rfl (by first|assumption|omega) (by first|assumption|omega)) rfl ?_
   |refine ab [999] (aG 1 rfl rfl rfl rfl rfl (by first|assumption|omega) rfl rfl) rfl ?_))
  refine aw 34 (v':=.bool true) rfl (congrArg Value.bool (az (by omega))) ?_
  (repeat' (first
   |refine ai ?_
   |refine ak (gs:=[999]) rfl ?_
   |refine ab [999] (af 0 rfl rfl rfl rfl) rfl ?_
   |refine ab [999] (aU rfl rfl rfl rfl rfl (by first|assumption|omega)) rfl ?_
   |refine ab [999] (am (m:=0) rfl rfl rfl rfl rfl (by decide)) rfl ?_
   |refine ab [999] (am (m:=1) rfl rfl rfl rfl rfl (by decide)) rfl ?_
   |refine ab [999] (aN 1 rfl rfl rfl rfl (by first|assumption|omega) (by first|assumption|omega)) rfl ?_
   |refine ab [999] (aG 1 rfl rfl rfl rfl rfl (by first|assumption|omega) rfl rfl) rfl ?_))
  refine aP 41 (v':=.bool false) rfl (congrArg Value.bool (aA (by rw[bU (by omega)];omega))) ?_
  refine bI rfl ?_
  refine av (ad ?_)
  refine bA (aK.re (A:=[_]++aW pf gn cap N (k+j) ns') (R:=[]) [1,2] rfl (by decide)) ?_
  refine aa (ah [] rfl ?_)
  refine ao [] (l8 _ ns' (some x) hx d false) rfl rfl rfl rfl (by kernel_rfl) aK.refl trivial (fun _=>rfl) ?_
  rintro v H' rfl
  refine⟨rfl,ai ?_⟩
  refine ad (aa (ae [] rfl ?_))
  exact aB ⟨_,rfl,rfl⟩
end Go.Proofs.YtpbmihpjgjbndaaGreatDoor
/- Rows that are cut, joined and turned: joining, and searches from the top down, step by step. -/
set_option linter.unusedVariables false
set_option linter.unusedSimpArgs false
namespace Go.Proofs.YtpbmihpjgjbndaaGreatDoor
open Go.RowKit
variable {pf gn cap N:Nat}
def mN (ns:bj) (a b:Nat) (ns':bj) (k:Nat):Prop:=∃ n1 n2 n3 n4 k1 k2 k3 k4 a' b',dQ ns a n1 k1∧dQ n1 b n2 k2∧(n2 a).up=none∧yG 1 n2 a n3 a' k3∧yG 0 n3 b n4 b' k4∧ns'=ek (dR n4 (some a') b' 0) b'∧k=k1+k2+k3+k4
theorem xX (k:Nat) (ns:bj) (hN:cV N ns) (a b:Nat) (ha:a<N) (hb:b<N) (hab:a≠b) (ns':bj) (j:Nat) (h:mN ns a b ns' j):
 Fn 275 [.pointer (some ⟨pf,0,none⟩),.int .i64 (a:Int),.int .i64 (b:Int)] (aR (aW pf gn cap N k ns)) ([]++aW pf gn cap N k ns) fun _ H'=>H'=aW pf gn cap N (k+j) ns':=by
 obtain⟨n1,n2,n3,n4,k1,k2,k3,k4,a',b',h1,h2,hup,h3,h4,rfl,rfl⟩:=h
 have hN1:=hN.splay ha h1
 have hN2:=hN1.splay hb h2
 obtain⟨hN3,ha'⟩:=hN2.end_ ha h3
 obtain⟨hN4,hb'⟩:=hN3.end_ hb h4
 have hN5:=hN4.hang (c:=some a') ha' hb' 0
 generalize hM:aR _=M
 refine aS Tryz.func275 rfl rfl fun w0=>?_
 refine ad (aa (ae [] rfl ?_))
 refine ad (au (ad (aa (ah [] rfl ?_))))
 refine ao [] (dL _ _ _ ha) rfl rfl rfl rfl (by kernel_rfl) aK.refl trivial (fun _=>rfl) ?_
 rintro v H' ⟨rfl,rfl⟩
 refine⟨rfl,?_⟩
 (repeat' (first
  |refine ai ?_
  |refine ak (gs:=[999]) rfl ?_
  |refine ab [999] (af 0 rfl rfl rfl rfl) rfl ?_
  |refine ab [999] (aU rfl rfl rfl rfl rfl (by first|assumption|omega)) rfl ?_
  |refine ab [999] (am (m:=0) rfl rfl rfl rfl rfl (by decide)) rfl ?_
  |refine ab [999] (am (m:=1) rfl rfl rfl rfl rfl (by decide)) rfl ?_
  |refine ab [999] (aN 1 rfl rfl rfl rfl (by first|assumption|omega) (by first|assumption|omega)) rfl ?_
  |refine ab [999] (aG 1 rfl rfl rfl rfl rfl (by first|assumption|omega) rfl rfl) rfl ?_))
 refine ao [999] (dL _ _ _ hb) rfl rfl rfl rfl (by kernel_rfl) aK.refl trivial (fun _=>rfl) ?_
 rintro v H' ⟨rfl,rfl⟩
 refine⟨rfl,?_⟩
 (repeat' (first
  |refine ai ?_
  |refine ak (gs:=[999]) rfl ?_
  |refine ab [999] (af 0 rfl rfl rfl rfl) rfl ?_
  |refine ab [999] (aU rfl rfl rfl rfl rfl (by first|assumption|omega)) rfl ?_
  |refine ab [999] (am (m:=0) rfl rfl rfl rfl rfl (by decide)) rfl ?_
  |refine ab [999] (am (m:=1) rfl rfl rfl rfl rfl (by decide)) rfl ?_
  |refine ab [999] (aN 1 rfl rfl rfl rfl (by first|assumption|omega) (by first|assumption|omega)) rfl ?_
  |refine ab [999] (aG 1 rfl rfl rfl rfl rfl (by first|assumption|omega) rfl rfl) rfl ?_))
 refine bI rfl ?_
 refine ad (aa (ae [] rfl ?_))
 refine aP 18 (v':=.bool false) rfl (congrArg Value.bool (aA (by omega))) (bI rfl (av ?_))
 show J _ _ _ _ (aW pf gn cap N k ns)
 refine ad (aa (ah [] rfl ?_))
 refine ao [] (dd _ _ hN _ ha _ _ h1) rfl rfl rfl rfl (by kernel_rfl) aK.refl trivial (fun _=>rfl) ?_
 rintro v H' rfl
 refine⟨rfl,ai ?_⟩
 refine ad (aa (ah [] rfl ?_))
 refine ao [] (dd _ _ hN1 _ hb _ _ h2) rfl rfl rfl rfl (by kernel_rfl) aK.refl trivial (fun _=>rfl) ?_
 rintro v H' rfl
 refine⟨rfl,ai ?_⟩
 refine ad (ad (aa ?_))
 (repeat' (first
  |refine ai ?_
  |refine ak (gs:=[999]) rfl ?_
  |refine ab [999] (af 0 rfl rfl rfl rfl) rfl ?_
  |refine ab [999] (aU rfl rfl rfl rfl rfl (by first|assumption|omega)) rfl ?_
  |refine ab [999] (am (m:=0) rfl rfl rfl rfl rfl (by decide)) rfl ?_
  |refine ab [999] (am (m:=1) rfl rfl rfl rfl rfl (by decide)) rfl ?_
  |refine ab [999] (aN 1 rfl rfl rfl rfl (by first|assumption|omega) (by first|assumption|omega)) rfl ?_
  |refine ab [999] (aG 1 rfl rfl rfl rfl rfl (by first|assumption|omega) rfl rfl) rfl ?_))
 refine aP 43 (v':=.bool false) rfl (congrArg Value.bool (aA (by show ¬ enc (n2 a).up≠-1;rw[hup];simp[enc]))) (bI rfl (av ?_))
 refine ad (aa (ah [] rfl ?_))
 refine ao [] (me _ n2 hN2 a ha 1 (by decide) n3 a' k3 h3) rfl rfl rfl rfl (by kernel_rfl) aK.refl trivial (fun _=>rfl) ?_
 rintro v H' ⟨rfl,rfl⟩
 refine⟨rfl,?_⟩
 (repeat' (first
  |refine ai ?_
  |refine ak (gs:=[999]) rfl ?_
  |refine ab [999] (af 0 rfl rfl rfl rfl) rfl ?_
  |refine ab [999] (aU rfl rfl rfl rfl rfl (by first|assumption|omega)) rfl ?_
  |refine ab [999] (am (m:=0) rfl rfl rfl rfl rfl (by decide)) rfl ?_
  |refine ab [999] (am (m:=1) rfl rfl rfl rfl rfl (by decide)) rfl ?_
  |refine ab [999] (aN 1 rfl rfl rfl rfl (by first|assumption|omega) (by first|assumption|omega)) rfl ?_
  |refine ab [999] (aG 1 rfl rfl rfl rfl rfl (by first|assumption|omega) rfl rfl) rfl ?_))
 refine ao [] (me _ n3 hN3 b hb 0 (by decide) n4 b' k4 h4) rfl rfl rfl rfl (by kernel_rfl) aK.refl trivial (fun _=>rfl) ?_
 rintro v H' ⟨rfl,rfl⟩
 refine⟨rfl,?_⟩
 (repeat' (first
  |refine ai ?_
  |refine ak (gs:=[999]) rfl ?_
  |refine ab [999] (af 0 rfl rfl rfl rfl) rfl ?_
  |refine ab [999] (aU rfl rfl rfl rfl rfl (by first|assumption|omega)) rfl ?_
  |refine ab [999] (am (m:=0) rfl rfl rfl rfl rfl (by decide)) rfl ?_
  |refine ab [999] (am (m:=1) rfl rfl rfl rfl rfl (by decide)) rfl ?_
  |refine ab [999] (aN 1 rfl rfl rfl rfl (by first|assumption|omega) (by first|assumption|omega)) rfl ?_
  |refine ab [999] (aG 1 rfl rfl rfl rfl rfl (by first|assumption|omega) rfl rfl) rfl ?_))
 refine ad (aa (ah [] rfl ?_))
 refine ao [] (oS _ n4 hN4 (some a') ha' b' hb' 0 (by decide)) rfl rfl rfl rfl (by kernel_rfl) aK.refl trivial (fun _=>rfl) ?_
 rintro v H' rfl
 refine⟨rfl,ai ?_⟩
 refine ad (aa (ah [] rfl ?_))
 refine ao [] (l0 _ _ hN5 b' hb') rfl rfl rfl rfl (by kernel_rfl) aK.refl trivial (fun _=>rfl) ?_
 rintro v H' rfl
 refine⟨rfl,ai ?_⟩
 refine ad (aa (ae [] rfl ?_))
 refine aB ⟨_,rfl,?_⟩
 show aW _ _ _ _ (k+k1+k2+k3+k4) _=_
 rw[show k+k1+k2+k3+k4=k+(k1+k2+k3+k4) by omega]
def zG (ns:bj) (x:Nat) (p:Int) (ns':bj) (y:Option Nat) (k:Nat):Prop:=∃ n1 k1,dQ ns x n1 k1∧
 ((p<0∨(n1 x).size≤p)∧y=none∧ns'=n1∧k=k1∨0≤p∧p<(n1 x).size∧∃ z k2,wU n1 x p ns' z k2∧y=some z∧k=k1+k2)
theorem zt (k:Nat) (ns:bj) (hN:cV N ns) (x:Nat) (hx:x<N) (p:Int) (ns':bj) (y:Option Nat) (j:Nat) (h:zG ns x p ns' y j):
 Fn 283 [.pointer (some ⟨pf,0,none⟩),.int .i64 (x:Int),.int .i64 p] (aR (aW pf gn cap N k ns)) ([]++aW pf gn cap N k ns) fun v H'=>v=.int .i64 (enc y)∧H'=aW pf gn cap N (k+j) ns':=by
 obtain⟨n1,k1,hS,hc⟩:=h
 have hN1:=hN.splay hx hS
 generalize hM:aR _=M
 refine aS Tryz.func283 rfl rfl fun w0=>?_
 refine ad (aa (ae [] rfl ?_))
 refine ad (ad (aa (ah [] rfl ?_)))
 refine ao [] (dL _ _ _ hx) rfl rfl rfl rfl (by kernel_rfl) aK.refl trivial (fun _=>rfl) ?_
 rintro v H' ⟨rfl,rfl⟩
 refine⟨rfl,?_⟩
 (repeat' (first
  |refine ai ?_
  |refine ak (gs:=[999]) rfl ?_
  |refine ab [999] (af 0 rfl rfl rfl rfl) rfl ?_
  |refine ab [999] (aU rfl rfl rfl rfl rfl (by first|assumption|omega)) rfl ?_
  |refine ab [999] (am (m:=0) rfl rfl rfl rfl rfl (by decide)) rfl ?_
  |refine ab [999] (am (m:=1) rfl rfl rfl rfl rfl (by decide)) rfl ?_
  |refine ab [999] (aN 1 rfl rfl rfl rfl (by first|assumption|omega) (by first|assumption|omega)) rfl ?_
  |refine ab [999] (aG 1 rfl rfl rfl rfl rfl (by first|assumption|omega) rfl rfl) rfl ?_))
 refine bI rfl ?_
 refine av (ad (aa (ah [] rfl ?_)))
 refine ao [] (dd _ _ hN _ hx _ _ hS) rfl rfl rfl rfl (by kernel_rfl) aK.refl trivial (fun _=>rfl) ?_
 rintro v H' rfl
 refine⟨rfl,ai ?_⟩
 rcases hc with ⟨hp,rfl,rfl,rfl⟩|⟨hp1,hp2,z,k2,hA,rfl,rfl⟩
 ·by_cases h0:p<0
  ·refine ad (ad (aa (ah [] rfl ?_)))
   refine aw 18 (v':=.bool true) rfl (congrArg Value.bool (az h0)) ?_
   (repeat' (first
    |refine ai ?_
    |refine ak (gs:=[999]) rfl ?_
    |refine ab [999] (af 0 rfl rfl rfl rfl) rfl ?_
    |refine ab [999] (aU rfl rfl rfl rfl rfl (by first|assumption|omega)) rfl ?_
    |refine ab [999] (am (m:=0) rfl rfl rfl rfl rfl (by decide)) rfl ?_
    |refine ab [999] (am (m:=1) rfl rfl rfl rfl rfl (by decide)) rfl ?_
    |refine ab [999] (aN 1 rfl rfl rfl rfl (by first|assumption|omega) (by first|assumption|omega)) rfl ?_
    |refine ab [999] (aG 1 rfl rfl rfl rfl rfl (by first|assumption|omega) rfl rfl) rfl ?_))
   refine bo rfl ?_
   refine ad (aa (ae [] rfl ?_))
   exact aB ⟨_,rfl,rfl,rfl⟩
  ·refine ad (ad (aa (ah [] rfl ?_)))
   refine aw 18 (v':=.bool false) rfl (congrArg Value.bool (aA h0)) ?_
   (repeat' (first
    |refine ai ?_
    |refine ak (gs:=[999]) rfl ?_
    |refine ab [999] (af 0 rfl rfl rfl rfl) rfl ?_
    |refine ab [999] (aU rfl rfl rfl rfl rfl (by first|assumption|omega)) rfl ?_
    |refine ab [999] (am (m:=0) rfl rfl rfl rfl rfl (by decide)) rfl ?_
    |refine ab [999] (am (m:=1) rfl rfl rfl rfl rfl (by decide)) rfl ?_
    |refine ab [999] (aN 1 rfl rfl rfl rfl (by first|assumption|omega) (by first|assumption|omega)) rfl ?_
    |refine ab [999] (aG 1 rfl rfl rfl rfl rfl (by first|assumption|omega) rfl rfl) rfl ?_))
   refine aP 29 (v':=.bool true) rfl (congrArg Value.bool (az (by omega))) (bo rfl ?_)
   refine ad (aa (ae [] rfl ?_))
   exact aB ⟨_,rfl,rfl,rfl⟩
 ·refine ad (ad (aa (ah [] rfl ?_)))
  refine aw 18 (v':=.bool false) rfl (congrArg Value.bool (aA (by omega))) ?_
  (repeat' (first
   |refine ai ?_
   |refine ak (gs:=[999]) rfl ?_
   |refine ab [999] (af 0 rfl rfl rfl rfl) rfl ?_
   |refine ab [999] (aU rfl rfl rfl rfl rfl (by first|assumption|omega)) rfl ?_
   |refine ab [999] (am (m:=0) rfl rfl rfl rfl rfl (by decide)) rfl ?_
   |refine ab [999] (am (m:=1) rfl rfl rfl rfl rfl (by decide)) rfl ?_
   |refine ab [999] (aN 1 rfl rfl rfl rfl (by first|assumption|omega) (by first|assumption|omega)) rfl ?_
   |refine ab [999] (aG 1 rfl rfl rfl rfl rfl (by first|assumption|omega) rfl rfl) rfl ?_))
  refine aP 29 (v':=.bool false) rfl (congrArg Value.bool (aA (by omega))) (bI rfl (av ?_))
  refine au ?_
  refine bq (σ:=bj×Nat×Int×Nat) (fun t=>[(2,.int .i64 t.2.2.1),(1,.int .i64 (t.2.1:Int)),(0,.pointer (some ⟨pf,0,none⟩))])
   (fun t=>aW pf gn cap N (k+k1+(k2-t.2.2.2)) t.1) (fun t=>cV N t.1∧t.2.1<N∧wU t.1 t.2.1 t.2.2.1 ns' z t.2.2.2∧t.2.2.2≤k2) (fun t=>t.2.2.2) (n1,x,p,k2) [0,1] ⟨rfl,rfl,rfl,trivial⟩ (by decide) ?_ ⟨hN1,hx,hA,Nat.le_refl _⟩ ?_
  ·simp only[Nat.sub_self,Nat.add_zero];rfl
  rintro⟨m,u,q,i⟩ ⟨hNm,hu,hAm,hi⟩
  simp only at hNm hu hAm hi ⊢
  refine au (ad (aa ?_))
  (repeat' (first
   |refine ai ?_
   |refine ak (gs:=[999]) rfl ?_
   |refine ab [999] (af 0 rfl rfl rfl rfl) rfl ?_
   |refine ab [999] (aU rfl rfl rfl rfl rfl (by first|assumption|omega)) rfl ?_
   |refine ab [999] (am (m:=0) rfl rfl rfl rfl rfl (by decide)) rfl ?_
   |refine ab [999] (am (m:=1) rfl rfl rfl rfl rfl (by decide)) rfl ?_
   |refine ab [999] (aN 1 rfl rfl rfl rfl (by first|assumption|omega) (by first|assumption|omega)) rfl ?_
   |refine ab [999] (aG 1 rfl rfl rfl rfl rfl (by first|assumption|omega) rfl rfl) rfl ?_))
  refine d7 [(8,.int .i64 (ahead m u)),(7,.int .i64 (enc (m u).l)),(2,.int .i64 q),(1,.int .i64 (u:Int)),(0,.pointer (some ⟨pf,0,none⟩))] (aW pf gn cap N (k+k1+(k2-i)) m) ?_ ?_
  ·refine ad (aa (ae [] rfl ?_))
   cases hl:(m u).l with
   |none=>
    have e:ahead m u=0:=by unfold ahead;rw[hl]
    refine aP 40 (v':=.bool false) rfl (congrArg Value.bool (aA (by show ¬ enc (m u).l≠-1;rw[hl];simp[enc]))) (bI rfl (av ⟨[0,1],⟨by rw[e];rfl,by rw[← hl];rfl,rfl,rfl,rfl,trivial⟩,by decide,rfl⟩))
   |some c=>
    have hc:=hNm.l u hu
    rw[hl] at hc
    have hcN:c<N:=hc
    have e:ahead m u=(m c).size:=by unfold ahead;rw[hl]
    refine aP 40 (v':=.bool true) rfl (congrArg Value.bool (az (by show enc (m u).l≠-1;rw[hl];simp[enc]))) (bo rfl ?_)
    refine aP 7 (v':=.int .i64 (c:Int)) rfl (congrArg (Value.int .i64) (du hl)) ?_
    refine aa ?_
    (repeat' (first
     |refine ai ?_
     |refine ak (gs:=[999]) rfl ?_
     |refine ab [999] (af 0 rfl rfl rfl rfl) rfl ?_
     |refine ab [999] (aU rfl rfl rfl rfl rfl (by first|assumption|omega)) rfl ?_
     |refine ab [999] (am (m:=0) rfl rfl rfl rfl rfl (by decide)) rfl ?_
     |refine ab [999] (am (m:=1) rfl rfl rfl rfl rfl (by decide)) rfl ?_
     |refine ab [999] (aN 1 rfl rfl rfl rfl (by first|assumption|omega) (by first|assumption|omega)) rfl ?_
     |refine ab [999] (aG 1 rfl rfl rfl rfl rfl (by first|assumption|omega) rfl rfl) rfl ?_))
    exact⟨[0,1],⟨by rw[e];rfl,rfl,rfl,rfl,rfl,trivial⟩,by decide,rfl⟩
  ·refine ad (au (ad (aa (ae [] rfl ?_))))
   cases hAm with
   |left h1 h2 h3=>
    rename_i c i
    have hc:=hNm.l u hu
    rw[h2] at hc
    refine aP 62 (v':=.bool true) rfl (congrArg Value.bool (az h1)) (bo rfl ?_)
    refine aa (ae [] rfl ?_)
    refine aP 1 (v':=.int .i64 (c:Int)) rfl (congrArg (Value.int .i64) (du h2)) ?_
    show J _ _ _ _ (aW pf gn cap N (k+k1+(k2-(i+1))) m)
    refine aa (ah [] rfl ?_)
    refine ao [] (gY _ m hNm c hc) rfl rfl rfl rfl (by kernel_rfl) aK.refl trivial (fun _=>rfl) ?_
    rintro v H' rfl
    refine⟨rfl,ai ?_⟩
    refine⟨(di m c,c,q,i),[0,1],⟨rfl,rfl,rfl,trivial⟩,by decide,?_,⟨hNm.push hc,hc,h3,by show i≤k2;omega⟩,by show i<i+1;omega⟩
    show some (aW _ _ _ _ (k+k1+(k2-(i+1))+1) _)=_
    rw[show k+k1+(k2-(i+1))+1=k+k1+(k2-i) by omega]
   |here h1 h2=>
    refine aP 62 (v':=.bool false) rfl (congrArg Value.bool (aA (by omega))) (bI rfl ?_)
    refine ad (aa (ae [] rfl ?_))
    refine aP 67 (v':=.bool true) rfl (congrArg Value.bool (az h1)) (bo rfl ?_)
    show J _ _ _ _ (aW pf gn cap N (k+k1+(k2-i)) m)
    refine ad (aa (ah [] rfl ?_))
    refine ao [] (dd _ _ hNm _ hu _ _ h2) rfl rfl rfl rfl (by kernel_rfl) aK.refl trivial (fun _=>rfl) ?_
    rintro v H' rfl
    refine⟨rfl,ai ?_⟩
    refine ad (aa (ae [] rfl ?_))
    refine aB ⟨_,rfl,rfl,?_⟩
    show aW _ _ _ _ (k+k1+(k2-i)+i) _=_
    rw[show k+k1+(k2-i)+i=k+(k1+k2) by omega]
   |right h1 h2 h3=>
    rename_i c i
    have hc:=hNm.r u hu
    rw[h2] at hc
    refine aP 62 (v':=.bool false) rfl (congrArg Value.bool (aA (by omega))) (bI rfl ?_)
    refine ad (aa (ae [] rfl ?_))
    refine aP 67 (v':=.bool false) rfl (congrArg Value.bool (aA (by omega))) (bI rfl ?_)
    refine aa ?_
    (repeat' (first
     |refine ai ?_
     |refine ak (gs:=[999]) rfl ?_
     |refine ab [999] (af 0 rfl rfl rfl rfl) rfl ?_
     |refine ab [999] (aU rfl rfl rfl rfl rfl (by first|assumption|omega)) rfl ?_
     |refine ab [999] (am (m:=0) rfl rfl rfl rfl rfl (by decide)) rfl ?_
     |refine ab [999] (am (m:=1) rfl rfl rfl rfl rfl (by decide)) rfl ?_
     |refine ab [999] (aN 1 rfl rfl rfl rfl (by first|assumption|omega) (by first|assumption|omega)) rfl ?_
     |refine ab [999] (aG 1 rfl rfl rfl rfl rfl (by first|assumption|omega) rfl rfl) rfl ?_))
    refine aP 1 (v':=.int .i64 (c:Int)) rfl (congrArg (Value.int .i64) (du h2)) ?_
    show J _ _ _ _ (aW pf gn cap N (k+k1+(k2-(i+1))) m)
    refine aa (ah [] rfl ?_)
    refine ao [] (gY _ m hNm c hc) rfl rfl rfl rfl (by kernel_rfl) aK.refl trivial (fun _=>rfl) ?_
    rintro v H' rfl
    refine⟨rfl,ai ?_⟩
    refine⟨(di m c,c,cD (cD (q-ahead m u)-1),i),[0,1],⟨rfl,rfl,rfl,trivial⟩,by decide,?_,⟨hNm.push hc,hc,h3,by show i≤k2;omega⟩,by show i<i+1;omega⟩
    show some (aW _ _ _ _ (k+k1+(k2-(i+1))+1) _)=_
    rw[show k+k1+(k2-(i+1))+1=k+k1+(k2-i) by omega]
def zz (ns:bj) (x:Nat) (ns':bj) (y k:Nat):Prop:=∃ n1 k1 k2,dQ ns x n1 k1∧vu (n1 x).least n1 x ns' y k2∧k=k1+k2
end Go.Proofs.YtpbmihpjgjbndaaGreatDoor
/- Rows that are cut, joined and turned: the first of the least, and the steps, step by step. -/
set_option linter.unusedVariables false
set_option linter.unusedSimpArgs false
namespace Go.Proofs.YtpbmihpjgjbndaaGreatDoor
open Go.RowKit
variable {pf gn cap N:Nat}
theorem ud (k:Nat) (ns:bj):Fn 258 [.pointer (some ⟨pf,0,none⟩)] (aR (aW pf gn cap N k ns)) ([]++aW pf gn cap N k ns) fun v H'=>v=.int .i64 (cD k)∧H'=aW pf gn cap N k ns:=by
 generalize hM:aR _=M
 refine aS Tryz.func258 rfl rfl fun w0=>?_
 refine ad (aa (ae [] rfl ?_))
 refine ad (aa ?_)
 (repeat' (first
  |refine ai ?_
  |refine ak (gs:=[999]) rfl ?_
  |refine ab [999] (af 0 rfl rfl rfl rfl) rfl ?_
  |refine ab [999] (aU rfl rfl rfl rfl rfl (by first|assumption|omega)) rfl ?_
  |refine ab [999] (am (m:=0) rfl rfl rfl rfl rfl (by decide)) rfl ?_
  |refine ab [999] (am (m:=1) rfl rfl rfl rfl rfl (by decide)) rfl ?_
  |refine ab [999] (aN 1 rfl rfl rfl rfl (by first|assumption|omega) (by first|assumption|omega)) rfl ?_
  |refine ab [999] (aG 1 rfl rfl rfl rfl rfl (by first|assumption|omega) rfl rfl) rfl ?_))
 exact aB ⟨_,rfl,rfl,rfl⟩
theorem uR (k:Nat) (ns:bj) (hN:cV N ns) (x:Nat) (hx:x<N) (ns':bj) (y j:Nat) (h:zz ns x ns' y j):
 Fn 281 [.pointer (some ⟨pf,0,none⟩),.int .i64 (x:Int)] (aR (aW pf gn cap N k ns)) ([]++aW pf gn cap N k ns) fun v H'=>v=.int .i64 (y:Int)∧H'=aW pf gn cap N (k+j) ns':=by
 obtain⟨n1,k1,k2,hS,hL,rfl⟩:=h
 have hN1:=hN.splay hx hS
 generalize hM:aR _=M
 refine aS Tryz.func281 rfl rfl fun w0=>?_
 refine ad (aa (ae [] rfl ?_))
 refine ad (ad (aa (ah [] rfl ?_)))
 refine ao [] (dL _ _ _ hx) rfl rfl rfl rfl (by kernel_rfl) aK.refl trivial (fun _=>rfl) ?_
 rintro v H' ⟨rfl,rfl⟩
 refine⟨rfl,?_⟩
 (repeat' (first
  |refine ai ?_
  |refine ak (gs:=[999]) rfl ?_
  |refine ab [999] (af 0 rfl rfl rfl rfl) rfl ?_
  |refine ab [999] (aU rfl rfl rfl rfl rfl (by first|assumption|omega)) rfl ?_
  |refine ab [999] (am (m:=0) rfl rfl rfl rfl rfl (by decide)) rfl ?_
  |refine ab [999] (am (m:=1) rfl rfl rfl rfl rfl (by decide)) rfl ?_
  |refine ab [999] (aN 1 rfl rfl rfl rfl (by first|assumption|omega) (by first|assumption|omega)) rfl ?_
  |refine ab [999] (aG 1 rfl rfl rfl rfl rfl (by first|assumption|omega) rfl rfl) rfl ?_))
 refine bI rfl ?_
 refine av (ad (aa (ah [] rfl ?_)))
 refine ao [] (dd _ _ hN _ hx _ _ hS) rfl rfl rfl rfl (by kernel_rfl) aK.refl trivial (fun _=>rfl) ?_
 rintro v H' rfl
 refine⟨rfl,ai ?_⟩
 refine ad (aa ?_)
 (repeat' (first
  |refine ai ?_
  |refine ak (gs:=[999]) rfl ?_
  |refine ab [999] (af 0 rfl rfl rfl rfl) rfl ?_
  |refine ab [999] (aU rfl rfl rfl rfl rfl (by first|assumption|omega)) rfl ?_
  |refine ab [999] (am (m:=0) rfl rfl rfl rfl rfl (by decide)) rfl ?_
  |refine ab [999] (am (m:=1) rfl rfl rfl rfl rfl (by decide)) rfl ?_
  |refine ab [999] (aN 1 rfl rfl rfl rfl (by first|assumption|omega) (by first|assumption|omega)) rfl ?_
  |refine ab [999] (aG 1 rfl rfl rfl rfl rfl (by first|assumption|omega) rfl rfl) rfl ?_))
 obtain⟨want,hw⟩:∃ w,(n1 x).least=w:=⟨_,rfl⟩
 rw[hw] at hL
 refine aP 5 (v':=.int .i64 want) rfl (congrArg (Value.int .i64) hw) ?_
 refine au ?_
 refine bq (σ:=bj×Nat×Nat) (fun t=>[(5,.int .i64 want),(1,.int .i64 (t.2.1:Int)),(0,.pointer (some ⟨pf,0,none⟩))])
  (fun t=>aW pf gn cap N (k+k1+(k2-t.2.2)) t.1) (fun t=>cV N t.1∧t.2.1<N∧vu want t.1 t.2.1 ns' y t.2.2∧t.2.2≤k2) (fun t=>t.2.2) (n1,x,k2) [0,1] ⟨rfl,rfl,rfl,trivial⟩ (by decide) ?_ ⟨hN1,hx,hL,Nat.le_refl _⟩ ?_
 ·simp only[Nat.sub_self,Nat.add_zero];rfl
 rintro⟨m,u,i⟩ ⟨hNm,hu,hLm,hi⟩
 simp only at hNm hu hLm hi ⊢
 refine au (ad (ad (aa ?_)))
 (repeat' (first
  |refine ai ?_
  |refine ak (gs:=[999]) rfl ?_
  |refine ab [999] (af 0 rfl rfl rfl rfl) rfl ?_
  |refine ab [999] (aU rfl rfl rfl rfl rfl (by first|assumption|omega)) rfl ?_
  |refine ab [999] (am (m:=0) rfl rfl rfl rfl rfl (by decide)) rfl ?_
  |refine ab [999] (am (m:=1) rfl rfl rfl rfl rfl (by decide)) rfl ?_
  |refine ab [999] (aN 1 rfl rfl rfl rfl (by first|assumption|omega) (by first|assumption|omega)) rfl ?_
  |refine ab [999] (aG 1 rfl rfl rfl rfl rfl (by first|assumption|omega) rfl rfl) rfl ?_))
 cases hLm with
 |left h1 h2 h3=>
  rename_i c i
  have hc:=hNm.l u hu
  rw[h1] at hc
  have hcN:c<N:=hc
  refine aP 6 (v':=.int .i64 (c:Int)) rfl (congrArg (Value.int .i64) (du h1)) ?_
  refine ad (aa (ah [] rfl ?_))
  refine aw 33 (v':=.bool true) rfl (congrArg Value.bool (az (by omega))) ?_
  (repeat' (first
   |refine ai ?_
   |refine ak (gs:=[999]) rfl ?_
   |refine ab [999] (af 0 rfl rfl rfl rfl) rfl ?_
   |refine ab [999] (aU rfl rfl rfl rfl rfl (by first|assumption|omega)) rfl ?_
   |refine ab [999] (am (m:=0) rfl rfl rfl rfl rfl (by decide)) rfl ?_
   |refine ab [999] (am (m:=1) rfl rfl rfl rfl rfl (by decide)) rfl ?_
   |refine ab [999] (aN 1 rfl rfl rfl rfl (by first|assumption|omega) (by first|assumption|omega)) rfl ?_
   |refine ab [999] (aG 1 rfl rfl rfl rfl rfl (by first|assumption|omega) rfl rfl) rfl ?_))
  refine aP 44 (v':=.bool true) rfl (congrArg Value.bool (az h2)) (bo rfl ?_)
  refine aa (ae [] rfl ?_)
  show J _ _ _ _ (aW pf gn cap N (k+k1+(k2-(i+1))) m)
  refine aa (ah [] rfl ?_)
  refine ao [] (gY _ m hNm c hc) rfl rfl rfl rfl (by kernel_rfl) aK.refl trivial (fun _=>rfl) ?_
  rintro v H' rfl
  refine⟨rfl,ai ?_⟩
  refine⟨(di m c,c,i),[0,1],⟨rfl,rfl,rfl,trivial⟩,by decide,?_,⟨hNm.push hc,hc,h3,by show i≤k2;omega⟩,by show i<i+1;omega⟩
  show some (aW _ _ _ _ (k+k1+(k2-(i+1))+1) _)=_
  rw[show k+k1+(k2-(i+1))+1=k+k1+(k2-i) by omega]
 |here h1 h2 h3=>
  refine d7 [(44,.bool false),(5,.int .i64 want),(1,.int .i64 (y:Int)),(0,.pointer (some ⟨pf,0,none⟩))] (aW pf gn cap N (k+k1+(k2-i)) m) ?_ ?_
  ·cases hl:(m y).l with
   |none=>
    refine aa (ah [] rfl ?_)
    refine aw 33 (v':=.bool false) rfl (congrArg Value.bool (aA (by show ¬ enc (m y).l≠-1;rw[hl];simp[enc]))) ?_
    (repeat' (first
     |refine ai ?_
     |refine ak (gs:=[999]) rfl ?_
     |refine ab [999] (af 0 rfl rfl rfl rfl) rfl ?_
     |refine ab [999] (aU rfl rfl rfl rfl rfl (by first|assumption|omega)) rfl ?_
     |refine ab [999] (am (m:=0) rfl rfl rfl rfl rfl (by decide)) rfl ?_
     |refine ab [999] (am (m:=1) rfl rfl rfl rfl rfl (by decide)) rfl ?_
     |refine ab [999] (aN 1 rfl rfl rfl rfl (by first|assumption|omega) (by first|assumption|omega)) rfl ?_
     |refine ab [999] (aG 1 rfl rfl rfl rfl rfl (by first|assumption|omega) rfl rfl) rfl ?_))
    exact⟨[0,1],⟨rfl,rfl,rfl,rfl,trivial⟩,by decide,rfl⟩
   |some d=>
    have hd:=hNm.l y hu
    rw[hl] at hd
    have hdN:d<N:=hd
    refine aP 6 (v':=.int .i64 (d:Int)) rfl (congrArg (Value.int .i64) (du hl)) ?_
    refine aa (ah [] rfl ?_)
    refine aw 33 (v':=.bool true) rfl (congrArg Value.bool (az (by omega))) ?_
    (repeat' (first
     |refine ai ?_
     |refine ak (gs:=[999]) rfl ?_
     |refine ab [999] (af 0 rfl rfl rfl rfl) rfl ?_
     |refine ab [999] (aU rfl rfl rfl rfl rfl (by first|assumption|omega)) rfl ?_
     |refine ab [999] (am (m:=0) rfl rfl rfl rfl rfl (by decide)) rfl ?_
     |refine ab [999] (am (m:=1) rfl rfl rfl rfl rfl (by decide)) rfl ?_
     |refine ab [999] (aN 1 rfl rfl rfl rfl (by first|assumption|omega) (by first|assumption|omega)) rfl ?_
     |refine ab [999] (aG 1 rfl rfl rfl rfl rfl (by first|assumption|omega) rfl rfl) rfl ?_))
    exact⟨[0,1],⟨congrArg some (congrArg Value.bool (aA (h1 d hl))),rfl,rfl,rfl,trivial⟩,by decide,rfl⟩
  refine bI rfl ?_
  refine ad (aa ?_)
  (repeat' (first
   |refine ai ?_
   |refine ak (gs:=[999]) rfl ?_
   |refine ab [999] (af 0 rfl rfl rfl rfl) rfl ?_
   |refine ab [999] (aU rfl rfl rfl rfl rfl (by first|assumption|omega)) rfl ?_
   |refine ab [999] (am (m:=0) rfl rfl rfl rfl rfl (by decide)) rfl ?_
   |refine ab [999] (am (m:=1) rfl rfl rfl rfl rfl (by decide)) rfl ?_
   |refine ab [999] (aN 1 rfl rfl rfl rfl (by first|assumption|omega) (by first|assumption|omega)) rfl ?_
   |refine ab [999] (aG 1 rfl rfl rfl rfl rfl (by first|assumption|omega) rfl rfl) rfl ?_))
  ·refine aP 55 (v':=.bool true) rfl (congrArg Value.bool (az h2)) (bo rfl ?_)
   refine ad (aa (ah [] rfl ?_))
   refine ao [] (dd _ _ hNm _ hu _ _ h3) rfl rfl rfl rfl (by kernel_rfl) aK.refl trivial (fun _=>rfl) ?_
   rintro v H' rfl
   refine⟨rfl,ai ?_⟩
   refine ad (aa (ae [] rfl ?_))
   refine aB ⟨_,rfl,rfl,?_⟩
   show aW _ _ _ _ (k+k1+(k2-i)+i) _=_
   rw[show k+k1+(k2-i)+i=k+(k1+k2) by omega]
 |right h1 h2 h3 h4=>
  rename_i c i
  have hc:=hNm.r u hu
  rw[h3] at hc
  refine d7 [(44,.bool false),(5,.int .i64 want),(1,.int .i64 (u:Int)),(0,.pointer (some ⟨pf,0,none⟩))] (aW pf gn cap N (k+k1+(k2-(i+1))) m) ?_ ?_
  ·cases hl:(m u).l with
   |none=>
    refine aa (ah [] rfl ?_)
    refine aw 33 (v':=.bool false) rfl (congrArg Value.bool (aA (by show ¬ enc (m u).l≠-1;rw[hl];simp[enc]))) ?_
    (repeat' (first
     |refine ai ?_
     |refine ak (gs:=[999]) rfl ?_
     |refine ab [999] (af 0 rfl rfl rfl rfl) rfl ?_
     |refine ab [999] (aU rfl rfl rfl rfl rfl (by first|assumption|omega)) rfl ?_
     |refine ab [999] (am (m:=0) rfl rfl rfl rfl rfl (by decide)) rfl ?_
     |refine ab [999] (am (m:=1) rfl rfl rfl rfl rfl (by decide)) rfl ?_
     |refine ab [999] (aN 1 rfl rfl rfl rfl (by first|assumption|omega) (by first|assumption|omega)) rfl ?_
     |refine ab [999] (aG 1 rfl rfl rfl rfl rfl (by first|assumption|omega) rfl rfl) rfl ?_))
    exact⟨[0,1],⟨rfl,rfl,rfl,rfl,trivial⟩,by decide,rfl⟩
   |some d=>
    have hd:=hNm.l u hu
    rw[hl] at hd
    have hdN:d<N:=hd
    refine aP 6 (v':=.int .i64 (d:Int)) rfl (congrArg (Value.int .i64) (du hl)) ?_
    refine aa (ah [] rfl ?_)
    refine aw 33 (v':=.bool true) rfl (congrArg Value.bool (az (by omega))) ?_
    (repeat' (first
     |refine ai ?_
     |refine ak (gs:=[999]) rfl ?_
     |refine ab [999] (af 0 rfl rfl rfl rfl) rfl ?_
     |refine ab [999] (aU rfl rfl rfl rfl rfl (by first|assumption|omega)) rfl ?_
     |refine ab [999] (am (m:=0) rfl rfl rfl rfl rfl (by decide)) rfl ?_
     |refine ab [999] (am (m:=1) rfl rfl rfl rfl rfl (by decide)) rfl ?_
     |refine ab [999] (aN 1 rfl rfl rfl rfl (by first|assumption|omega) (by first|assumption|omega)) rfl ?_
     |refine ab [999] (aG 1 rfl rfl rfl rfl rfl (by first|assumption|omega) rfl rfl) rfl ?_))
    exact⟨[0,1],⟨congrArg some (congrArg Value.bool (aA (h1 d hl))),rfl,rfl,rfl,trivial⟩,by decide,rfl⟩
  refine bI rfl ?_
  refine ad (aa ?_)
  (repeat' (first
   |refine ai ?_
   |refine ak (gs:=[999]) rfl ?_
   |refine ab [999] (af 0 rfl rfl rfl rfl) rfl ?_
   |refine ab [999] (aU rfl rfl rfl rfl rfl (by first|assumption|omega)) rfl ?_
   |refine ab [999] (am (m:=0) rfl rfl rfl rfl rfl (by decide)) rfl ?_
   |refine ab [999] (am (m:=1) rfl rfl rfl rfl rfl (by decide)) rfl ?_
   |refine ab [999] (aN 1 rfl rfl rfl rfl (by first|assumption|omega) (by first|assumption|omega)) rfl ?_
   |refine ab [999] (aG 1 rfl rfl rfl rfl rfl (by first|assumption|omega) rfl rfl) rfl ?_))
  ·refine aP 55 (v':=.bool false) rfl (congrArg Value.bool (aA h2)) (bI rfl ?_)
   refine aa ?_
   (repeat' (first
    |refine ai ?_
    |refine ak (gs:=[999]) rfl ?_
    |refine ab [999] (af 0 rfl rfl rfl rfl) rfl ?_
    |refine ab [999] (aU rfl rfl rfl rfl rfl (by first|assumption|omega)) rfl ?_
    |refine ab [999] (am (m:=0) rfl rfl rfl rfl rfl (by decide)) rfl ?_
    |refine ab [999] (am (m:=1) rfl rfl rfl rfl rfl (by decide)) rfl ?_
    |refine ab [999] (aN 1 rfl rfl rfl rfl (by first|assumption|omega) (by first|assumption|omega)) rfl ?_
    |refine ab [999] (aG 1 rfl rfl rfl rfl rfl (by first|assumption|omega) rfl rfl) rfl ?_))
   refine aP 1 (v':=.int .i64 (c:Int)) rfl (congrArg (Value.int .i64) (du h3)) ?_
   show J _ _ _ _ (aW pf gn cap N (k+k1+(k2-(i+1))) m)
   refine aa (ah [] rfl ?_)
   refine ao [] (gY _ m hNm c hc) rfl rfl rfl rfl (by kernel_rfl) aK.refl trivial (fun _=>rfl) ?_
   rintro v H' rfl
   refine⟨rfl,ai ?_⟩
   refine⟨(di m c,c,i),[0,1],⟨rfl,rfl,rfl,trivial⟩,by decide,?_,⟨hNm.push hc,hc,h4,by show i≤k2;omega⟩,by show i<i+1;omega⟩
   show some (aW _ _ _ _ (k+k1+(k2-(i+1))+1) _)=_
   rw[show k+k1+(k2-(i+1))+1=k+k1+(k2-i) by omega]
end Go.Proofs.YtpbmihpjgjbndaaGreatDoor
/- Trees that are linked and cut: what each function does to the rows, and how it all lies in memory. -/
set_option linter.unusedVariables false
set_option linter.unusedSimpArgs false
namespace Go.Proofs.YtpbmihpjgjbndaaGreatDoor
open Go.RowKit
abbrev OV:=Nat→Option Nat
def aT (ov:OV) (x:Nat) (c:Option Nat):OV:=fun y=>if y=x then c else ov y
def wn (N:Nat) (ov:OV):List Value:=ap ((List.range N).map fun x=>enc (ov x))
theorem rH (N:Nat) (ov:OV):(wn N ov).length=N:=by simp[wn,ap]
theorem xk {N x:Nat} {ov:OV} (h:x<N):(wn N ov)[x]?=some (.int .i64 (enc (ov x))):=b8 (by simp[h])
theorem xG {N x:Nat} {ov:OV} (c:Option Nat):(wn N ov).set x (.int .i64 (enc c))=wn N (aT ov x c):=by
 unfold wn ap
 apply List.ext_getElem?
 intro i
 by_cases h:x=i
 ·subst h
  by_cases hx:x<N
  ·rw[List.getElem?_set_self (by simp[hx])]
   simp[hx,aT]
  ·rw[List.getElem?_eq_none (by simp;omega),List.getElem?_eq_none (by simp;omega)]
 ·rw[List.getElem?_set_ne h]
  by_cases hi:i<N
  ·simp[hi,aT,Ne.symm h]
  ·rw[List.getElem?_eq_none (by simp;omega),List.getElem?_eq_none (by simp;omega)]
structure eM where
 ns:bj
 ov:OV
 k:Nat
def hO (pt ps go gn co cap N:Nat) (s:eM):Heap:=
 aW ps gn cap N s.k s.ns++[blk pt 332 [.pointer (some ⟨ps,0,none⟩),.slice (some ⟨go,0,none⟩) N co,.int .i64 (N:Int)],.own (.slice (some ⟨go,0,none⟩) N co) 3 1 N (wn N s.ov)]
def fq (ns:bj) (x:Nat):bj:=match (ns x).l with
 |none=>ns
 |some c=>ek (e7 (e7 ns c { ns c with up:=none }) x (bW (e7 ns c { ns c with up:=none } x) 0 none)) x
theorem cV.split {N:Nat} {ns:bj} (h:cV N ns) {x:Nat} (hx:x<N):cV N (fq ns x):=by
 unfold fq
 have hl:=h.l x hx
 split
 ·exact h
 ·rename_i c hc
  rw[hc] at hl
  have hcN:c<N:=hl
  exact (cV.setDown (h.upd (x:=c) (d:={ ns c with up:=none }) trivial (h.l c hcN) (h.r c hcN)) hx (c:=none) trivial 0).pull hx
theorem cV.joined {N:Nat} {ns ns':bj} {a b k:Nat} (hN:cV N ns) (ha:a<N) (hb:b<N) (h:mN ns a b ns' k):cV N ns':=by
 obtain⟨n1,n2,n3,n4,k1,k2,k3,k4,a',b',h1,h2,hup,h3,h4,rfl,rfl⟩:=h
 have hN1:=hN.splay ha h1
 have hN2:=hN1.splay hb h2
 obtain⟨hN3,ha'⟩:=hN2.end_ ha h3
 obtain⟨hN4,hb'⟩:=hN3.end_ hb h4
 exact (hN4.hang (c:=some a') ha' hb' 0).pull hb'
structure jE (N:Nat) (s:eM):Prop where
 ns:cV N s.ns
 ov:∀ x,x<N→oV N (s.ov x)
def t8 (s:eM) (v:Nat) (s':eM):Prop:=∃ n1 deep k1,Edge 0 s.ns v n1 deep k1∧
 (deep=v∧s'=⟨n1,s.ov,s.k+k1⟩∨deep≠v∧∃ n2 k2 n3 top k3,dQ n1 v n2 k2∧Edge 1 (fq n2 v) deep n3 top k3∧s'=⟨n3,aT s.ov top (some v),s.k+k1+k2+k3⟩)
inductive qc (v:Nat):eM→eM→Nat→Prop
 |done {s:eM} {n1:bj} {top k1:Nat}:Edge 1 s.ns v n1 top k1→s.ov top=none→qc v s ⟨n1,s.ov,s.k+k1⟩ 0
 |go {s s2 s':eM} {n1 n4:bj} {top k1 w k4 i:Nat}:Edge 1 s.ns v n1 top k1→s.ov top=some w→t8 ⟨n1,s.ov,s.k+k1⟩ w s2→v≠w→mN s2.ns v w n4 k4→qc v ⟨n4,aT s2.ov top none,s2.k+k4⟩ s' i→qc v s s' (i+1)
def ym (s:eM) (v:Nat) (s':eM):Prop:=∃ s1 i,t8 s v s1∧qc v s1 s' i
theorem jE.part {N:Nat} {s s':eM} {v:Nat} (h:jE N s) (hv:v<N) (hp:t8 s v s'):jE N s':=by
 obtain⟨n1,deep,k1,h1,⟨_,rfl⟩|⟨_,n2,k2,n3,top,k3,h2,h3,rfl⟩⟩:=hp
 ·exact⟨(h.ns.edge hv h1).1,h.ov⟩
 ·obtain⟨hN1,hd⟩:=h.ns.edge hv h1
  refine⟨(((hN1.splay hv h2).split hv).edge hd h3).1,fun x hx=>?_⟩
  simp only[aT]
  split
  ·exact hv
  ·exact h.ov x hx
theorem jE.ovn {N:Nat} {s:eM} {x:Nat} (h:jE N s) (ns:bj) (hn:cV N ns) (k:Nat):jE N ⟨ns,aT s.ov x none,k⟩:=by
 refine⟨hn,fun y hy=>?_⟩
 simp only[aT]
 split
 ·trivial
 ·exact h.ov y hy
theorem jE.accL {N v:Nat} {s s':eM} {i:Nat} (h:qc v s s' i) (hv:v<N):jE N s→jE N s':=by
 induction h with
 |done h1 _=>exact fun hs=>⟨(hs.ns.edge hv h1).1,hs.ov⟩
 |go h1 h2 h3 h4 h5 _ ih=>
  intro hs
  obtain⟨hN1,ht⟩:=hs.ns.edge hv h1
  have hw:=hs.ov _ ht
  rw[h2] at hw
  have h2':=jE.part (s:=⟨_,_,_⟩) ⟨hN1,hs.ov⟩ hw h3
  exact ih (h2'.ovn _ (h2'.ns.joined hv hw h5) _)
theorem jE.acc {N v:Nat} {s s':eM} (h:jE N s) (hv:v<N) (ha:ym s v s'):jE N s':=by
 obtain⟨s1,i,h1,h2⟩:=ha
 exact jE.accL h2 hv (h.part hv h1)
section
variable {pt ps go gn co cap N:Nat}
theorem mt {X:Cx} {Q:dl} {E E':Env} {H:Heap} {ops l:List Oper} {o:Oper} {t x:Nat} {xo yo:Operand} {ov:OV} {c:Option Nat} (k:Nat) (ho:o.op=.store t xo yo) (hx:val E xo=some (.pointer (some ⟨go,x,none⟩))) (hy:val E yo=some (.int .i64 (enc c)))
 (hk:H[k]?=some (.own (.slice (some ⟨go,0,none⟩) N co) 3 1 N (wn N ov))) {uk:UK} {by':Nat} {z':Option Value} (ht:tab t=some ⟨uk,1,by',z'⟩) (hxN:x<N) (gs:List Nat) (hb:iJ X.n ops gs E o undef=some E')
 (h:JL X ops l Q E' (H.set k (.own (.slice (some ⟨go,0,none⟩) N co) 3 1 N (wn N (aT ov x c))))):JL X ops (o::l) Q E H:=by
 refine aQ k ho hx hy hk (dk ht rfl rfl (by rw[rH];exact hxN)) gs hb ?_
 rw[xG];exact h
theorem sD (s:eM) (hs:jE N s) (v:Nat) (hv:v<N) (s':eM) (h:t8 s v s'):Fn 274 [.pointer (some ⟨pt,0,none⟩),.int .i64 (v:Int)] (aR (hO pt ps go gn co cap N s)) ([]++hO pt ps go gn co cap N s) fun _ H'=>H'=hO pt ps go gn co cap N s':=by
 obtain⟨ns,ov,k⟩:=s
 obtain⟨n1,deep,k1,h1,hc⟩:=h
 obtain⟨hN1,hd⟩:=hs.ns.edge hv h1
 generalize hM:aR _=M
 refine aS Tryz.func274 rfl rfl fun w0=>?_
 refine ad (aa ?_)
 (repeat' (first
  |refine ak (gs:=[999]) rfl ?_
  |refine ab [999] (af 2 rfl rfl rfl rfl) rfl ?_))
 refine ao [] (um _ _ hs.ns v hv n1 deep k1 h1) rfl rfl rfl rfl (by kernel_rfl) aK.refl trivial (fun _=>rfl) ?_
 rintro r H' ⟨rfl,rfl⟩
 refine⟨rfl,?_⟩
 (repeat' (first
  |refine ak (gs:=[999]) rfl ?_
  |refine ab [999] (af 2 rfl rfl rfl rfl) rfl ?_))
 refine ai ?_
 refine ad (ad (aa (ae [] rfl ?_)))
 rcases hc with ⟨rfl,rfl⟩|⟨hne,n2,k2,n3,top,k3,h2,h3,rfl⟩
 ·refine aP 13 (v':=.bool true) rfl (congrArg Value.bool (az rfl)) (bo rfl (aB ⟨_,rfl,rfl⟩))
 ·have hN2:=hN1.splay hv h2
  have hN3:=hN2.split hv
  have htop:=(hN3.edge hd h3).2
  refine aP 13 (v':=.bool false) rfl (congrArg Value.bool (aA (by omega))) (bI rfl (av ?_))
  refine ad (aa ?_)
  (repeat' (first
   |refine ak (gs:=[999]) rfl ?_
   |refine ab [999] (af 2 rfl rfl rfl rfl) rfl ?_))
  refine ao [] (nQ _ n1 hN1 v hv n2 k2 h2) rfl rfl rfl rfl (by kernel_rfl) aK.refl trivial (fun _=>rfl) ?_
  rintro r H' rfl
  refine⟨rfl,ai ?_⟩
  show J _ _ _ _ (aW ps gn cap N (k+k1+k2) (fq n2 v)++_)
  refine bp 13 [(0,true),(1,true),(2,true),(3,true),(4,true),(5,true),(6,true),(7,true),(8,true),(10,true),(9,false),(11,true),(12,false)] [2] (by kernel_rfl) (by decide) rfl ?_
  (repeat' (first
   |refine aZ (gs:=[999]) rfl rfl ?_
   |refine aj [999] rfl (af 0 rfl rfl rfl rfl) rfl ?_))
  refine a6 rfl ?_
  refine ao [] (m0 _ _ hN3 deep hd n3 top k3 h3) rfl rfl rfl rfl (by kernel_rfl) aK.refl trivial (fun _=>rfl) ?_
  rintro r H' ⟨rfl,rfl⟩
  refine⟨rfl,ai ⟨⟨[2],by decide,rfl⟩,?_⟩⟩
  (repeat' (first
   |refine aZ (gs:=[999]) rfl rfl ?_
   |refine aj [999] rfl (aJ rfl rfl rfl rfl rfl htop) rfl ?_))
  refine a6 rfl ?_
  refine mt (c:=some v) 3 rfl rfl rfl rfl rfl htop [] rfl ?_
  refine ai ⟨⟨[2],by decide,rfl⟩,?_⟩
  refine bv ?_
  exact ai ⟨_,rfl,rfl⟩
end
end Go.Proofs.YtpbmihpjgjbndaaGreatDoor
/- Trees that are linked and cut: a node's path is made a row, step by step. -/
set_option linter.unusedVariables false
set_option linter.unusedSimpArgs false
namespace Go.Proofs.YtpbmihpjgjbndaaGreatDoor
open Go.RowKit
variable {pt ps go gn co cap N:Nat}
theorem ie (s:eM) (hs:jE N s) (v:Nat) (hv:v<N) (s':eM) (h:ym s v s'):Fn 263 [.pointer (some ⟨pt,0,none⟩),.int .i64 (v:Int)] (aR (hO pt ps go gn co cap N s)) ([]++hO pt ps go gn co cap N s) fun _ H'=>H'=hO pt ps go gn co cap N s':=by
 obtain⟨s1,i0,hP,hL⟩:=h
 have hs1:=hs.part hv hP
 generalize hM:aR _=M
 refine aS Tryz.func263 rfl rfl fun w0=>?_
 refine ad (aa (ah [] rfl ?_))
 refine ao [] (sD s hs v hv s1 hP) rfl rfl rfl rfl (by kernel_rfl) aK.refl trivial (fun _=>rfl) ?_
 rintro r H' rfl
 refine⟨rfl,ai ?_⟩
 refine au ?_
 refine bq (σ:=eM×Nat) (fun _=>[(1,.int .i64 (v:Int)),(0,.pointer (some ⟨pt,0,none⟩))]) (fun t=>hO pt ps go gn co cap N t.1) (fun t=>jE N t.1∧qc v t.1 s' t.2) (fun t=>t.2) (s1,i0) [0,1,2,3] ⟨rfl,rfl,trivial⟩ (by decide) rfl ⟨hs1,hL⟩ ?_
 rintro⟨m,i⟩ ⟨hm,hLm⟩
 simp only at hm hLm ⊢
 refine au (ad (aa ?_))
 (repeat' (first
  |refine ak (gs:=[999]) rfl ?_
  |refine ab [999] (af 2 rfl rfl rfl rfl) rfl ?_))
 obtain⟨n1,top,k1,hE,hc⟩:∃ n1 top k1,Edge 1 m.ns v n1 top k1∧(m.ov top=none∧s'=⟨n1,m.ov,m.k+k1⟩∨∃ w,m.ov top=some w∧∃ s2 n4 k4 j,t8 ⟨n1,m.ov,m.k+k1⟩ w s2∧v≠w∧mN s2.ns v w n4 k4∧qc v ⟨n4,aT s2.ov top none,s2.k+k4⟩ s' j∧i=j+1):=by
  cases hLm with
  |done h1 h2=>exact⟨_,_,_,h1,.inl ⟨h2,rfl⟩⟩
  |go h1 h2 h3 h4 h5 h6=>exact⟨_,_,_,h1,.inr ⟨_,h2,_,_,_,_,h3,h4,h5,h6,rfl⟩⟩
 obtain⟨hN1,htop⟩:=hm.ns.edge hv hE
 refine ao [] (m0 _ _ hm.ns v hv n1 top k1 hE) rfl rfl rfl rfl (by kernel_rfl) aK.refl trivial (fun _=>rfl) ?_
 rintro r H' ⟨rfl,rfl⟩
 refine⟨rfl,?_⟩
 (repeat' (first
  |refine ak (gs:=[999]) rfl ?_
  |refine ab [999] (af 2 rfl rfl rfl rfl) rfl ?_))
 refine ai ?_
 refine ad (aa ?_)
 (repeat' (first
  |refine ak (gs:=[999]) rfl ?_
  |refine ab [999] (af 2 rfl rfl rfl rfl) rfl ?_))
 refine ab [] (aJ rfl rfl rfl rfl rfl htop) rfl ?_
 refine ab [] (aD (v:=.int .i64 (enc (m.ov top))) 3 rfl rfl rfl (xk htop)) rfl ?_
 (repeat' (first
  |refine ak (gs:=[999]) rfl ?_
  |refine ab [999] (af 2 rfl rfl rfl rfl) rfl ?_))
 refine ai ?_
 refine ad (ad (aa (ae [] rfl ?_)))
 rcases hc with ⟨hn,rfl⟩|⟨w,hw,s2,n4,k4,j,h3,h4,h5,h6,rfl⟩
 ·refine aP 23 (v':=.bool true) rfl (congrArg Value.bool (az (by show enc (m.ov top)=-1;rw[hn];rfl))) (bo rfl (aB ⟨_,rfl,rfl⟩))
 ·have hwN:=hm.ov _ htop
  rw[hw] at hwN
  refine aP 23 (v':=.bool false) rfl (congrArg Value.bool (aA (by show ¬ enc (m.ov top)=-1;rw[hw];simp[enc]))) (bI rfl (av ?_))
  refine aP 5 (v':=.int .i64 (w:Int)) rfl (congrArg (Value.int .i64) (du hw)) ?_
  have hm1:jE N ⟨n1,m.ov,m.k+k1⟩:=⟨hN1,hm.ov⟩
  have hs2:=hm1.part hwN h3
  show J _ _ _ _ (hO pt ps go gn co cap N ⟨n1,m.ov,m.k+k1⟩)
  refine ad (aa (ah [] rfl ?_))
  refine ao [] (sD _ hm1 w hwN s2 h3) rfl rfl rfl rfl (by kernel_rfl) aK.refl trivial (fun _=>rfl) ?_
  rintro r H' rfl
  refine⟨rfl,ai ?_⟩
  show J _ _ _ _ (hO pt ps go gn co cap N s2)
  refine ad (aa ?_)
  (repeat' (first
   |refine ak (gs:=[999]) rfl ?_
   |refine ab [999] (af 2 rfl rfl rfl rfl) rfl ?_))
  refine ab [] (aJ rfl rfl rfl rfl rfl htop) rfl ?_
  refine mt (c:=none) 3 rfl rfl rfl rfl rfl htop [] rfl ?_
  refine ai ?_
  show J _ _ _ _ (aW ps gn cap N s2.k s2.ns++_)
  refine aa ?_
  (repeat' (first
   |refine ak (gs:=[999]) rfl ?_
   |refine ab [999] (af 2 rfl rfl rfl rfl) rfl ?_))
  refine ao [] (xX _ _ hs2.ns v w hv hwN h4 n4 k4 h5) rfl rfl rfl rfl (by kernel_rfl) aK.refl trivial (fun _=>rfl) ?_
  rintro r H' rfl
  refine⟨rfl,ai ?_⟩
  exact⟨(⟨n4,aT s2.ov top none,s2.k+k4⟩,j),[0,1,2,3],⟨rfl,rfl,trivial⟩,by decide,rfl,⟨hs2.ovn _ (hs2.ns.joined hv hwN h5) _,h6⟩,by show j<j+1;omega⟩
theorem eW (s:eM) (v:Nat) (hv:v<N):Fn 262 [.pointer (some ⟨pt,0,none⟩),.int .i64 (v:Int)] (aR (hO pt ps go gn co cap N s)) ([]++hO pt ps go gn co cap N s) fun r H'=>r=.bool true∧H'=hO pt ps go gn co cap N s:=by
 generalize hM:aR _=M
 refine aS Tryz.func262 rfl rfl fun w0=>?_
 refine ad (aa (ae [] rfl ?_))
 refine ad (aa (ah [] rfl ?_))
 refine aw 7 (v':=.bool true) rfl (congrArg Value.bool (az (by omega))) ?_
 (repeat' (first
  |refine ak (gs:=[999]) rfl ?_
  |refine ab [999] (af 2 rfl rfl rfl rfl) rfl ?_))
 refine ai ?_
 refine aP 4 (v':=.bool true) rfl (congrArg Value.bool (az (by omega))) ?_
 exact aB ⟨_,rfl,rfl,rfl⟩
def pO (s:eM) (v:Nat) (s':eM) (y:Nat):Prop:=∃ s1 n1 k1,ym s v s1∧Edge 1 s1.ns v n1 y k1∧s'=⟨n1,s1.ov,s1.k+k1⟩
def o6 (s:eM) (v:Nat) (s':eM) (y:Option Nat):Prop:=∃ s1 n1 k1,ym s v s1∧zG s1.ns v 1 n1 y k1∧s'=⟨n1,s1.ov,s1.k+k1⟩
def zn (s:eM) (v:Nat) (s':eM):Prop:=∃ n1 k1,dQ s.ns v n1 k1∧s'=⟨n1,s.ov,s.k+k1⟩
def yi (s:eM) (v w:Nat) (s':eM):Prop:=∃ s1 s2 s3 z,pO s v s1 v∧pO s1 w s2 z∧z≠v∧ym s2 v s3∧s'=⟨s3.ns,aT s3.ov v (some w),s3.k⟩
def zo (s:eM) (v:Nat) (s':eM):Prop:=∃ s1 u n1 k1,o6 s v s1 (some u)∧dQ s1.ns u n1 k1∧s'=⟨fq n1 u,s1.ov,s1.k+k1⟩
def vC (s:eM) (v:Nat) (s':eM) (y:Nat):Prop:=∃ s1 n1 k1 n2 k2 n3 k3,ym s v s1∧dQ s1.ns v n1 k1∧zz (eB n1 (some v) 0 true) v n2 y k2∧dQ n2 v n3 k3∧s'=⟨eB n3 (some v) 0 true,s1.ov,s1.k+k1+k2+k3⟩
def zl (s:eM) (v:Nat) (d:Int) (s':eM):Prop:=∃ s1 n1 k1,ym s v s1∧dQ s1.ns v n1 k1∧(0≤d→(n1 v).most≤4611686018427387904-d)∧(d<0→-4611686018427387904-d≤(n1 v).least)∧s'=⟨eB n1 (some v) d false,s1.ov,s1.k+k1⟩
theorem cV.leR {N:Nat} {want:Int} {ns ns':bj} {x y k:Nat} (h:vu want ns x ns' y k):x<N→cV N ns→cV N ns'∧y<N:=by
 induction h with
 |left h1 _ _ ih=>
  intro hx hN
  have hc:=hN.l _ hx
  rw[h1] at hc
  exact ih hc (hN.push hc)
 |here _ _ h3=>exact fun hx hN=>⟨hN.splay hx h3,hx⟩
 |right _ _ h3 _ ih=>
  intro hx hN
  have hc:=hN.r _ hx
  rw[h3] at hc
  exact ih hc (hN.push hc)
theorem cV.atR {N:Nat} {p:Int} {ns ns':bj} {x y k:Nat} (h:wU ns x p ns' y k):x<N→cV N ns→cV N ns'∧y<N:=by
 induction h with
 |left _ h1 _ ih=>
  intro hx hN
  have hc:=hN.l _ hx
  rw[h1] at hc
  exact ih hc (hN.push hc)
 |here _ h3=>exact fun hx hN=>⟨hN.splay hx h3,hx⟩
 |right _ h3 _ ih=>
  intro hx hN
  have hc:=hN.r _ hx
  rw[h3] at hc
  exact ih hc (hN.push hc)
theorem jE.above {N v:Nat} {s s':eM} {u:Nat} (hs:jE N s) (hv:v<N) (h:o6 s v s' (some u)):jE N s'∧u<N:=by
 obtain⟨s1,n1,k1,hA,hE,rfl⟩:=h
 have hs1:=hs.acc hv hA
 obtain⟨m1,j1,hS,⟨_,h2,_⟩|⟨_,_,z,k2,h3,h4,_⟩⟩:=hE
 ·cases h2
 ·simp only[Option.some.injEq] at h4
  subst h4
  obtain⟨g1,g2⟩:=cV.atR h3 hv (hs1.ns.splay hv hS)
  exact⟨⟨g1,hs1.ov⟩,g2⟩
theorem jE.root {N v:Nat} {s s':eM} {y:Nat} (hs:jE N s) (hv:v<N) (h:pO s v s' y):jE N s':=by
 obtain⟨s1,n1,k1,hA,hE,rfl⟩:=h
 have hs1:=hs.acc hv hA
 exact⟨(hs1.ns.edge hv hE).1,hs1.ov⟩
theorem o5 (s:eM) (hs:jE N s) (v:Nat) (hv:v<N) (s':eM) (y:Nat) (h:pO s v s' y):Fn 253 [.pointer (some ⟨pt,0,none⟩),.int .i64 (v:Int)] (aR (hO pt ps go gn co cap N s)) ([]++hO pt ps go gn co cap N s) fun r H'=>r=.int .i64 (y:Int)∧H'=hO pt ps go gn co cap N s':=by
 obtain⟨s1,n1,k1,hA,hE,rfl⟩:=h
 have hs1:=hs.acc hv hA
 generalize hM:aR _=M
 refine aS Tryz.func253 rfl rfl fun w0=>?_
 refine ad (aa (ae [] rfl ?_))
 refine ad (ad (aa (ah [] rfl ?_)))
 refine ao [] (eW _ _ hv) rfl rfl rfl rfl (by kernel_rfl) aK.refl trivial (fun _=>rfl) ?_
 rintro r H' ⟨rfl,rfl⟩
 refine⟨rfl,?_⟩
 (repeat' (first
  |refine ak (gs:=[999]) rfl ?_
  |refine ab [999] (af 2 rfl rfl rfl rfl) rfl ?_))
 refine ai ?_
 refine bI rfl ?_
 refine av (ad (aa (ah [] rfl ?_)))
 refine ao [] (ie _ hs _ hv _ hA) rfl rfl rfl rfl (by kernel_rfl) aK.refl trivial (fun _=>rfl) ?_
 rintro r H' rfl
 refine⟨rfl,ai ?_⟩
 refine ad (aa ?_)
 (repeat' (first
  |refine ak (gs:=[999]) rfl ?_
  |refine ab [999] (af 2 rfl rfl rfl rfl) rfl ?_))
 refine ao [] (m0 _ _ hs1.ns v hv n1 y k1 hE) rfl rfl rfl rfl (by kernel_rfl) aK.refl trivial (fun _=>rfl) ?_
 rintro r H' ⟨rfl,rfl⟩
 refine⟨rfl,?_⟩
 (repeat' (first
  |refine ak (gs:=[999]) rfl ?_
  |refine ab [999] (af 2 rfl rfl rfl rfl) rfl ?_))
 refine ai ?_
 exact aB ⟨_,rfl,rfl,rfl⟩
theorem pH (s:eM) (hs:jE N s) (v:Nat) (hv:v<N) (s':eM) (y:Option Nat) (h:o6 s v s' y):Fn 268 [.pointer (some ⟨pt,0,none⟩),.int .i64 (v:Int)] (aR (hO pt ps go gn co cap N s)) ([]++hO pt ps go gn co cap N s) fun r H'=>r=.int .i64 (enc y)∧H'=hO pt ps go gn co cap N s':=by
 obtain⟨s1,n1,k1,hA,hE,rfl⟩:=h
 have hs1:=hs.acc hv hA
 generalize hM:aR _=M
 refine aS Tryz.func268 rfl rfl fun w0=>?_
 refine ad (aa (ae [] rfl ?_))
 refine ad (ad (aa (ah [] rfl ?_)))
 refine ao [] (eW _ _ hv) rfl rfl rfl rfl (by kernel_rfl) aK.refl trivial (fun _=>rfl) ?_
 rintro r H' ⟨rfl,rfl⟩
 refine⟨rfl,?_⟩
 (repeat' (first
  |refine ak (gs:=[999]) rfl ?_
  |refine ab [999] (af 2 rfl rfl rfl rfl) rfl ?_))
 refine ai ?_
 refine bI rfl ?_
 refine av (ad (aa (ah [] rfl ?_)))
 refine ao [] (ie _ hs _ hv _ hA) rfl rfl rfl rfl (by kernel_rfl) aK.refl trivial (fun _=>rfl) ?_
 rintro r H' rfl
 refine⟨rfl,ai ?_⟩
 refine ad (aa ?_)
 (repeat' (first
  |refine ak (gs:=[999]) rfl ?_
  |refine ab [999] (af 2 rfl rfl rfl rfl) rfl ?_))
 refine ao [] (zt _ _ hs1.ns v hv 1 n1 y k1 hE) rfl rfl rfl rfl (by kernel_rfl) aK.refl trivial (fun _=>rfl) ?_
 rintro r H' ⟨rfl,rfl⟩
 refine⟨rfl,?_⟩
 (repeat' (first
  |refine ak (gs:=[999]) rfl ?_
  |refine ab [999] (af 2 rfl rfl rfl rfl) rfl ?_))
 refine ai ?_
 exact aB ⟨_,rfl,rfl,rfl⟩
theorem ru (s:eM) (hs:jE N s) (v:Nat) (hv:v<N) (s':eM) (h:zn s v s'):Fn 265 [.pointer (some ⟨pt,0,none⟩),.int .i64 (v:Int)] (aR (hO pt ps go gn co cap N s)) ([]++hO pt ps go gn co cap N s) fun r H'=>r=.int .i64 (s'.ns v).value∧H'=hO pt ps go gn co cap N s':=by
 obtain⟨n1,k1,hS,rfl⟩:=h
 generalize hM:aR _=M
 refine aS Tryz.func265 rfl rfl fun w0=>?_
 refine ad (aa (ae [] rfl ?_))
 refine ad (aa ?_)
 (repeat' (first
  |refine ak (gs:=[999]) rfl ?_
  |refine ab [999] (af 2 rfl rfl rfl rfl) rfl ?_))
 refine ao [] (vw _ _ hs.ns v hv n1 k1 hS) rfl rfl rfl rfl (by kernel_rfl) aK.refl trivial (fun _=>rfl) ?_
 rintro r H' ⟨rfl,rfl⟩
 refine⟨rfl,?_⟩
 (repeat' (first
  |refine ak (gs:=[999]) rfl ?_
  |refine ab [999] (af 2 rfl rfl rfl rfl) rfl ?_))
 refine ai ?_
 exact aB ⟨_,rfl,rfl,rfl⟩
theorem tK (s:eM):Fn 250 [.pointer (some ⟨pt,0,none⟩)] (aR (hO pt ps go gn co cap N s)) ([]++hO pt ps go gn co cap N s) fun r H'=>r=.int .i64 (cD s.k)∧H'=hO pt ps go gn co cap N s:=by
 generalize hM:aR _=M
 refine aS Tryz.func250 rfl rfl fun w0=>?_
 refine ad (aa (ae [] rfl ?_))
 refine ad (aa ?_)
 (repeat' (first
  |refine ak (gs:=[999]) rfl ?_
  |refine ab [999] (af 2 rfl rfl rfl rfl) rfl ?_))
 refine ao [] (ud s.k s.ns) rfl rfl rfl rfl (by kernel_rfl) aK.refl trivial (fun _=>rfl) ?_
 rintro r H' ⟨rfl,rfl⟩
 refine⟨rfl,?_⟩
 (repeat' (first
  |refine ak (gs:=[999]) rfl ?_
  |refine ab [999] (af 2 rfl rfl rfl rfl) rfl ?_))
 refine ai ?_
 exact aB ⟨_,rfl,rfl,rfl⟩
theorem xz (s:eM) (hs:jE N s) (v:Nat) (hv:v<N) (d:Int) (hd:-9223372036854775808≤d∧d≤9223372036854775807) (s':eM) (h:zl s v d s'):Fn 267 [.pointer (some ⟨pt,0,none⟩),.int .i64 (v:Int),.int .i64 d] (aR (hO pt ps go gn co cap N s)) ([]++hO pt ps go gn co cap N s) fun _ H'=>H'=hO pt ps go gn co cap N s':=by
 obtain⟨s1,n1,k1,hA,hS,h1,h2,rfl⟩:=h
 have hs1:=hs.acc hv hA
 generalize hM:aR _=M
 refine aS Tryz.func267 rfl rfl fun w0=>?_
 refine ad (aa (ae [] rfl ?_))
 refine ad (ad (aa (ah [] rfl ?_)))
 refine ao [] (eW _ _ hv) rfl rfl rfl rfl (by kernel_rfl) aK.refl trivial (fun _=>rfl) ?_
 rintro r H' ⟨rfl,rfl⟩
 refine⟨rfl,?_⟩
 (repeat' (first
  |refine ak (gs:=[999]) rfl ?_
  |refine ab [999] (af 2 rfl rfl rfl rfl) rfl ?_))
 refine ai ?_
 refine bI rfl ?_
 refine av (ad (aa (ah [] rfl ?_)))
 refine ao [] (ie _ hs _ hv _ hA) rfl rfl rfl rfl (by kernel_rfl) aK.refl trivial (fun _=>rfl) ?_
 rintro r H' rfl
 refine⟨rfl,ai ?_⟩
 refine ad (aa ?_)
 (repeat' (first
  |refine ak (gs:=[999]) rfl ?_
  |refine ab [999] (af 2 rfl rfl rfl rfl) rfl ?_))
 refine ao [] (xv _ _ hs1.ns v hv n1 k1 hS d hd h1 h2) rfl rfl rfl rfl (by kernel_rfl) aK.refl trivial (fun _=>rfl) ?_
 rintro r H' rfl
 refine⟨rfl,?_⟩
 (repeat' (first
  |refine ak (gs:=[999]) rfl ?_
  |refine ab [999] (af 2 rfl rfl rfl rfl) rfl ?_))
 refine ai ?_
 exact aB ⟨_,rfl,rfl⟩
theorem uJ (s:eM) (hs:jE N s) (v:Nat) (hv:v<N) (s':eM) (y:Nat) (h:vC s v s' y):Fn 266 [.pointer (some ⟨pt,0,none⟩),.int .i64 (v:Int)] (aR (hO pt ps go gn co cap N s)) ([]++hO pt ps go gn co cap N s) fun r H'=>r=.int .i64 (y:Int)∧H'=hO pt ps go gn co cap N s':=by
 obtain⟨s1,n1,k1,n2,k2,n3,k3,hA,hS,hL,hS3,rfl⟩:=h
 have hs1:=hs.acc hv hA
 have hN1:=(hs1.ns.splay hv hS).lay (c:=some v) hv 0 true
 have hN2:cV N n2:=by
  obtain⟨m1,j1,j2,g1,g2,_⟩:=hL
  exact (cV.leR g2 hv (hN1.splay hv g1)).1
 generalize hM:aR _=M
 refine aS Tryz.func266 rfl rfl fun w0=>?_
 refine ad (aa (ae [] rfl ?_))
 refine ad (ad (aa (ah [] rfl ?_)))
 refine ao [] (eW _ _ hv) rfl rfl rfl rfl (by kernel_rfl) aK.refl trivial (fun _=>rfl) ?_
 rintro r H' ⟨rfl,rfl⟩
 refine⟨rfl,?_⟩
 (repeat' (first
  |refine ak (gs:=[999]) rfl ?_
  |refine ab [999] (af 2 rfl rfl rfl rfl) rfl ?_))
 refine ai ?_
 refine bI rfl ?_
 refine av (ad (aa (ah [] rfl ?_)))
 refine ao [] (ie _ hs _ hv _ hA) rfl rfl rfl rfl (by kernel_rfl) aK.refl trivial (fun _=>rfl) ?_
 rintro r H' rfl
 refine⟨rfl,ai ?_⟩
 refine ad (aa ?_)
 (repeat' (first
  |refine ak (gs:=[999]) rfl ?_
  |refine ab [999] (af 2 rfl rfl rfl rfl) rfl ?_))
 refine ao [] (qK _ _ hs1.ns v hv n1 k1 hS) rfl rfl rfl rfl (by kernel_rfl) aK.refl trivial (fun _=>rfl) ?_
 rintro r H' rfl
 refine⟨rfl,ai ?_⟩
 show J _ _ _ _ (aW ps gn cap N _ _++_)
 refine ad (aa ?_)
 (repeat' (first
  |refine ak (gs:=[999]) rfl ?_
  |refine ab [999] (af 2 rfl rfl rfl rfl) rfl ?_))
 refine ao [] (uR _ _ hN1 v hv n2 y k2 hL) rfl rfl rfl rfl (by kernel_rfl) aK.refl trivial (fun _=>rfl) ?_
 rintro r H' ⟨rfl,rfl⟩
 refine⟨rfl,?_⟩
 (repeat' (first
  |refine ak (gs:=[999]) rfl ?_
  |refine ab [999] (af 2 rfl rfl rfl rfl) rfl ?_))
 refine ai ?_
 refine ad (aa ?_)
 (repeat' (first
  |refine ak (gs:=[999]) rfl ?_
  |refine ab [999] (af 2 rfl rfl rfl rfl) rfl ?_))
 refine ao [] (qK _ _ hN2 v hv n3 k3 hS3) rfl rfl rfl rfl (by kernel_rfl) aK.refl trivial (fun _=>rfl) ?_
 rintro r H' rfl
 refine⟨rfl,ai ?_⟩
 refine ad (aa (ae [] rfl ?_))
 exact aB ⟨_,rfl,rfl,rfl⟩
theorem xg (s:eM) (hs:jE N s) (v:Nat) (hv:v<N) (s':eM) (h:zo s v s'):Fn 271 [.pointer (some ⟨pt,0,none⟩),.int .i64 (v:Int)] (aR (hO pt ps go gn co cap N s)) ([]++hO pt ps go gn co cap N s) fun _ H'=>H'=hO pt ps go gn co cap N s':=by
 obtain⟨s1,u,n1,k1,hA,hS,rfl⟩:=h
 obtain⟨hs1,huN⟩:=hs.above hv hA
 generalize hM:aR _=M
 refine aS Tryz.func271 rfl rfl fun w0=>?_
 refine ad (aa (ae [] rfl ?_))
 refine ad (ad (aa (ah [] rfl ?_)))
 refine ao [] (eW _ _ hv) rfl rfl rfl rfl (by kernel_rfl) aK.refl trivial (fun _=>rfl) ?_
 rintro r H' ⟨rfl,rfl⟩
 refine⟨rfl,?_⟩
 (repeat' (first
  |refine ak (gs:=[999]) rfl ?_
  |refine ab [999] (af 2 rfl rfl rfl rfl) rfl ?_))
 refine ai ?_
 refine bI rfl ?_
 refine av (ad (aa (ah [] rfl ?_)))
 refine ao [] (pH s hs v hv s1 (some u) hA) rfl rfl rfl rfl (by kernel_rfl) aK.refl trivial (fun _=>rfl) ?_
 rintro r H' ⟨rfl,rfl⟩
 refine⟨rfl,?_⟩
 (repeat' (first
  |refine ak (gs:=[999]) rfl ?_
  |refine ab [999] (af 2 rfl rfl rfl rfl) rfl ?_))
 refine ai ?_
 refine ad (ad (aa (ae [] rfl ?_)))
 refine aP 14 (v':=.bool false) rfl (congrArg Value.bool (aA (by simp[enc]))) (bI rfl (av ?_))
 show J _ _ _ _ (aW ps gn cap N _ _++_)
 refine ad (aa ?_)
 (repeat' (first
  |refine ak (gs:=[999]) rfl ?_
  |refine ab [999] (af 2 rfl rfl rfl rfl) rfl ?_))
 refine ao [] (nQ _ _ hs1.ns u huN n1 k1 hS) rfl rfl rfl rfl (by kernel_rfl) aK.refl trivial (fun _=>rfl) ?_
 rintro r H' rfl
 refine⟨rfl,ai ?_⟩
 refine ad (aa (ae [] rfl ?_))
 exact aB ⟨_,rfl,rfl⟩
theorem w9 (s:eM) (hs:jE N s) (v w:Nat) (hv:v<N) (hw:w<N) (s':eM) (h:yi s v w s'):Fn 270 [.pointer (some ⟨pt,0,none⟩),.int .i64 (v:Int),.int .i64 (w:Int)] (aR (hO pt ps go gn co cap N s)) ([]++hO pt ps go gn co cap N s) fun _ H'=>H'=hO pt ps go gn co cap N s':=by
 obtain⟨s1,s2,s3,z,hR1,hR2,hz,hA,rfl⟩:=h
 have hs1:=hs.root hv hR1
 have hs2:=hs1.root hw hR2
 have hs3:=hs2.acc hv hA
 generalize hM:aR _=M
 refine aS Tryz.func270 rfl rfl fun w0=>?_
 refine ad (aa (ae [] rfl ?_))
 refine ad (au (ad (aa (ah [] rfl ?_))))
 refine ao [] (eW _ _ hv) rfl rfl rfl rfl (by kernel_rfl) aK.refl trivial (fun _=>rfl) ?_
 rintro r H' ⟨rfl,rfl⟩
 refine⟨rfl,?_⟩
 (repeat' (first
  |refine ak (gs:=[999]) rfl ?_
  |refine ab [999] (af 2 rfl rfl rfl rfl) rfl ?_))
 refine ao [999] (eW _ _ hw) rfl rfl rfl rfl (by kernel_rfl) aK.refl trivial (fun _=>rfl) ?_
 rintro r H' ⟨rfl,rfl⟩
 refine⟨rfl,?_⟩
 (repeat' (first
  |refine ak (gs:=[999]) rfl ?_
  |refine ab [999] (af 2 rfl rfl rfl rfl) rfl ?_))
 refine ai ?_
 refine bI rfl ?_
 refine ad (aa (ah [] rfl ?_))
 refine ao [] (o5 s hs v hv s1 v hR1) rfl rfl rfl rfl (by kernel_rfl) aK.refl trivial (fun _=>rfl) ?_
 rintro r H' ⟨rfl,rfl⟩
 refine⟨rfl,?_⟩
 (repeat' (first
  |refine ak (gs:=[999]) rfl ?_
  |refine ab [999] (af 2 rfl rfl rfl rfl) rfl ?_))
 refine ai ?_
 refine aP 18 (v':=.bool false) rfl (congrArg Value.bool (aA (by simp))) (bI rfl ?_)
 refine ad (aa (ah [] rfl ?_))
 refine ao [] (o5 s1 hs1 w hw s2 z hR2) rfl rfl rfl rfl (by kernel_rfl) aK.refl trivial (fun _=>rfl) ?_
 rintro r H' ⟨rfl,rfl⟩
 refine⟨rfl,?_⟩
 (repeat' (first
  |refine ak (gs:=[999]) rfl ?_
  |refine ab [999] (af 2 rfl rfl rfl rfl) rfl ?_))
 refine ai ?_
 refine aP 24 (v':=.bool false) rfl (congrArg Value.bool (aA (by omega))) (bI rfl (av ?_))
 refine ad (aa (ah [] rfl ?_))
 refine ao [] (ie _ hs2 _ hv _ hA) rfl rfl rfl rfl (by kernel_rfl) aK.refl trivial (fun _=>rfl) ?_
 rintro r H' rfl
 refine⟨rfl,ai ?_⟩
 show J _ _ _ _ (aW ps gn cap N _ _++_)
 refine ad (aa ?_)
 (repeat' (first
  |refine ak (gs:=[999]) rfl ?_
  |refine ab [999] (af 2 rfl rfl rfl rfl) rfl ?_))
 refine ab [] (aJ rfl rfl rfl rfl rfl hv) rfl ?_
 refine mt (c:=some w) 3 rfl rfl rfl rfl rfl hv [] rfl ?_
 refine ai ?_
 refine ad (aa (ae [] rfl ?_))
 exact aB ⟨_,rfl,rfl⟩
end Go.Proofs.YtpbmihpjgjbndaaGreatDoor
