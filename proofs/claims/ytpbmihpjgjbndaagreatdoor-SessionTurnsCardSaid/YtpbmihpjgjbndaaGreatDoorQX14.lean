/- The engine and the words that all chapters share: several texts in one. -/
import Derived.Test.YtpbmihpjgjbndaaGreatDoorQE
import Derived.Test.YtpbmihpjgjbndaaGreatDoorWalkN
import Derived.Test.YtpbmihpjgjbndaaGreatDoorQX31
/- The engine by trees: how it lies in memory; the forest's functions in short; a step. -/
set_option linter.unusedVariables false
set_option linter.unusedSimpArgs false
namespace Go.Proofs.YtpbmihpjgjbndaaGreatDoor
open Go.RowKit
structure EP where
 N:bc
 least:Int
 n:Nat
 A:Option Addr
 c:Nat
 b:Nat
 o:Nat
 gr:Nat
 Ar:Option Addr
 cr:Nat
 gl:Nat
 gu:Nat
 pe:Nat
 pt:Nat
 ps:Nat
 go:Nat
 gn:Nat
 co:Nat
 cap:Nat
 rowsL:List er
structure ES where
 vals:List Value
 un:List er
 fs:eD
 rm:List Int
 k:Nat
 w:Nat
abbrev EP.fo (P:EP) (f:eD):Heap:=gX P.pt P.ps P.go P.gn P.co P.cap (P.n+1) f
def y4 (P:EP) (k w:Nat):List Value:=[.int .i64 P.N.nodes,.int .i64 P.N.src,.int .i64 P.N.snk,.slice P.A P.N.arcs.length P.c,.slice P.Ar (2*P.N.arcs.length) P.cr,.int .i64 P.least,.slice (some ⟨P.gl,0,none⟩) (P.n+1) (P.n+1),.slice (some ⟨P.gu,0,none⟩) (P.n+1) (P.n+1),
 .pointer (some ⟨P.pt,0,none⟩),.int .i64 (cC k),.int .i64 (cC w)]
abbrev EP.sg (P:EP):aQ:=.seg P.b P.o (arcs P.N.arcs)
abbrev EP.pc (P:EP) (k w:Nat):aQ:=blk P.pe 323 (y4 P k w)
abbrev EP.rc (P:EP) (rm:List Int):aQ:=.own (.slice P.Ar (2*P.N.arcs.length) P.cr) 2 1 (2*P.N.arcs.length) (az rm)
abbrev EP.lc (P:EP) (vals:List Value):aQ:=.own (.slice (some ⟨P.gl,0,none⟩) (P.n+1) (P.n+1)) 23 1 (P.n+1) vals
abbrev EP.uc (P:EP) (un:List er):aQ:=.own (.slice (some ⟨P.gu,0,none⟩) (P.n+1) (P.n+1)) 23 1 (P.n+1) (un.map cD)
abbrev EP.rows (P:EP) (un:List er):Heap:=(P.rowsL++un).map (bJ 3)
def d8 (P:EP) (s:ES):Heap:=(P.fo s.fs++[P.pc s.k s.w,P.rc s.rm,P.lc s.vals,P.uc s.un])++P.rows s.un
def kJ (P:EP) (s:ES):Heap:=(P.fo s.fs++[P.sg,P.pc s.k s.w,P.rc s.rm,P.lc s.vals,P.uc s.un])++P.rows s.un
section
variable {X:Cx} {P:EP} {s:ES}
theorem ju:aL X ([P.sg]++d8 P s) (kJ P s):=aL.re (A:=[P.sg]++(P.fo s.fs++[P.pc s.k s.w,P.rc s.rm,P.lc s.vals,P.uc s.un])) (R:=P.rows s.un) [1,2,3,4,0,5,6,7,8] rfl (by decide)
theorem kS:aL X (kJ P s) (d8 P s):=aL.re (A:=P.fo s.fs++[P.sg,P.pc s.k s.w,P.rc s.rm,P.lc s.vals,P.uc s.un]) (R:=P.rows s.un) [0,1,2,3,5,6,7,8] rfl (by decide)
theorem jw:aL X (kJ P s) (d8 P s++[P.sg]):=aL.mid (A:=P.fo s.fs++[P.sg,P.pc s.k s.w,P.rc s.rm,P.lc s.vals,P.uc s.un]) (R:=P.rows s.un) [0,1,2,3,5,6,7,8] [4] rfl rfl (by decide)
theorem jq:aL X (d8 P s++[P.sg]) (kJ P s):=by
 refine aL.trans (aL.swap (A:=P.fo s.fs++[P.pc s.k s.w,P.rc s.rm,P.lc s.vals,P.uc s.un]) (R:=P.rows s.un) (B:=[P.sg])) ?_
 exact aL.re (A:=(P.fo s.fs++[P.pc s.k s.w,P.rc s.rm,P.lc s.vals,P.uc s.un])++[P.sg]) (R:=P.rows s.un) [0,1,2,3,8,4,5,6,7] rfl (by decide)
end
theorem iv (P:EP) (k w:Nat):Fn 249 [.pointer (some ⟨P.pe,0,none⟩)] (aO [P.pc k w]) ([]++[P.pc k w]) fun _ H'=>H'=[P.pc (k+1) w]:=by
 generalize hM:aO _=M
 refine aK Tryz.func249 rfl rfl fun w0=>?_
 refine aa ?_
 (repeat' (first
  |refine ak (gs:=[999]) rfl ?_
  |refine ab [999] (af 0 rfl rfl rfl rfl) rfl ?_))
 refine av 6 (v':=.int .i64 (cC ((k+1:Nat):Int))) rfl (congrArg (Value.int .i64) (kw _ _)) ?_
 (repeat' (refine ak (gs:=[999]) rfl ?_))
 refine aE 0 rfl rfl rfl rfl rfl [] rfl ?_
 exact ai ⟨_,rfl,rfl⟩
/-! ### The forest's functions, with what they mean -/
section
variable {P:EP} {fs:eD} {par:OV} {val:Nat→Int} {row:Nat→List Nat}
theorem yH (h:eF (P.n+1) fs par val row) (hN:P.n+1≤10000) {v:Nat} (hv:v<P.n+1) {p:List Nat} (hp:aJ par v p):Fn 253 [.pointer (some ⟨P.pt,0,none⟩),.int .i64 (v:Int)] (aO (P.fo fs)) ([]++P.fo fs)
 fun r H'=>∃ fs' row' y,r=.int .i64 ((y:Nat):Int)∧H'=P.fo fs'∧eF (P.n+1) fs' par val row'∧p.getLast?=some y∧fs'.k≤fs.k+cE (P.n+1)+5*(P.n+1):=by
 obtain⟨s',row',y,h1,h2,h3,h4⟩:=h.root_ hN hv hp
 exact (oT fs h.fok v hv s' y h1).mono fun r H' ⟨e1,e2⟩=>⟨s',row',y,e1,e2,h2,h3,h4⟩
theorem xh (h:eF (P.n+1) fs par val row) (hN:P.n+1≤10000) {v:Nat} (hv:v<P.n+1):Fn 268 [.pointer (some ⟨P.pt,0,none⟩),.int .i64 (v:Int)] (aO (P.fo fs)) ([]++P.fo fs)
 fun r H'=>∃ fs' row',r=.int .i64 (enc (par v))∧H'=P.fo fs'∧eF (P.n+1) fs' par val row'∧fs'.k≤fs.k+cE (P.n+1)+5*(P.n+1):=by
 obtain⟨p,hp⟩:=h.path v hv
 obtain⟨s',row',h1,h2,h3,h4⟩:=h.above_ hN hv hp
 exact (pQ fs h.fok v hv s' _ h1).mono fun r H' ⟨e1,e2⟩=>⟨s',row',e1,e2,h2,h4⟩
theorem oX (h:eF (P.n+1) fs par val row) (hN:P.n+1≤10000) {v:Nat} (hv:v<P.n+1):Fn 265 [.pointer (some ⟨P.pt,0,none⟩),.int .i64 (v:Int)] (aO (P.fo fs)) ([]++P.fo fs)
 fun r H'=>∃ fs',r=.int .i64 (val v)∧H'=P.fo fs'∧eF (P.n+1) fs' par val row∧fs'.k≤fs.k+2*(P.n+1):=by
 obtain⟨s',h1,h2,h3,h4⟩:=h.value_ hN hv
 exact (rz fs h.fok v hv s' h1).mono fun r H' ⟨e1,e2⟩=>⟨s',by rw[e1,h3],e2,h2,h4⟩
theorem sS (h:eF (P.n+1) fs par val row) (hN:P.n+1≤10000) {v:Nat} (hv:v<P.n+1) {p:List Nat} (hp:aJ par v p) {d:Int} (hd:-9223372036854775808≤d∧d≤9223372036854775807) (hs:∀ y∈p,-4611686018427387904≤val y+d∧val y+d≤4611686018427387904):
 Fn 267 [.pointer (some ⟨P.pt,0,none⟩),.int .i64 (v:Int),.int .i64 d] (aO (P.fo fs)) ([]++P.fo fs)
 fun _ H'=>∃ fs' row',H'=P.fo fs'∧eF (P.n+1) fs' par (fun z=>if z∈p then val z+d else val z) row'∧fs'.k≤fs.k+cE (P.n+1)+2*(P.n+1):=by
 obtain⟨s',row',h1,h2,h3⟩:=h.add_ hN hv hp hd hs
 exact (x5 fs h.fok v hv d hd s' h1).mono fun r H' e2=>⟨s',row',e2,h2,h3⟩
theorem sQ (h:eF (P.n+1) fs par val row) (hN:P.n+1≤10000) {v:Nat} (hv:v<P.n+1) {p:List Nat} (hp:aJ par v p):Fn 266 [.pointer (some ⟨P.pt,0,none⟩),.int .i64 (v:Int)] (aO (P.fo fs)) ([]++P.fo fs)
 fun r H'=>∃ fs' row' y,r=.int .i64 ((y:Nat):Int)∧H'=P.fo fs'∧eF (P.n+1) fs' par val row'∧fh (cm p.reverse val) y (val y)∧y∈p∧fs'.k≤fs.k+cE (P.n+1)+9*(P.n+1):=by
 obtain⟨s',row',y,h1,h2,h3,h4,h5⟩:=h.least_ hN hv hp
 exact (uz fs h.fok v hv s' y h1).mono fun r H' ⟨e1,e2⟩=>⟨s',row',y,e1,e2,h2,h3,h4,h5⟩
theorem zk (h:eF (P.n+1) fs par val row) (hN:P.n+1≤10000) {v u:Nat} (hv:v<P.n+1) (hu:par v=some u):Fn 271 [.pointer (some ⟨P.pt,0,none⟩),.int .i64 (v:Int)] (aO (P.fo fs)) ([]++P.fo fs)
 fun _ H'=>∃ fs' row',H'=P.fo fs'∧eF (P.n+1) fs' (aV par v none) val row'∧fs'.k≤fs.k+cE (P.n+1)+7*(P.n+1):=by
 obtain⟨s',row',h1,h2,h3⟩:=h.cut_ hN hv hu
 exact (xJ fs h.fok v hv s' h1).mono fun r H' e2=>⟨s',row',e2,h2,h3⟩
theorem yC (h:eF (P.n+1) fs par val row) (hN:P.n+1≤10000) {v w:Nat} (hv:v<P.n+1) (hw:w<P.n+1) (hvn:par v=none) {q:List Nat} (hq:aJ par w q) (hvq:v∉q):Fn 270 [.pointer (some ⟨P.pt,0,none⟩),.int .i64 (v:Int),.int .i64 (w:Int)] (aO (P.fo fs)) ([]++P.fo fs)
 fun _ H'=>∃ fs' row',H'=P.fo fs'∧eF (P.n+1) fs' (aV par v (some w)) val row'∧fs'.k≤fs.k+3*cE (P.n+1)+10*(P.n+1):=by
 obtain⟨s',row',h1,h2,h3⟩:=h.link_ hN hv hw hvn hq hvq
 exact (wW fs h.fok v w hv hw s' h1).mono fun r H' e2=>⟨s',row',e2,h2,h3⟩
end
end Go.Proofs.YtpbmihpjgjbndaaGreatDoor
/- The engine by trees, in plain terms: what it keeps. -/
set_option linter.unusedVariables false
set_option linter.unusedSimpArgs false
namespace Go.Proofs.YtpbmihpjgjbndaaGreatDoor
open Go.RowKit
structure iw (P:EP) (L:Nat→List Nat) (lv:Nat→Int) (gv:Nat→Nat):Prop where
 right:P.N.Right
 nodes:P.N.nodes=P.n
 graded:dP P.N L lv
 rl:P.rowsL.length=P.n+1
 rows:∀ (v:Nat) (row:er),P.rowsL[v]?=some row→row.l=(L v).map fun (i:Nat)=>(i:Int)
 at_:∀ (v:Nat) (row:er),P.rowsL[v]?=some row→az row.l≠[]→row.A=some ⟨gv v,0,none⟩
 len:∀ v,(L v).length≤4000
 arcs:P.N.arcs≠[]→P.A=some ⟨P.b,P.o,none⟩
 ar:P.N.arcs≠[]→P.Ar=some ⟨P.gr,0,none⟩
 le:-9223372036854775808≤P.least∧P.least≤9223372036854775807
theorem iw.room {P:EP} {L:Nat→List Nat} {lv:Nat→Int} {gv:Nat→Nat} (h:iw P L lv gv) {r:Nat} (hr:r<2*P.N.arcs.length):P.Ar=some ⟨P.gr,0,none⟩:=h.ar (by intro e;rw[e] at hr;simp at hr)
theorem iw.small {P:EP} {L:Nat→List Nat} {lv:Nat→Int} {gv:Nat→Nat} (h:iw P L lv gv):P.n+1≤10000:=by
 have:=h.right.nodes
 have:=h.nodes
 omega
structure TA (P:EP) (L:Nat→List Nat) (rm0 tr:List Int) (pos:List Nat) (par:OV) (val:Nat→Int) (rm:List Int):Prop where
 posl:pos.length=P.n+1
 link:∀ v w,v≤P.n→par v=some w→∃ q r,pos[v]?=some q∧(L v)[q]?=some r∧d7 P.N r=w∧val v=tr.getD r 0
 free:∀ v,v≤P.n→par v=none→val v=4611686018427387904
 rml:rm.length=2*P.N.arcs.length
 lead:∀ v r,r∈L v→(∀ q,par v≠none→pos[v]?=some q→(L v)[q]?≠some r)→rm.getD r 0=tr.getD r 0
 rest:∀ r,(∀ v,r∉L v)→rm.getD r 0=rm0.getD r 0
 trb:∀ r,0≤tr.getD r 0∧tr.getD r 0≤4611686018427387903
section
variable {P:EP} {L:Nat→List Nat} {lv:Nat→Int} {gv:Nat→Nat} {rm0 tr:List Int} {pos:List Nat} {par:OV} {val:Nat→Int} {rm:List Int}
theorem TA.pos_at (h:TA P L rm0 tr pos par val rm) {v:Nat} (hv:v≤P.n):∃ q,pos[v]?=some q:=⟨pos[v]'(by have:=h.posl;omega),List.getElem?_eq_getElem (by have:=h.posl;omega)⟩
abbrev eB (val:Nat→Int) (v:Nat) (d:Int):Nat→Int:=fun z=>if z∈[v] then val z+d else val z
theorem eC (hP:iw P L lv gv) {v r:Nat} (h:r∈L v):r<2*P.N.arcs.length∧cV P.N r=v∧lv (d7 P.N r)=lv v+1:=hP.graded.ok v r h
theorem TA.settle (h:TA P L rm0 tr pos par val rm) (hP:iw P L lv gv) {v w q r:Nat} (hv:v≤P.n) (hw:par v=some w) (hq:pos[v]?=some q) (hr:(L v)[q]?=some r) (hval:val v=tr.getD r 0):
 TA P L rm0 tr pos (aV par v none) (eB val v (4611686018427387904-val v)) (rm.set r (val v)):=by
 have hrm:=List.mem_of_getElem? hr
 have hrl:=(eC hP hrm).1
 refine⟨h.posl,fun u z hu hz=>?_,fun u hu hn=>?_,by rw[List.length_set];exact h.rml,fun u e he hne=>?_,fun e he=>?_,h.trb⟩
 ·simp only[aV] at hz
  split at hz
  ·cases hz
  ·rename_i hne
   obtain⟨q',r',k1,k2,k3,k4⟩:=h.link u z hu hz
   exact⟨q',r',k1,k2,k3,by simp only[eB];rw[if_neg (by simpa using hne)];exact k4⟩
 ·simp only[eB,List.mem_singleton]
  by_cases e:u=v
  ·rw[if_pos e,e];omega
  ·rw[if_neg e]
   exact h.free u hu (by simpa [aV,e] using hn)
 ·by_cases e:r=e
  ·subst e
   rw[fW (by rw[h.rml];exact hrl),if_pos rfl,hval]
  ·rw[fW (by rw[h.rml];exact hrl),if_neg e]
   refine h.lead u _ he fun q' hn hq'=>?_
   by_cases euv:u=v
   ·subst euv
    rw[hq] at hq'
    simp only[Option.some.injEq] at hq'
    subst hq'
    rw[hr];simpa using e
   ·exact hne q' (by simpa [aV,euv] using hn) hq'
 ·have:r≠e:=fun h'=>he v (h'▸hrm)
  rw[fW (by rw[h.rml];exact hrl),if_neg this]
  exact h.rest e he
theorem TA.bump (h:TA P L rm0 tr pos par val rm) {v q:Nat} (hn:par v=none):TA P L rm0 tr (pos.set v q) par val rm:=by
 have ne:∀ u,par u≠none→v≠u:=fun u hu e=>hu (e▸hn)
 refine⟨by rw[List.length_set];exact h.posl,fun u z hu hz=>?_,h.free,h.rml,fun u e he hne=>?_,h.rest,h.trb⟩
 ·obtain⟨q',r',k1,k2,k3,k4⟩:=h.link u z hu hz
  exact⟨q',r',by rw[List.getElem?_set_ne (ne u (by rw[hz];simp))];exact k1,k2,k3,k4⟩
 ·exact h.lead u e he fun q' hn' hq'=>hne q' hn' (by rw[List.getElem?_set_ne (ne u hn')];exact hq')
theorem TA.hook (h:TA P L rm0 tr pos par val rm) (hP:iw P L lv gv) {v q r:Nat} (hv:v≤P.n) (hn:par v=none) (hq:pos[v]?=some q) (hr:(L v)[q]?=some r):
 TA P L rm0 tr pos (aV par v (some (d7 P.N r))) (eB val v (rm.getD r 0-4611686018427387904)) rm:=by
 have hrm:=List.mem_of_getElem? hr
 refine⟨h.posl,fun u z hu hz=>?_,fun u hu hn'=>?_,h.rml,fun u e he hne=>?_,h.rest,h.trb⟩
 ·simp only[aV] at hz
  by_cases e:u=v
  ·subst e
   rw[if_pos rfl] at hz
   simp only[Option.some.injEq] at hz
   refine⟨q,r,hq,hr,hz,?_⟩
   simp only[eB,List.mem_singleton,if_true]
   rw[h.free u hu hn,h.lead u r hrm (fun _ k=>absurd hn k)];omega
  ·rw[if_neg e] at hz
   obtain⟨q',r',k1,k2,k3,k4⟩:=h.link u z hu hz
   exact⟨q',r',k1,k2,k3,by simp only[eB,List.mem_singleton];rw[if_neg e];exact k4⟩
 ·simp only[eB,List.mem_singleton]
  have e:u≠v:=fun e=>by subst e;simp[aV] at hn'
  rw[if_neg e]
  exact h.free u hu (by simpa [aV,e] using hn')
 ·refine h.lead u e he fun q' hnn hq'=>?_
  by_cases euv:u=v
  ·subst euv;exact absurd hn hnn
  ·exact hne q' (by simpa [aV,euv] using hnn) hq'
theorem TA.path_lv (h:TA P L rm0 tr pos par val rm) (hP:iw P L lv gv):∀ {p:List Nat} {v:Nat},aJ par v p→v≤P.n→∀ y∈p,lv v≤lv y∧(y≠v→lv v<lv y)
 |[],_,hp,_,_,_=>hp.elim
 |[z],v,⟨h1,_⟩,_,y,hy=>by
  rw[List.mem_singleton.1 hy,← h1];exact⟨Int.le_refl _,fun h=>absurd rfl h⟩
 |z::z'::l,v,⟨h1,h2,h3⟩,hv,y,hy=>by
  rcases List.mem_cons.1 hy with rfl|hy
  ·rw[← h1];exact⟨Int.le_refl _,fun h=>absurd rfl h⟩
  ·obtain⟨q,r,k1,k2,k3,k4⟩:=h.link v z' hv h2
   have hm:=List.mem_of_getElem? k2
   obtain⟨g1,g2,g3⟩:=eC hP hm
   have hz:z'≤P.n:=by
    have:=(fu hP.right g1).2.2
    have:=hP.nodes
    omega
   have:=(TA.path_lv h hP h3 hz y hy).1
   rw[k3] at g3
   exact⟨by omega,fun _=>by omega⟩
end
end Go.Proofs.YtpbmihpjgjbndaaGreatDoor
