/- The engine and the words that all chapters share: several texts in one. -/
import Derived.Test.YtpbmihpjgjbndaaGreatDoorQE
import Derived.Test.YtpbmihpjgjbndaaGreatDoorWalkN
import Derived.Test.YtpbmihpjgjbndaaGreatDoorQX29
import Derived.Test.YtpbmihpjgjbndaaGreatDoorQB
import Derived.Laws.Cells
/- The engine by trees: how it lies in memory; the forest's functions in short; a step. -/
set_option linter.unusedVariables false
set_option linter.unusedSimpArgs false
namespace Go.Proofs.YtpbmihpjgjbndaaGreatDoor
open Go.RowKit
structure EP where
 N:a8
 least:Int
 n:Nat
 A:Option Addr
 c:Nat
 b:Nat
 o:Nat
 gr:Nat
 Ar:Option Addr
 cr:Nat
 gl:Nat
 gu:Nat
 pe:Nat
 pt:Nat
 ps:Nat
 go:Nat
 gn:Nat
 co:Nat
 cap:Nat
 rowsL:List eu
structure ES where
 vals:List Value
 un:List eu
 fs:eM
 rm:List Int
 k:Nat
 w:Nat
abbrev EP.fo (P:EP) (f:eM):Heap:=hO P.pt P.ps P.go P.gn P.co P.cap (P.n+1) f
def yv (P:EP) (k w:Nat):List Value:=[.int .i64 P.N.nodes,.int .i64 P.N.src,.int .i64 P.N.snk,.slice P.A P.N.arcs.length P.c,.slice P.Ar (2*P.N.arcs.length) P.cr,.int .i64 P.least,.slice (some ⟨P.gl,0,none⟩) (P.n+1) (P.n+1),.slice (some ⟨P.gu,0,none⟩) (P.n+1) (P.n+1),
 .pointer (some ⟨P.pt,0,none⟩),.int .i64 (cD k),.int .i64 (cD w)]
abbrev EP.sg (P:EP):aO:=.seg P.b P.o (arcs P.N.arcs)
abbrev EP.pc (P:EP) (k w:Nat):aO:=blk P.pe 323 (yv P k w)
abbrev EP.rc (P:EP) (rm:List Int):aO:=.own (.slice P.Ar (2*P.N.arcs.length) P.cr) 2 1 (2*P.N.arcs.length) (ap rm)
abbrev EP.lc (P:EP) (vals:List Value):aO:=.own (.slice (some ⟨P.gl,0,none⟩) (P.n+1) (P.n+1)) 23 1 (P.n+1) vals
abbrev EP.uc (P:EP) (un:List eu):aO:=.own (.slice (some ⟨P.gu,0,none⟩) (P.n+1) (P.n+1)) 23 1 (P.n+1) (un.map cH)
abbrev EP.rows (P:EP) (un:List eu):Heap:=(P.rowsL++un).map (bH 3)
def eb (P:EP) (s:ES):Heap:=(P.fo s.fs++[P.pc s.k s.w,P.rc s.rm,P.lc s.vals,P.uc s.un])++P.rows s.un
def kJ (P:EP) (s:ES):Heap:=(P.fo s.fs++[P.sg,P.pc s.k s.w,P.rc s.rm,P.lc s.vals,P.uc s.un])++P.rows s.un
section
variable {X:Cx} {P:EP} {s:ES}
theorem ju:aK X ([P.sg]++eb P s) (kJ P s):=aK.re (A:=[P.sg]++(P.fo s.fs++[P.pc s.k s.w,P.rc s.rm,P.lc s.vals,P.uc s.un])) (R:=P.rows s.un) [1,2,3,4,0,5,6,7,8] rfl (by decide)
theorem kn:aK X (kJ P s) (eb P s):=aK.re (A:=P.fo s.fs++[P.sg,P.pc s.k s.w,P.rc s.rm,P.lc s.vals,P.uc s.un]) (R:=P.rows s.un) [0,1,2,3,5,6,7,8] rfl (by decide)
theorem jd:aK X (kJ P s) (eb P s++[P.sg]):=aK.mid (A:=P.fo s.fs++[P.sg,P.pc s.k s.w,P.rc s.rm,P.lc s.vals,P.uc s.un]) (R:=P.rows s.un) [0,1,2,3,5,6,7,8] [4] rfl rfl (by decide)
theorem jr:aK X (eb P s++[P.sg]) (kJ P s):=by
 refine aK.trans (aK.swap (A:=P.fo s.fs++[P.pc s.k s.w,P.rc s.rm,P.lc s.vals,P.uc s.un]) (R:=P.rows s.un) (B:=[P.sg])) ?_
 exact aK.re (A:=(P.fo s.fs++[P.pc s.k s.w,P.rc s.rm,P.lc s.vals,P.uc s.un])++[P.sg]) (R:=P.rows s.un) [0,1,2,3,8,4,5,6,7] rfl (by decide)
end
theorem ir (P:EP) (k w:Nat):Fn 249 [.pointer (some ⟨P.pe,0,none⟩)] (aR [P.pc k w]) ([]++[P.pc k w]) fun _ H'=>H'=[P.pc (k+1) w]:=by
 generalize hM:aR _=M
 refine aS Tryz.func249 rfl rfl fun w0=>?_
 refine aa ?_
 (repeat' (first
  |refine ak (gs:=[999]) rfl ?_
  |refine ab [999] (af 0 rfl rfl rfl rfl) rfl ?_))
 refine aw 6 (v':=.int .i64 (cD ((k+1:Nat):Int))) rfl (congrArg (Value.int .i64) (kK _ _)) ?_
 (repeat' (refine ak (gs:=[999]) rfl ?_))
 refine aX 0 rfl rfl rfl rfl rfl [] rfl ?_
 exact ai ⟨_,rfl,rfl⟩
/-! ### The forest's functions, with what they mean -/
section
variable {P:EP} {fs:eM} {par:OV} {val:Nat→Int} {row:Nat→List Nat}
theorem yW (h:eC (P.n+1) fs par val row) (hN:P.n+1≤10000) {v:Nat} (hv:v<P.n+1) {p:List Nat} (hp:aI par v p):Fn 253 [.pointer (some ⟨P.pt,0,none⟩),.int .i64 (v:Int)] (aR (P.fo fs)) ([]++P.fo fs)
 fun r H'=>∃ fs' row' y,r=.int .i64 ((y:Nat):Int)∧H'=P.fo fs'∧eC (P.n+1) fs' par val row'∧p.getLast?=some y∧fs'.k≤fs.k+cG (P.n+1)+5*(P.n+1):=by
 obtain⟨s',row',y,h1,h2,h3,h4⟩:=h.root_ hN hv hp
 exact (o5 fs h.fok v hv s' y h1).mono fun r H' ⟨e1,e2⟩=>⟨s',row',y,e1,e2,h2,h3,h4⟩
theorem xy (h:eC (P.n+1) fs par val row) (hN:P.n+1≤10000) {v:Nat} (hv:v<P.n+1):Fn 268 [.pointer (some ⟨P.pt,0,none⟩),.int .i64 (v:Int)] (aR (P.fo fs)) ([]++P.fo fs)
 fun r H'=>∃ fs' row',r=.int .i64 (enc (par v))∧H'=P.fo fs'∧eC (P.n+1) fs' par val row'∧fs'.k≤fs.k+cG (P.n+1)+5*(P.n+1):=by
 obtain⟨p,hp⟩:=h.path v hv
 obtain⟨s',row',h1,h2,h3,h4⟩:=h.above_ hN hv hp
 exact (pH fs h.fok v hv s' _ h1).mono fun r H' ⟨e1,e2⟩=>⟨s',row',e1,e2,h2,h4⟩
theorem pq (h:eC (P.n+1) fs par val row) (hN:P.n+1≤10000) {v:Nat} (hv:v<P.n+1):Fn 265 [.pointer (some ⟨P.pt,0,none⟩),.int .i64 (v:Int)] (aR (P.fo fs)) ([]++P.fo fs)
 fun r H'=>∃ fs',r=.int .i64 (val v)∧H'=P.fo fs'∧eC (P.n+1) fs' par val row∧fs'.k≤fs.k+2*(P.n+1):=by
 obtain⟨s',h1,h2,h3,h4⟩:=h.value_ hN hv
 exact (ru fs h.fok v hv s' h1).mono fun r H' ⟨e1,e2⟩=>⟨s',by rw[e1,h3],e2,h2,h4⟩
theorem sv (h:eC (P.n+1) fs par val row) (hN:P.n+1≤10000) {v:Nat} (hv:v<P.n+1) {p:List Nat} (hp:aI par v p) {d:Int} (hd:-9223372036854775808≤d∧d≤9223372036854775807) (hs:∀ y∈p,-4611686018427387904≤val y+d∧val y+d≤4611686018427387904):
 Fn 267 [.pointer (some ⟨P.pt,0,none⟩),.int .i64 (v:Int),.int .i64 d] (aR (P.fo fs)) ([]++P.fo fs)
 fun _ H'=>∃ fs' row',H'=P.fo fs'∧eC (P.n+1) fs' par (fun z=>if z∈p then val z+d else val z) row'∧fs'.k≤fs.k+cG (P.n+1)+2*(P.n+1):=by
 obtain⟨s',row',h1,h2,h3⟩:=h.add_ hN hv hp hd hs
 exact (xz fs h.fok v hv d hd s' h1).mono fun r H' e2=>⟨s',row',e2,h2,h3⟩
theorem sx (h:eC (P.n+1) fs par val row) (hN:P.n+1≤10000) {v:Nat} (hv:v<P.n+1) {p:List Nat} (hp:aI par v p):Fn 266 [.pointer (some ⟨P.pt,0,none⟩),.int .i64 (v:Int)] (aR (P.fo fs)) ([]++P.fo fs)
 fun r H'=>∃ fs' row' y,r=.int .i64 ((y:Nat):Int)∧H'=P.fo fs'∧eC (P.n+1) fs' par val row'∧fi (cd p.reverse val) y (val y)∧y∈p∧fs'.k≤fs.k+cG (P.n+1)+9*(P.n+1):=by
 obtain⟨s',row',y,h1,h2,h3,h4,h5⟩:=h.least_ hN hv hp
 exact (uJ fs h.fok v hv s' y h1).mono fun r H' ⟨e1,e2⟩=>⟨s',row',y,e1,e2,h2,h3,h4,h5⟩
theorem zj (h:eC (P.n+1) fs par val row) (hN:P.n+1≤10000) {v u:Nat} (hv:v<P.n+1) (hu:par v=some u):Fn 271 [.pointer (some ⟨P.pt,0,none⟩),.int .i64 (v:Int)] (aR (P.fo fs)) ([]++P.fo fs)
 fun _ H'=>∃ fs' row',H'=P.fo fs'∧eC (P.n+1) fs' (aT par v none) val row'∧fs'.k≤fs.k+cG (P.n+1)+7*(P.n+1):=by
 obtain⟨s',row',h1,h2,h3⟩:=h.cut_ hN hv hu
 exact (xg fs h.fok v hv s' h1).mono fun r H' e2=>⟨s',row',e2,h2,h3⟩
theorem yz (h:eC (P.n+1) fs par val row) (hN:P.n+1≤10000) {v w:Nat} (hv:v<P.n+1) (hw:w<P.n+1) (hvn:par v=none) {q:List Nat} (hq:aI par w q) (hvq:v∉q):Fn 270 [.pointer (some ⟨P.pt,0,none⟩),.int .i64 (v:Int),.int .i64 (w:Int)] (aR (P.fo fs)) ([]++P.fo fs)
 fun _ H'=>∃ fs' row',H'=P.fo fs'∧eC (P.n+1) fs' (aT par v (some w)) val row'∧fs'.k≤fs.k+3*cG (P.n+1)+10*(P.n+1):=by
 obtain⟨s',row',h1,h2,h3⟩:=h.link_ hN hv hw hvn hq hvq
 exact (w9 fs h.fok v w hv hw s' h1).mono fun r H' e2=>⟨s',row',e2,h2,h3⟩
end
end Go.Proofs.YtpbmihpjgjbndaaGreatDoor
/- The engine by trees, in plain terms: what it keeps. -/
set_option linter.unusedVariables false
set_option linter.unusedSimpArgs false
namespace Go.Proofs.YtpbmihpjgjbndaaGreatDoor
open Go.RowKit
structure iB (P:EP) (L:Nat→List Nat) (lv:Nat→Int) (gv:Nat→Nat):Prop where
 right:P.N.Right
 nodes:P.N.nodes=P.n
 graded:dN P.N L lv
 rl:P.rowsL.length=P.n+1
 rows:∀ (v:Nat) (row:eu),P.rowsL[v]?=some row→row.l=(L v).map fun (i:Nat)=>(i:Int)
 at_:∀ (v:Nat) (row:eu),P.rowsL[v]?=some row→ap row.l≠[]→row.A=some ⟨gv v,0,none⟩
 len:∀ v,(L v).length≤4000
 arcs:P.N.arcs≠[]→P.A=some ⟨P.b,P.o,none⟩
 ar:P.N.arcs≠[]→P.Ar=some ⟨P.gr,0,none⟩
 le:-9223372036854775808≤P.least∧P.least≤9223372036854775807
theorem iB.room {P:EP} {L:Nat→List Nat} {lv:Nat→Int} {gv:Nat→Nat} (h:iB P L lv gv) {r:Nat} (hr:r<2*P.N.arcs.length):P.Ar=some ⟨P.gr,0,none⟩:=h.ar (by intro e;rw[e] at hr;simp at hr)
theorem iB.small {P:EP} {L:Nat→List Nat} {lv:Nat→Int} {gv:Nat→Nat} (h:iB P L lv gv):P.n+1≤10000:=by
 have:=h.right.nodes
 have:=h.nodes
 omega
structure TA (P:EP) (L:Nat→List Nat) (rm0 tr:List Int) (pos:List Nat) (par:OV) (val:Nat→Int) (rm:List Int):Prop where
 posl:pos.length=P.n+1
 link:∀ v w,v≤P.n→par v=some w→∃ q r,pos[v]?=some q∧(L v)[q]?=some r∧d9 P.N r=w∧val v=tr.getD r 0
 free:∀ v,v≤P.n→par v=none→val v=4611686018427387904
 rml:rm.length=2*P.N.arcs.length
 lead:∀ v r,r∈L v→(∀ q,par v≠none→pos[v]?=some q→(L v)[q]?≠some r)→rm.getD r 0=tr.getD r 0
 rest:∀ r,(∀ v,r∉L v)→rm.getD r 0=rm0.getD r 0
 trb:∀ r,0≤tr.getD r 0∧tr.getD r 0≤4611686018427387903
section
variable {P:EP} {L:Nat→List Nat} {lv:Nat→Int} {gv:Nat→Nat} {rm0 tr:List Int} {pos:List Nat} {par:OV} {val:Nat→Int} {rm:List Int}
theorem TA.pos_at (h:TA P L rm0 tr pos par val rm) {v:Nat} (hv:v≤P.n):∃ q,pos[v]?=some q:=⟨pos[v]'(by have:=h.posl;omega),List.getElem?_eq_getElem (by have:=h.posl;omega)⟩
abbrev eE (val:Nat→Int) (v:Nat) (d:Int):Nat→Int:=fun z=>if z∈[v] then val z+d else val z
theorem ez (hP:iB P L lv gv) {v r:Nat} (h:r∈L v):r<2*P.N.arcs.length∧cU P.N r=v∧lv (d9 P.N r)=lv v+1:=hP.graded.ok v r h
theorem TA.settle (h:TA P L rm0 tr pos par val rm) (hP:iB P L lv gv) {v w q r:Nat} (hv:v≤P.n) (hw:par v=some w) (hq:pos[v]?=some q) (hr:(L v)[q]?=some r) (hval:val v=tr.getD r 0):
 TA P L rm0 tr pos (aT par v none) (eE val v (4611686018427387904-val v)) (rm.set r (val v)):=by
 have hrm:=List.mem_of_getElem? hr
 have hrl:=(ez hP hrm).1
 refine⟨h.posl,fun u z hu hz=>?_,fun u hu hn=>?_,by rw[List.length_set];exact h.rml,fun u e he hne=>?_,fun e he=>?_,h.trb⟩
 ·simp only[aT] at hz
  split at hz
  ·cases hz
  ·rename_i hne
   obtain⟨q',r',k1,k2,k3,k4⟩:=h.link u z hu hz
   exact⟨q',r',k1,k2,k3,by simp only[eE];rw[if_neg (by simpa using hne)];exact k4⟩
 ·simp only[eE,List.mem_singleton]
  by_cases e:u=v
  ·rw[if_pos e,e];omega
  ·rw[if_neg e]
   exact h.free u hu (by simpa [aT,e] using hn)
 ·by_cases e:r=e
  ·subst e
   rw[fX (by rw[h.rml];exact hrl),if_pos rfl,hval]
  ·rw[fX (by rw[h.rml];exact hrl),if_neg e]
   refine h.lead u _ he fun q' hn hq'=>?_
   by_cases euv:u=v
   ·subst euv
    rw[hq] at hq'
    simp only[Option.some.injEq] at hq'
    subst hq'
    rw[hr];simpa using e
   ·exact hne q' (by simpa [aT,euv] using hn) hq'
 ·have:r≠e:=fun h'=>he v (h'▸hrm)
  rw[fX (by rw[h.rml];exact hrl),if_neg this]
  exact h.rest e he
theorem TA.bump (h:TA P L rm0 tr pos par val rm) {v q:Nat} (hn:par v=none):TA P L rm0 tr (pos.set v q) par val rm:=by
 have ne:∀ u,par u≠none→v≠u:=fun u hu e=>hu (e▸hn)
 refine⟨by rw[List.length_set];exact h.posl,fun u z hu hz=>?_,h.free,h.rml,fun u e he hne=>?_,h.rest,h.trb⟩
 ·obtain⟨q',r',k1,k2,k3,k4⟩:=h.link u z hu hz
  exact⟨q',r',by rw[List.getElem?_set_ne (ne u (by rw[hz];simp))];exact k1,k2,k3,k4⟩
 ·exact h.lead u e he fun q' hn' hq'=>hne q' hn' (by rw[List.getElem?_set_ne (ne u hn')];exact hq')
theorem TA.hook (h:TA P L rm0 tr pos par val rm) (hP:iB P L lv gv) {v q r:Nat} (hv:v≤P.n) (hn:par v=none) (hq:pos[v]?=some q) (hr:(L v)[q]?=some r):
 TA P L rm0 tr pos (aT par v (some (d9 P.N r))) (eE val v (rm.getD r 0-4611686018427387904)) rm:=by
 have hrm:=List.mem_of_getElem? hr
 refine⟨h.posl,fun u z hu hz=>?_,fun u hu hn'=>?_,h.rml,fun u e he hne=>?_,h.rest,h.trb⟩
 ·simp only[aT] at hz
  by_cases e:u=v
  ·subst e
   rw[if_pos rfl] at hz
   simp only[Option.some.injEq] at hz
   refine⟨q,r,hq,hr,hz,?_⟩
   simp only[eE,List.mem_singleton,if_true]
   rw[h.free u hu hn,h.lead u r hrm (fun _ k=>absurd hn k)];omega
  ·rw[if_neg e] at hz
   obtain⟨q',r',k1,k2,k3,k4⟩:=h.link u z hu hz
   exact⟨q',r',k1,k2,k3,by simp only[eE,List.mem_singleton];rw[if_neg e];exact k4⟩
 ·simp only[eE,List.mem_singleton]
  have e:u≠v:=fun e=>by subst e;simp[aT] at hn'
  rw[if_neg e]
  exact h.free u hu (by simpa [aT,e] using hn')
 ·refine h.lead u e he fun q' hnn hq'=>?_
  by_cases euv:u=v
  ·subst euv;exact absurd hn hnn
  ·exact hne q' (by simpa [aT,euv] using hnn) hq'
theorem TA.path_lv (h:TA P L rm0 tr pos par val rm) (hP:iB P L lv gv):∀ {p:List Nat} {v:Nat},aI par v p→v≤P.n→∀ y∈p,lv v≤lv y∧(y≠v→lv v<lv y)
 |[],_,hp,_,_,_=>hp.elim
 |[z],v,⟨h1,_⟩,_,y,hy=>by
  rw[List.mem_singleton.1 hy,← h1];exact⟨Int.le_refl _,fun h=>absurd rfl h⟩
 |z::z'::l,v,⟨h1,h2,h3⟩,hv,y,hy=>by
  rcases List.mem_cons.1 hy with rfl|hy
  ·rw[← h1];exact⟨Int.le_refl _,fun h=>absurd rfl h⟩
  ·obtain⟨q,r,k1,k2,k3,k4⟩:=h.link v z' hv h2
   have hm:=List.mem_of_getElem? k2
   obtain⟨g1,g2,g3⟩:=ez hP hm
   have hz:z'≤P.n:=by
    have:=(fu hP.right g1).2.2
    have:=hP.nodes
    omega
   have:=(TA.path_lv h hP h3 hz y hy).1
   rw[k3] at g3
   exact⟨by omega,fun _=>by omega⟩
end
end Go.Proofs.YtpbmihpjgjbndaaGreatDoor
/- The engine by trees: a linked node is settled, step by step. -/
set_option linter.unusedVariables false
set_option linter.unusedSimpArgs false
namespace Go.Proofs.YtpbmihpjgjbndaaGreatDoor
open Go.RowKit
section
variable {P:EP} {L:Nat→List Nat} {lv:Nat→Int} {gv:Nat→Nat} {rm0 tr:List Int} {pos:List Nat} {par:OV} {val:Nat→Int} {row:Nat→List Nat}
theorem tg (hP:iB P L lv gv) {vals:List Value} (hV:u7 P.rowsL gv pos vals) {v q r:Nat} (hv:v≤P.n) (hq:pos[v]?=some q) (hr:(L v)[q]?=some r):
 ∃ rw_ c',P.rowsL[v]?=some rw_∧vals[v]?=some (.slice (some ⟨gv v,q,none⟩) (rw_.l.length-q) c')∧rw_.l.length-q≤c'∧q<rw_.l.length∧rw_.l[q]?=some (r:Int)∧rw_.A=some ⟨gv v,0,none⟩∧rw_.l.length≤4000:=by
 have hrl:=hP.rl
 obtain⟨rw_,hrow⟩:∃ rw_,P.rowsL[v]?=some rw_:=⟨P.rowsL[v]'(by omega),List.getElem?_eq_getElem (by omega)⟩
 obtain⟨A',c',h1,h2,h3⟩:=hV.at_ v rw_ q hrow hq
 have hl:=hP.rows v rw_ hrow
 have hlt:q<rw_.l.length:=by rw[hl,List.length_map];exact (List.getElem?_eq_some_iff.1 hr).1
 obtain rfl:=h3 hlt
 refine⟨rw_,c',hrow,h1,h2,hlt,by rw[hl,List.getElem?_map,hr];rfl,hP.at_ v rw_ hrow (fun e=>?_),by rw[hl,List.length_map];exact hP.len v⟩
 have:rw_.l.length=0:=by rw[← bB,e];rfl
 omega
theorem tQ {rw_:eu} {g q e:Nat} (hA:rw_.A=some ⟨g,0,none⟩):(bH e rw_).shows g q ((ap rw_.l).drop q):=by
 have:=ik (aY (e:=e) (sz:=1) (n:=rw_.l.length) (cap:=rw_.c) (fun _=>hA:ap rw_.l≠[]→rw_.A=some ⟨g,0,none⟩)) q
 rw[Nat.zero_add] at this;exact this
theorem mO {X:Cx} {E:Env} {H:Heap} {o:Oper} {t q r i g:Nat} {xo:Operand} {rw_:eu} (ho:o.op=.load t xo) (hx:Proofs.YtpbmihpjgjbndaaGreatDoor.val E xo=some (.pointer (some ⟨g,q,none⟩))) (hk:H[i]?=some (bH 3 rw_)) {k':IntKind} {by':Nat} {z':Option Value} (ht:tab t=some ⟨.int k',1,by',z'⟩)
 (hA:rw_.A=some ⟨g,0,none⟩) (hl:rw_.l[q]?=some (r:Int)):gW X o E H (.int .i64 (r:Int)):=by
 refine dD (b:=g) (off:=q) (i:=0) (cs:=(ap rw_.l).drop q) (c:=bH 3 rw_) i ho hx hk (tQ hA) ?_
 unfold ew
 rw[ht]
 show ((ap rw_.l).drop q)[0]?=_
 rw[List.getElem?_drop];exact b8 hl
theorem wQ {c0 c1 c2 c3 c4 c5 c6 c7 c8:aO} {un:List eu} {v:Nat} {rw_:eu} (h:P.rowsL[v]?=some rw_):(c0::c1::c2::c3::c4::c5::c6::c7::c8::P.rows un)[9+v]?=some (bH 3 rw_):=by
 show ([c0,c1,c2,c3,c4,c5,c6,c7,c8]++P.rows un)[9+v]?=_
 rw[List.getElem?_append_right (by simp)]
 show (P.rows un)[9+v-9]?=_
 rw[Nat.add_sub_cancel_left]
 unfold EP.rows
 rw[List.getElem?_map,List.getElem?_append_left (List.getElem?_eq_some_iff.1 h).1,h]
 rfl
theorem tm {c0 c1 c2 c3 c4 c5 c6 c7 c8:aO} {un:List eu} {v:Nat} {rw_:eu} (h:un[v]?=some rw_):(c0::c1::c2::c3::c4::c5::c6::c7::c8::P.rows un)[9+(P.rowsL.length+v)]?=some (bH 3 rw_):=by
 show ([c0,c1,c2,c3,c4,c5,c6,c7,c8]++P.rows un)[9+(P.rowsL.length+v)]?=_
 rw[List.getElem?_append_right (by simp)]
 show (P.rows un)[9+(P.rowsL.length+v)-9]?=_
 rw[Nat.add_sub_cancel_left]
 unfold EP.rows
 rw[List.getElem?_map,List.getElem?_append_right (by omega),Nat.add_sub_cancel_left,h]
 rfl
theorem nV (hP:iB P L lv gv) (s:ES) (hT:TA P L rm0 tr pos par val s.rm) (hF:eC (P.n+1) s.fs par val row) (hV:u7 P.rowsL gv pos s.vals) {v w q r:Nat} (hv:v≤P.n) (hw:par v=some w) (hq:pos[v]?=some q) (hr:(L v)[q]?=some r) (hval:val v=tr.getD r 0):
 Fn 257 [.pointer (some ⟨P.pe,0,none⟩),.int .i64 (v:Int)] (aR (eb P s)) ([P.sg]++eb P s)
  fun _ H'=>∃ fs' row',H'=eb P { s with fs:=fs',rm:=s.rm.set r (val v),k:=s.k+1 }∧eC (P.n+1) fs' (aT par v none) (eE val v (4611686018427387904-val v)) row'∧fs'.k≤s.fs.k+2*cG (P.n+1)+11*(P.n+1):=by
 have hN:=hP.small
 have hvN:v<P.n+1:=by omega
 obtain⟨rw_,c',hrow,hvv,hlc,hql,hrl,hrA,hrlen⟩:=tg hP hV hv hq hr
 have hvl:v<s.vals.length:=(List.getElem?_eq_some_iff.1 hvv).1
 have hrm:=List.mem_of_getElem? hr
 have hr2:=(ez hP hrm).1
 have htb:=hT.trb r
 generalize hM:aR _=M
 refine aS Tryz.func257 rfl rfl fun w0=>?_
 refine bA ju ?_
 refine ad (aa ?_)
 (repeat' (first
  |refine ak (gs:=[999]) rfl ?_
  |refine ab [999] (af 5 rfl rfl rfl rfl) rfl ?_))
 refine bY (aK.re (A:=P.fo s.fs++[P.sg,P.pc s.k s.w,P.rc s.rm,P.lc s.vals,P.uc s.un]) (R:=P.rows s.un) [5,0,1,2,3,4,6,7,8] rfl (by decide)) ?_
 refine ao [999] (ir P s.k s.w) rfl rfl rfl rfl (by kernel_rfl) aK.refl trivial (fun _=>rfl) ?_
 rintro v0 H' rfl
 refine⟨rfl,?_⟩
 refine bY (aK.re (A:=[P.pc (s.k+1) s.w]++(P.fo s.fs++[P.sg,P.rc s.rm,P.lc s.vals,P.uc s.un])) (R:=P.rows s.un) [1,2,3,4,5,0,6,7,8] rfl (by decide)) ?_
 refine ai ?_
 refine ad (aa ?_)
 (repeat' (first
  |refine ak (gs:=[999]) rfl ?_
  |refine ab [999] (af 5 rfl rfl rfl rfl) rfl ?_))
 refine ao [] (pq hF hN hvN) rfl rfl rfl rfl (by kernel_rfl) aK.refl trivial (fun _=>rfl) ?_
 rintro _ H' ⟨fs1,rfl,rfl,hF1,hk1⟩
 refine⟨rfl,?_⟩
 (repeat' (first
  |refine ak (gs:=[999]) rfl ?_
  |refine ab [999] (af 5 rfl rfl rfl rfl) rfl ?_))
 refine ai ?_
 refine ad ?_
 refine fF 16 [0,1,2,3,4,5,6,7,8,9,10,11,12,13,14] 15 [] (by kernel_rfl) ?_
 (repeat' (first
  |refine f5 (gs:=[999]) rfl rfl ?_
  |refine bn [999] rfl rfl (af 5 rfl rfl rfl rfl) rfl ?_))
 refine b5 [999] rfl (aJ rfl rfl rfl rfl rfl hvN) rfl ?_
 refine bn [999] rfl rfl (aD 7 rfl rfl rfl hvv) rfl ?_
 (repeat' (first
  |refine f5 (gs:=[999]) rfl rfl ?_
  |refine bn [999] rfl rfl (af 5 rfl rfl rfl rfl) rfl ?_))
 refine b5 [999] rfl (f9 rfl rfl rfl rfl rfl (m:=0) (by omega)) rfl ?_
 refine bn [999] rfl rfl (mO rfl rfl (wQ hrow) rfl hrA hrl) rfl ?_
 (repeat' (first
  |refine f5 (gs:=[999]) rfl rfl ?_
  |refine bn [999] rfl rfl (af 5 rfl rfl rfl rfl) rfl ?_))
 have hAr:=hP.room hr2
 refine b5 [999] rfl (aJ (b:=P.gr) (n:=2*P.N.arcs.length) (c:=P.cr) rfl (congrArg (fun A=>some (Value.slice A (2*P.N.arcs.length) P.cr)) hAr) rfl rfl rfl hr2) rfl ?_
 refine eH rfl ?_
 refine aQ (n:=2*P.N.arcs.length) (cap:=P.cr) 6 rfl rfl rfl (congrArg (fun A=>some (aO.own (.slice A (2*P.N.arcs.length) P.cr) 2 1 (2*P.N.arcs.length) (ap s.rm))) hAr) (dk rfl rfl rfl (by rw[bB,hT.rml];exact hr2)) [] rfl ?_
 rw[show (ap s.rm).set r (.int .i64 (val v))=ap (s.rm.set r (val v)) from by simp[ap]]
 rw[← hAr]
 refine ai ⟨⟨[],by decide,rfl⟩,?_⟩
 refine bv ?_
 refine ai ?_
 refine ad (aa ?_)
 (repeat' (first
  |refine ak (gs:=[999]) rfl ?_
  |refine ab [999] (af 5 rfl rfl rfl rfl) rfl ?_))
 refine ao [] (zj hF1 hN hvN hw) rfl rfl rfl rfl (by kernel_rfl) aK.refl trivial (fun _=>rfl) ?_
 rintro _ H' ⟨fs2,row2,rfl,hF2,hk2⟩
 refine⟨rfl,?_⟩
 (repeat' (first
  |refine ak (gs:=[999]) rfl ?_
  |refine ab [999] (af 5 rfl rfl rfl rfl) rfl ?_))
 refine ai ?_
 refine aa ?_
 (repeat' (first
  |refine ak (gs:=[999]) rfl ?_
  |refine ab [999] (af 5 rfl rfl rfl rfl) rfl ?_))
 refine aw 40 (v':=.int .i64 (4611686018427387904-val v)) rfl (congrArg (Value.int .i64) (bU (by omega))) ?_
 refine ao [] (sv hF2 hN hvN (p:=[v]) ⟨rfl,by simp[aT]⟩ (d:=4611686018427387904-val v) (by omega) (by intro y hy;rw[List.mem_singleton.1 hy];omega)) rfl rfl rfl rfl (by kernel_rfl) aK.refl trivial (fun _=>rfl) ?_
 rintro _ H' ⟨fs3,row3,rfl,hF3,hk3⟩
 refine⟨rfl,?_⟩
 (repeat' (first
  |refine ak (gs:=[999]) rfl ?_
  |refine ab [999] (af 5 rfl rfl rfl rfl) rfl ?_))
 refine bY (kn (s:={ s with fs:=fs3,rm:=s.rm.set r (val v),k:=s.k+1 })) ?_
 refine ai ?_
 refine⟨_,rfl,fs3,row3,rfl,hF3,?_⟩
 have h0:{ s with fs:=fs3,rm:=s.rm.set r (val v),k:=s.k+1 }.fs=fs3:=rfl
 omega
end
end Go.Proofs.YtpbmihpjgjbndaaGreatDoor
/- The engine: one cell of a row is cleared. -/
set_option linter.unusedVariables false
set_option linter.unusedSimpArgs false
namespace Go.Proofs.YtpbmihpjgjbndaaGreatDoor
open Go.RowKit
variable {X:Cx} {Q:dl} {E E':Env} {H:Heap}
theorem vE {e:Nat} {uk:UK} {s by_:Nat} {z:Value} (h:tab e=some ⟨uk,s,by_,some z⟩) (w:World):(zeroValue e).run Tryz.prog w=.ok z w:=by
 obtain⟨d,j,_,hi,_,_,_,hz⟩:=cZ h
 simp[zeroValue,typeInfo,hi,hz z rfl]
theorem ug {ops l:List Oper} {o:Oper} {t e g i n cap c' sz e' sz' by' by2:Nat} {x:Operand} {z:Value} {z':Option Value} {uk:UK} {xs:List Value} (k:Nat) (ho:o.op=.call ⟨.builtin .clear,#[x],#[t]⟩) (hx:val E x=some (.slice (some ⟨g,i,none⟩) 1 c'))
 (hk:H[k]?=some (.own (.slice (some ⟨g,0,none⟩) n cap) e' sz n xs)) (ht:tab t=some ⟨.slice e,sz',by',z'⟩) (he:tab e=some ⟨uk,1,by2,some z⟩) (hz:z.cells.toList=[z]) (h1:one [z]=true) (hi:i<xs.length) (gs:List Nat) (hb:iJ X.n ops gs E o (.tuple #[])=some E')
 (h:JL X ops l Q E' (H.set k (.own (.slice (some ⟨g,0,none⟩) n cap) e' sz n (xs.set i z)))):JL X ops (o::l) Q E H:=by
 intro a w hA hH
 obtain⟨hg,hp⟩:=cP hb
 unfold wpList
 rw[if_pos (bQ hA hg)]
 left
 have hown:w.ownsRow 0 e' sz (.slice (some ⟨g,0,none⟩) n cap) n xs:=hH.holds _ (List.mem_of_getElem? hk)
 obtain⟨cur,hcur,hlen,htk⟩:∃ cur:Array Value,w.heap[g]?=some (.cells cur e' (0,0))∧n*sz≤cur.size∧cur.toList.take (n*sz)=xs:=by
  rcases hown.2 with ⟨h',_⟩|⟨g',cap',cur,h',h0,hg,h1,h2,h3,h4⟩
  ·simp at h'
  ·simp only[Value.slice.injEq,Option.some.injEq,Addr.mk.injEq,and_true,true_and] at h'
   obtain⟨rfl,rfl⟩:=h'
   exact⟨cur,hg,by rw[h3];exact Nat.mul_le_mul_right _ h1,h4⟩
 have hcur':w.heap[g]?=some (.cells cur.toList.toArray e' (0,0)):=hcur
 obtain⟨w',h2,h3,h4,h5,h6,h7,h8⟩:=dZ (o:=i) [z] 0 w cur.toList hcur' (by have:=hown.1;simp only[Array.length_toList,List.length_singleton] at*;omega) h1
 show o.upon _ a _ _ ((execOp a.eval o).run _ w)
 have hzc:(Builtin.zeroCells z.cells 1).toList=[z]:=by
  have e0:z.cells=#[z]:=Array.ext' (by rw[hz])
  rw[e0]
  simp[Builtin.zeroCells]
 have:(execOp a.eval o).run Tryz.prog w=.ok (.value (.tuple #[])) w':=by
  simp[execOp,ho,resolve,invoke,builtin,Builtin.clear_,hA.val hx,run_underlying (db ht),vE he,hzc,h2]
 rw[this]
 refine h _ _ (hA.putE hp) (hH.step k hk h4 h5 h6 (by omega) (fun j _ hj=>h8 j (fun x=>hj (by rw[x];rfl))) ?_ (fun b' hb'=>.inl hb'))
 show w'.ownsRow 0 e' sz _ n (wr xs i [z])
 refine lz hown (by simp only[List.length_singleton];omega) fun cs hcs=>?_
 rw[hcur] at hcs
 simp only[Option.some.injEq,Obj.cells.injEq,and_true] at hcs
 subst hcs
 exact h3
theorem l9 {ops l:List Oper} {o:Oper} {t e g i n cap m1 c1 m2 cx b off sz e' sz' by' by2:Nat} {d s:Operand} {z z':Option Value} {uk:UK} {xs vs:List Value} {c2:aO} (k k2:Nat) (ho:o.op=.call ⟨.builtin .copy,#[d,s],#[t,t]⟩) (hd:val E d=some (.slice (some ⟨g,i,none⟩) m1 c1)) (hs:val E s=some (.slice (some ⟨b,off,none⟩) m2 cx))
 (hk:H[k]?=some (.own (.slice (some ⟨g,0,none⟩) n cap) e' sz n xs)) (hk2:H[k2]?=some c2) (hc2:c2.shows b off vs) (ht:tab t=some ⟨.slice e,sz',by',z'⟩) (he:tab e=some ⟨uk,1,by2,z⟩) (hn:vs.length=Nat.min m2 m1) (h1:one vs=true) (hi:i+vs.length≤xs.length) (gs:List Nat) (hb:iJ X.n ops gs E o (.int .i64 (vs.length:Int))=some E')
 (h:JL X ops l Q E' (H.set k (.own (.slice (some ⟨g,0,none⟩) n cap) e' sz n (wr xs i vs)))):JL X ops (o::l) Q E H:=by
 intro a w hA hH
 obtain⟨hg,hp⟩:=cP hb
 unfold wpList
 rw[if_pos (bQ hA hg)]
 left
 have hown:w.ownsRow 0 e' sz (.slice (some ⟨g,0,none⟩) n cap) n xs:=hH.holds _ (List.mem_of_getElem? hk)
 have hshow:=hc2 w (hH.holds _ (List.mem_of_getElem? hk2))
 obtain⟨cur,hcur,hlen,htk⟩:∃ cur:Array Value,w.heap[g]?=some (.cells cur e' (0,0))∧n*sz≤cur.size∧cur.toList.take (n*sz)=xs:=by
  rcases hown.2 with ⟨h',_⟩|⟨g',cap',cur,h',h0,hg,h1,h2,h3,h4⟩
  ·simp at h'
  ·simp only[Value.slice.injEq,Option.some.injEq,Addr.mk.injEq,and_true,true_and] at h'
   obtain⟨rfl,rfl⟩:=h'
   exact⟨cur,hg,by rw[h3];exact Nat.mul_le_mul_right _ h1,h4⟩
 have hcur':w.heap[g]?=some (.cells cur.toList.toArray e' (0,0)):=hcur
 have hx0:xs.length=n*sz:=hown.1
 obtain⟨w',h2,h3,h4,h5,h6,h7,h8⟩:=dZ (o:=i) vs 0 w cur.toList hcur' (by have:=Array.length_toList (xs:=cur);omega) h1
 have hld:=run_loadCells_list (P:=Tryz.prog) w ⟨b,off,none⟩ vs (fun j v hj=>by rw[Addr.add_at];exact hshow j v hj)
 show o.upon _ a _ _ ((execOp a.eval o).run _ w)
 have hsz:(sizeOf e).run Tryz.prog w=.ok 1 w:=cA he w
 have:(execOp a.eval o).run Tryz.prog w=.ok (.value (.int .i64 (vs.length:Int))) w':=by
  simp[execOp,ho,resolve,invoke,builtin,Builtin.copy_,hA.val hd,hA.val hs,run_underlying (db ht),Builtin.lenOf,Builtin.firstCells,hsz,← hn,hld,h2,goInt]
 rw[this]
 refine h _ _ (hA.putE hp) (hH.step k hk h4 h5 h6 (by omega) (fun j _ hj=>h8 j (fun x=>hj (by rw[x];rfl))) ?_ (fun b' hb'=>.inl hb'))
 show w'.ownsRow 0 e' sz _ n (wr xs i vs)
 refine lz hown hi fun cs hcs=>?_
 rw[hcur] at hcs
 simp only[Option.some.injEq,Obj.cells.injEq,and_true] at hcs
 subst hcs
 exact h3
/-! ### A frame known by a fit -/
section
variable {Sf:Heap} {K:Env→Heap→Prop}
theorem xW {id:Nat} {l:List Oper} (n:Nat) (order:List (Nat×Bool)) (hB:mw l.toArray n order=true) (hS:aK X H Sf) (h:JW X l order Sf (fun E' H'=>JL X l (l.drop n) Q E' H') E H):
 J X (.region id l.toArray true) Q E H:=by
 intro a w hA hH
 refine iX (S:=fun w=>cm X.w0 X.M w Sf) n order uE hB (hS _ hH.drew) ?_
 have:=h a _ hA hH.drew
 refine (?_:∀ (Q1 Q2:Act→World→Prop),(∀ a w,Q1 a w→Q2 a w)→∀ l a w,pB Tryz.prog _ _ Q1 l a w→pB Tryz.prog _ _ Q2 l a w) _ _ ?_ _ a _ this
 ·intro Q1 Q2 hq l
  induction l with
  |nil=>exact fun a w h=>hq a w h
  |cons o l ih=>
   intro a w h
   obtain⟨k,st⟩:=o
   cases st with
   |true=>obtain⟨o,v,h1,h2,h3⟩:=h;exact⟨o,v,h1,h2,ih _ _ h3⟩
   |false=>exact wpOp_mono (fun a' w' h'=>⟨h'.1,ih _ _ h'.2⟩) h
 ·rintro a w ⟨E',H',hA',hH',hq⟩
  exact hq a w hA' hH'
def yB (X:Cx) (ops:List Oper) (rest:List (Nat×Bool)) (Sf:Heap) (K:Env→Heap→Prop):dl:=fun e E' H'=>match e with
 |.normal=>aK X H' Sf∧JW X ops rest Sf K E' H'
 |_=>False
theorem xd {ops:List Oper} {rest:List (Nat×Bool)} {k:Nat} {o:Oper} (ho:ops[k]?=some o) (h:JL X ops [o] (yB X ops rest Sf K) E H):JW X ops ((k,false)::rest) Sf K E H:=by
 intro a w hA hH
 have h1:=h a w hA hH
 show wpOp _ _ _ _ _ _ _
 refine iq (Q1:=jO X (yB X ops rest Sf K)) (fun e a w hne hq=>?_) ?_
 ·obtain⟨E1,H1,_,_,hq⟩:=hq
  cases e with
  |normal=>exact hne rfl
  |_=>exact hq
 ·unfold wpOp
  have ho':ops.toArray[k]?=some o:=by simpa using ho
  simp only[ho']
  unfold wpList at h1
  have hfin:∀ a' w',wpList Tryz.prog ops.toArray (jO X (yB X ops rest Sf K)) [] a' w'→cm X.w0 X.M w' Sf∧pB Tryz.prog ops.toArray (fun w=>cm X.w0 X.M w Sf) (fun a' w'=>∃ E' H',eh X.n a' E'∧cm X.w0 X.M w' H'∧K E' H') rest a' w':=by
   rintro a' w' ⟨E1,H1,hA1,hH1,hf,hj⟩
   exact⟨hf _ hH1,hj a' w' hA1 hH1⟩
  split
  ·rename_i hw
   rw[if_pos hw] at h1
   exact h1.imp (Oper.wp_mono hfin) id
  ·rename_i hw
   rw[if_neg hw] at h1
   exact hfin _ _ h1
end
theorem aK.seg {b e off:Nat} {cs vs:List Value} (k:Nat) (hk:H[k]?=some (blk b e cs)) (hv:∀ i v,vs[i]?=some v→cs[off+i]?=some v):aK X H (H.set k (.seg b off vs)):=by
 intro w hH
 have hb:=hH.holds _ (List.mem_of_getElem? hk)
 refine hH.chunk k hk (fun i v hi=>?_) (fun _ h=>by cases h) (fun b' h=>?_)
 ·have h1:=hv i v hi
  have h2:w.heap[b]?=some (.cells cs.toArray e (0,0)):=hb
  show w.cell? ⟨b,off+i,none⟩=some v
  simp[World.cell?,h2,h1]
 ·simp only[aO.at_] at h
  split at h
  ·cases h
  ·exact h
end Go.Proofs.YtpbmihpjgjbndaaGreatDoor
