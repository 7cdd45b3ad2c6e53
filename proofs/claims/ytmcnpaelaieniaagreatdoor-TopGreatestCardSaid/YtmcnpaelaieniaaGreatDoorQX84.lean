import Derived.Test.YtmcnpaelaieniaaGreatDoorQE
import Derived.Test.YtmcnpaelaieniaaGreatDoorQX101
import Derived.Test.YtmcnpaelaieniaaGreatDoorQX98
import Derived.Test.YtmcnpaelaieniaaGreatDoorQB
import Derived.Laws.Cells
/- A part of the proof; see NOTES.md. -/
set_option linter.unusedVariables false
set_option linter.unusedSimpArgs false
namespace Go.Proofs.YtmcnpaelaieniaaGreatDoor
open Go.RowKit
structure EP where
 N:aU
 least:Int
 n:Nat
 A:OA
 c:Nat
 b:Nat
 o:Nat
 gr:Nat
 Ar:OA
 cr:Nat
 gl:Nat
 gu:Nat
 pe:Nat
 pt:Nat
 ps:Nat
 go:Nat
 gn:Nat
 co:Nat
 cap:Nat
 rowsL:List d9
structure ES where
 vals:LV_
 un:List d9
 fs:fV
 rm:LI
 k:Nat
 w:Nat
abbrev EP.fo(P:EP)(f:fV):Heap:=jD P.pt P.ps P.go P.gn P.co P.cap (P.n+1) f
def EG(P:EP)(k w:Nat):LV_:=[.int .i64 P.N.nodes,.int .i64 P.N.src,.int .i64 P.N.snk,.slice P.A P.N.arcs.length P.c,.slice P.Ar (2*P.N.arcs.length) P.cr,.int .i64 P.least,.slice (some ⟨P.gl,0,none⟩) (P.n+1) (P.n+1),.slice (some ⟨P.gu,0,none⟩) (P.n+1) (P.n+1),
 .pointer (some ⟨P.pt,0,none⟩),.int .i64 (dc k),.int .i64 (dc w)]
abbrev EP.sg(P:EP):aV:=.seg P.b P.o (arcs P.N.arcs)
abbrev EP.pc(P:EP)(k w:Nat):aV:=blk P.pe 310 (EG P k w)
abbrev EP.rc(P:EP)(rm:LI):aV:=.own (.slice P.Ar (2*P.N.arcs.length) P.cr) 2 1 (2*P.N.arcs.length) (ax rm)
abbrev EP.lc(P:EP)(vals:LV_):aV:=.own (.slice (some ⟨P.gl,0,none⟩) (P.n+1) (P.n+1)) 23 1 (P.n+1) vals
abbrev EP.uc(P:EP)(un:List d9):aV:=.own (.slice (some ⟨P.gu,0,none⟩) (P.n+1) (P.n+1)) 23 1 (P.n+1) (un.map cz)
abbrev EP.rows(P:EP)(un:List d9):Heap:=(P.rowsL++un).map (aZ 3)
def eW(P:EP)(s:ES):Heap:=(P.fo s.fs++[P.pc s.k s.w,P.rc s.rm,P.lc s.vals,P.uc s.un])++P.rows s.un
def mZ(P:EP)(s:ES):Heap:=(P.fo s.fs++[P.sg,P.pc s.k s.w,P.rc s.rm,P.lc s.vals,P.uc s.un])++P.rows s.un
section
variable {X:Cx} {P:EP} {s:ES}
theorem lz:aH X ([P.sg]++eW P s) (mZ P s):=aH.re (A:=[P.sg]++(P.fo s.fs++[P.pc s.k s.w,P.rc s.rm,P.lc s.vals,P.uc s.un])) (R:=P.rows s.un) [1,2,3,4,0,5,6,7,8] rfl (by decide)
theorem mW:aH X (mZ P s) (eW P s):=aH.re (A:=P.fo s.fs++[P.sg,P.pc s.k s.w,P.rc s.rm,P.lc s.vals,P.uc s.un]) (R:=P.rows s.un) [0,1,2,3,5,6,7,8] rfl (by decide)
theorem ld:aH X (mZ P s) (eW P s++[P.sg]):=aH.mid (A:=P.fo s.fs++[P.sg,P.pc s.k s.w,P.rc s.rm,P.lc s.vals,P.uc s.un]) (R:=P.rows s.un) [0,1,2,3,5,6,7,8] [4] rfl rfl (by decide)
theorem kU:aH X (eW P s++[P.sg]) (mZ P s):=by
 refine aH.trans (aH.swap (A:=P.fo s.fs++[P.pc s.k s.w,P.rc s.rm,P.lc s.vals,P.uc s.un]) (R:=P.rows s.un) (B:=[P.sg])) ?_;exact aH.re (A:=(P.fo s.fs++[P.pc s.k s.w,P.rc s.rm,P.lc s.vals,P.uc s.un])++[P.sg]) (R:=P.rows s.un) [0,1,2,3,8,4,5,6,7] rfl (by decide)
end
theorem kf(P:EP)(k w:Nat):Fn 236 [.pointer (some ⟨P.pe,0,none⟩)] (aL [P.pc k w]) ([]++[P.pc k w]) λ _ H'=>H'=[P.pc (k+1) w]:=by
 generalize hM:aL _=M
 refine aJ Tryz.func236 rfl rfl λ w0=>?_;refine aa ?_
 (repeat' (first|refine am (gs:=[999]) rfl ?_|refine ab [999] (af 0 rfl) rfl ?_))
 refine aI 6 (v':=.int .i64 (dc ((k+1:Nat):Int))) rfl (Gt (Value.int .i64) (mD _ _)) ?_
 (repeat' (refine am (gs:=[999]) rfl ?_))
 refine aA 0 rfl [] rfl ?_;exact ai ⟨_,rfl,rfl⟩
section
variable {P:EP} {fs:fV} {par:OV} {val:Nat->Int} {row:Nat->LN}
theorem Eo(h:fE (P.n+1) fs par val row)(hN:P.n+1<=10000){v:Nat}(hv:v<P.n+1){p:LN}(hp:aS par v p):Fn 240 [.pointer (some ⟨P.pt,0,none⟩),.int .i64 (v:Int)] (aL (P.fo fs)) ([]++P.fo fs)
 λ r H'=>∃ fs' row' y,r=.int .i64 ((y:Nat):Int)/\H'=P.fo fs'/\fE (P.n+1) fs' par val row'/\p.getLast?=some y/\fs'.k<=fs.k+dd (P.n+1)+5*(P.n+1):=by
 obtain⟨s',row',y,h1,h2,h3,h4⟩:=h.root_ hN hv hp;exact (sE fs h.fok v hv s' y h1).mono λ r H' ⟨e1,e2⟩=>⟨s',row',y,e1,e2,h2,h3,h4⟩
theorem CO(h:fE (P.n+1) fs par val row)(hN:P.n+1<=10000){v:Nat}(hv:v<P.n+1):Fn 255 [.pointer (some ⟨P.pt,0,none⟩),.int .i64 (v:Int)] (aL (P.fo fs)) ([]++P.fo fs)
 λ r H'=>∃ fs' row',r=.int .i64 (enc (par v))/\H'=P.fo fs'/\fE (P.n+1) fs' par val row'/\fs'.k<=fs.k+dd (P.n+1)+5*(P.n+1):=by
 obtain⟨p,hp⟩:=h.path v hv;obtain⟨s',row',h1,h2,h3,h4⟩:=h.above_ hN hv hp;exact (uA fs h.fok v hv s' _ h1).mono λ r H' ⟨e1,e2⟩=>⟨s',row',e1,e2,h2,h4⟩
theorem rY(h:fE (P.n+1) fs par val row)(hN:P.n+1<=10000){v:Nat}(hv:v<P.n+1):Fn 252 [.pointer (some ⟨P.pt,0,none⟩),.int .i64 (v:Int)] (aL (P.fo fs)) ([]++P.fo fs)
 λ r H'=>∃ fs',r=.int .i64 (val v)/\H'=P.fo fs'/\fE (P.n+1) fs' par val row/\fs'.k<=fs.k+2*(P.n+1):=by
 obtain⟨s',h1,h2,h3,h4⟩:=h.value_ hN hv;exact (vY fs h.fok v hv s' h1).mono λ r H' ⟨e1,e2⟩=>⟨s',by rw[e1,h3],e2,h2,h4⟩
theorem w7(h:fE (P.n+1) fs par val row)(hN:P.n+1<=10000){v:Nat}(hv:v<P.n+1){p:LN}(hp:aS par v p){d:Int}(hd:-9223372036854775808<=d/\d<=9223372036854775807)(hs:∀ y∈p,-4611686018427387904<=val y+d/\val y+d<=4611686018427387904):
 Fn 254 [.pointer (some ⟨P.pt,0,none⟩),.int .i64 (v:Int),.int .i64 d] (aL (P.fo fs)) ([]++P.fo fs)
 λ _ H'=>∃ fs' row',H'=P.fo fs'/\fE (P.n+1) fs' par (λ z=>if z∈p then val z+d else val z) row'/\fs'.k<=fs.k+dd (P.n+1)+2*(P.n+1):=by
 obtain⟨s',row',h1,h2,h3⟩:=h.add_ hN hv hp hd hs;exact (DJ fs h.fok v hv d hd s' h1).mono λ r H' e2=>⟨s',row',e2,h2,h3⟩
theorem xq(h:fE (P.n+1) fs par val row)(hN:P.n+1<=10000){v:Nat}(hv:v<P.n+1){p:LN}(hp:aS par v p):Fn 253 [.pointer (some ⟨P.pt,0,none⟩),.int .i64 (v:Int)] (aL (P.fo fs)) ([]++P.fo fs)
 λ r H'=>∃ fs' row' y,r=.int .i64 ((y:Nat):Int)/\H'=P.fo fs'/\fE (P.n+1) fs' par val row'/\gG (cT p.reverse val) y (val y)/\y∈p/\fs'.k<=fs.k+dd (P.n+1)+9*(P.n+1):=by
 obtain⟨s',row',y,h1,h2,h3,h4,h5⟩:=h.least_ hN hv hp;exact (x6 fs h.fok v hv s' y h1).mono λ r H' ⟨e1,e2⟩=>⟨s',row',y,e1,e2,h2,h3,h4,h5⟩
theorem FN(h:fE (P.n+1) fs par val row)(hN:P.n+1<=10000){v u:Nat}(hv:v<P.n+1)(hu:par v=some u):Fn 258 [.pointer (some ⟨P.pt,0,none⟩),.int .i64 (v:Int)] (aL (P.fo fs)) ([]++P.fo fs)
 λ _ H'=>∃ fs' row',H'=P.fo fs'/\fE (P.n+1) fs' (bj par v none) val row'/\fs'.k<=fs.k+dd (P.n+1)+7*(P.n+1):=by
 obtain⟨s',row',h1,h2,h3⟩:=h.cut_ hN hv hu;exact (De fs h.fok v hv s' h1).mono λ r H' e2=>⟨s',row',e2,h2,h3⟩
theorem ED(h:fE (P.n+1) fs par val row)(hN:P.n+1<=10000){v w:Nat}(hv:v<P.n+1)(hw:w<P.n+1)(hvn:par v=none){q:LN}(hq:aS par w q)(hvq:v∉q):Fn 257 [.pointer (some ⟨P.pt,0,none⟩),.int .i64 (v:Int),.int .i64 (w:Int)] (aL (P.fo fs)) ([]++P.fo fs)
 λ _ H'=>∃ fs' row',H'=P.fo fs'/\fE (P.n+1) fs' (bj par v (some w)) val row'/\fs'.k<=fs.k+3*dd (P.n+1)+10*(P.n+1):=by
 obtain⟨s',row',h1,h2,h3⟩:=h.link_ hN hv hw hvn hq hvq;exact (Az fs h.fok v w hv hw s' h1).mono λ r H' e2=>⟨s',row',e2,h2,h3⟩
end
structure jY (P:EP) (L:Nat->LN) (lv:Nat->Int) (gv:Nat->Nat):Prop where
 right:P.N.Right
 nodes:P.N.nodes=P.n
 graded:eF P.N L lv
 rl:P.rowsL.length=P.n+1
 rows:∀ (v:Nat) (row:d9),P.rowsL[v]?=some row->row.l=(L v).map λ (i:Nat)=>(i:Int)
 at_:∀ (v:Nat) (row:d9),P.rowsL[v]?=some row->ax row.l≠[]->row.A=some ⟨gv v,0,none⟩
 len:∀ v,(L v).length<=4000
 arcs:P.N.arcs≠[]->P.A=some ⟨P.b,P.o,none⟩
 ar:P.N.arcs≠[]->P.Ar=some ⟨P.gr,0,none⟩
 le:-9223372036854775808<=P.least/\P.least<=9223372036854775807
theorem jY.room{P:EP}{L:Nat->LN}{lv:Nat->Int}{gv:Nat->Nat}(h:jY P L lv gv){r:Nat}(hr:r<2*P.N.arcs.length):P.Ar=some ⟨P.gr,0,none⟩:=h.ar (by intro e;rw[e] at hr;simp at hr)
theorem jY.small{P:EP}{L:Nat->LN}{lv:Nat->Int}{gv:Nat->Nat}(h:jY P L lv gv):P.n+1<=10000:=by
 have:=h.right.nodes;have:=h.nodes;omega
structure TA (P:EP) (L:Nat->LN) (rm0 tr:LI) (pos:LN) (par:OV) (val:Nat->Int) (rm:LI):Prop where
 posl:pos.length=P.n+1
 link:∀ v w,v<=P.n->par v=some w->∃ q r,pos[v]?=some q/\(L v)[q]?=some r/\eV P.N r=w/\val v=tr.getD r 0
 free:∀ v,v<=P.n->par v=none->val v=4611686018427387904
 rml:rm.length=2*P.N.arcs.length
 lead:∀ v r,r∈L v->(∀ q,par v≠none->pos[v]?=some q->(L v)[q]?≠some r)->rm.getD r 0=tr.getD r 0
 rest:∀ r,(∀ v,r∉L v)->rm.getD r 0=rm0.getD r 0
 trb:∀ r,0<=tr.getD r 0/\tr.getD r 0<=4611686018427387903
section
variable {P:EP} {L:Nat->LN} {lv:Nat->Int} {gv:Nat->Nat} {rm0 tr:LI} {pos:LN} {par:OV} {val:Nat->Int} {rm:LI}
theorem TA.pos_at(h:TA P L rm0 tr pos par val rm){v:Nat}(hv:v<=P.n):∃ q,pos[v]?=some q:=⟨pos[v]'(by have:=h.posl;omega),Gq (by have:=h.posl;omega)⟩
abbrev fQ(val:Nat->Int)(v:Nat)(d:Int):Nat->Int:=λ z=>if z∈[v] then val z+d else val z
theorem fD(hP:jY P L lv gv){v r:Nat}(h:r∈L v):r<2*P.N.arcs.length/\dC P.N r=v/\lv (eV P.N r)=lv v+1:=hP.graded.ok v r h
theorem TA.settle(h:TA P L rm0 tr pos par val rm)(hP:jY P L lv gv){v w q r:Nat}(hv:v<=P.n)(hw:par v=some w)(hq:pos[v]?=some q)(hr:(L v)[q]?=some r)(hval:val v=tr.getD r 0):
 TA P L rm0 tr pos (bj par v none) (fQ val v (4611686018427387904-val v)) (rm.set r (val v)):=by
 have hrm:=Gu hr;have hrl:=(fD hP hrm).1;refine⟨h.posl,λ u z hu hz=>?_,λ u hu hn=>?_,by rw[Ha];exact h.rml,λ u e he hne=>?_,λ e he=>?_,h.trb⟩
 ·simp only[bj] at hz;split at hz
  ·cases hz
  ·rename_i hne;obtain⟨q',r',k1,k2,k3,k4⟩:=h.link u z hu hz;exact⟨q',r',k1,k2,k3,by simp only[fQ];rw[if_neg (by simpa using hne)];exact k4⟩
 ·simp only[fQ,Gy];by_cases e:u=v
  ·rw[if_pos e,e];omega
  ·rw[if_neg e];exact h.free u hu (by simpa [bj,e] using hn)
 ·by_cases e:r=e
  ·subst e;rw[iG (by rw[h.rml];exact hrl),if_pos rfl,hval]
  ·rw[iG (by rw[h.rml];exact hrl),if_neg e];refine h.lead u _ he fun q' hn hq'=>?_;by_cases euv:u=v
   ·subst euv;rw[hq] at hq';simp only[Gs] at hq';subst hq';rw[hr];simpa using e
   ·exact hne q' (by simpa [bj,euv] using hn) hq'
 ·have:r≠e:=λ h'=>he v (h'▸hrm);rw[iG (by rw[h.rml];exact hrl),if_neg this];exact h.rest e he
theorem TA.bump(h:TA P L rm0 tr pos par val rm){v q:Nat}(hn:par v=none):TA P L rm0 tr (pos.set v q) par val rm:=by
 have ne:∀ u,par u≠none->v≠u:=λ u hu e=>hu (e▸hn);refine⟨by rw[Ha];exact h.posl,λ u z hu hz=>?_,h.free,h.rml,λ u e he hne=>?_,h.rest,h.trb⟩
 ·obtain⟨q',r',k1,k2,k3,k4⟩:=h.link u z hu hz;exact⟨q',r',by rw[GJ (ne u (by rw[hz];simp))];exact k1,k2,k3,k4⟩
 ·exact h.lead u e he λ q' hn' hq'=>hne q' hn' (by rw[GJ (ne u hn')];exact hq')
theorem TA.hook(h:TA P L rm0 tr pos par val rm)(hP:jY P L lv gv){v q r:Nat}(hv:v<=P.n)(hn:par v=none)(hq:pos[v]?=some q)(hr:(L v)[q]?=some r):
 TA P L rm0 tr pos (bj par v (some (eV P.N r))) (fQ val v (rm.getD r 0-4611686018427387904)) rm:=by
 have hrm:=Gu hr;refine⟨h.posl,λ u z hu hz=>?_,λ u hu hn'=>?_,h.rml,λ u e he hne=>?_,h.rest,h.trb⟩
 ·simp only[bj] at hz;by_cases e:u=v
  ·subst e;rw[if_pos rfl] at hz;simp only[Gs] at hz;refine⟨q,r,hq,hr,hz,?_⟩;simp only[fQ,Gy,Ij];rw[h.free u hu hn,h.lead u r hrm (λ _ k=>absurd hn k)];omega
  ·rw[if_neg e] at hz;obtain⟨q',r',k1,k2,k3,k4⟩:=h.link u z hu hz;exact⟨q',r',k1,k2,k3,by simp only[fQ,Gy];rw[if_neg e];exact k4⟩
 ·simp only[fQ,List.mem_singleton];have e:u≠v:=fun e=>by subst e;simp[bj] at hn'
  rw[if_neg e];exact h.free u hu (by simpa [bj,e] using hn')
 ·refine h.lead u e he λ q' hnn hq'=>?_;by_cases euv:u=v
  ·subst euv;exact absurd hn hnn
  ·exact hne q' (by simpa [bj,euv] using hnn) hq'
theorem TA.path_lv(h:TA P L rm0 tr pos par val rm)(hP:jY P L lv gv):∀ {p:LN} {v:Nat},aS par v p->v<=P.n->∀ y∈p,lv v<=lv y/\(y≠v->lv v<lv y)
 |[],_,hp,_,_,_=>hp.elim
 |[z],v,⟨h1,_⟩,_,y,hy=>by
  rw[Gy.1 hy,<- h1];exact⟨HK _,λ h=>absurd rfl h⟩
 |z::z'::l,v,⟨h1,h2,h3⟩,hv,y,hy=>by
  rcases GD.1 hy with rfl|hy
  ·rw[<- h1];exact⟨HK _,λ h=>absurd rfl h⟩
  ·obtain⟨q,r,k1,k2,k3,k4⟩:=h.link v z' hv h2;have hm:=Gu k2;obtain⟨g1,g2,g3⟩:=fD hP hm
   have hz:z'<=P.n:=by
    have:=(gU hP.right g1).2.2;have:=hP.nodes;omega
   have:=(TA.path_lv h hP h3 hz y hy).1;rw[k3] at g3;exact⟨by omega,λ _=>by omega⟩
end
section
variable {P:EP} {L:Nat->LN} {lv:Nat->Int} {gv:Nat->Nat} {rm0 tr:LI} {pos:LN} {par:OV} {val:Nat->Int} {row:Nat->LN}
theorem xb(hP:jY P L lv gv){vals:LV_}(hV:oY P.rowsL gv pos vals){v q r:Nat}(hv:v<=P.n)(hq:pos[v]?=some q)(hr:(L v)[q]?=some r):
 ∃ rw_ c',P.rowsL[v]?=some rw_/\vals[v]?=some (.slice (some ⟨gv v,q,none⟩) (rw_.l.length-q) c')/\rw_.l.length-q<=c'/\q<rw_.l.length/\rw_.l[q]?=some (r:Int)/\rw_.A=some ⟨gv v,0,none⟩/\rw_.l.length<=4000:=by
 have hrl:=hP.rl;obtain⟨rw_,hrow⟩:∃ rw_,P.rowsL[v]?=some rw_:=⟨P.rowsL[v]'(by omega),Gq (by omega)⟩;obtain⟨A',c',h1,h2,h3⟩:=hV.at_ v rw_ q hrow hq;have hl:=hP.rows v rw_ hrow;have hlt:q<rw_.l.length:=by rw[hl,GA];exact (Gv.1 hr).1
 obtain rfl:=h3 hlt;refine⟨rw_,c',hrow,h1,h2,hlt,by rw[hl,GC,hr];rfl,hP.at_ v rw_ hrow (λ e=>?_),by rw[hl,GA];exact hP.len v⟩;have:rw_.l.length=0:=by rw[<- bK,e];rfl
 omega
theorem yf{rw_:d9}{g q e:Nat}(hA:rw_.A=some ⟨g,0,none⟩):(aZ e rw_).shows g q ((ax rw_.l).drop q):=by
 have:=ep (aE (e:=e) (sz:=1) (n:=rw_.l.length) (cap:=rw_.c) (λ _=>hA:ax rw_.l≠[]->rw_.A=some ⟨g,0,none⟩)) q;rw[GZ] at this;exact this
theorem pI{X:Cx}{E:Env}{H:Heap}{o:Oper}{t q r i g:Nat}{xo:Operand}{rw_:d9}(ho:o.op=.load t xo)(hx:Proofs.YtmcnpaelaieniaaGreatDoor.val E xo=some (.pointer (some ⟨g,q,none⟩)))(hk:H[i]?=some (aZ 3 rw_)){k':IntKind}{by':Nat}{z':Option Value}(ht:tab t=some ⟨.int k',1,by',z'⟩)
 (hA:rw_.A=some ⟨g,0,none⟩) (hl:rw_.l[q]?=some (r:Int)):gz X o E H (.int .i64 (r:Int)):=by
 refine dr (b:=g) (off:=q) (i:=0) (cs:=(ax rw_.l).drop q) (c:=aZ 3 rw_) i ho hx hk (yf hA) ?_;unfold eH;rw[ht];show ((ax rw_.l).drop q)[0]?=_;rw[Hu];exact dx hl
theorem zW{c0 c1 c2 c3 c4 c5 c6 c7 c8:aV}{un:List d9}{v:Nat}{rw_:d9}(h:P.rowsL[v]?=some rw_):(c0::c1::c2::c3::c4::c5::c6::c7::c8::P.rows un)[9+v]?=some (aZ 3 rw_):=by
 show ([c0,c1,c2,c3,c4,c5,c6,c7,c8]++P.rows un)[9+v]?=_;rw[GL (by simp)];show (P.rows un)[9+v-9]?=_;rw[Hb];unfold EP.rows;rw[GC,Hi (Gv.1 h).1,h];rfl
theorem wV{c0 c1 c2 c3 c4 c5 c6 c7 c8:aV}{un:List d9}{v:Nat}{rw_:d9}(h:un[v]?=some rw_):(c0::c1::c2::c3::c4::c5::c6::c7::c8::P.rows un)[9+(P.rowsL.length+v)]?=some (aZ 3 rw_):=by
 show ([c0,c1,c2,c3,c4,c5,c6,c7,c8]++P.rows un)[9+(P.rowsL.length+v)]?=_;rw[GL (by simp)];show (P.rows un)[9+(P.rowsL.length+v)-9]?=_;rw[Hb];unfold EP.rows;rw[GC,GL (by omega),Hb,h];rfl
theorem ru(hP:jY P L lv gv)(s:ES)(hT:TA P L rm0 tr pos par val s.rm)(hF:fE (P.n+1) s.fs par val row)(hV:oY P.rowsL gv pos s.vals){v w q r:Nat}(hv:v<=P.n)(hw:par v=some w)(hq:pos[v]?=some q)(hr:(L v)[q]?=some r)(hval:val v=tr.getD r 0):
 Fn 244 [.pointer (some ⟨P.pe,0,none⟩),.int .i64 (v:Int)] (aL (eW P s)) ([P.sg]++eW P s)
  λ _ H'=>∃ fs' row',H'=eW P { s with fs:=fs',rm:=s.rm.set r (val v),k:=s.k+1 }/\fE (P.n+1) fs' (bj par v none) (fQ val v (4611686018427387904-val v)) row'/\fs'.k<=s.fs.k+2*dd (P.n+1)+11*(P.n+1):=by
 have hN:=hP.small;have hvN:v<P.n+1:=by omega
 obtain⟨rw_,c',hrow,hvv,hlc,hql,hrl,hrA,hrlen⟩:=xb hP hV hv hq hr;have hvl:v<s.vals.length:=(Gv.1 hvv).1;have hrm:=Gu hr;have hr2:=(fD hP hrm).1;have htb:=hT.trb r
 generalize hM:aL _=M
 refine aJ Tryz.func244 rfl rfl λ w0=>?_;refine bJ lz ?_;refine ad (aa ?_)
 (repeat' (first|refine am (gs:=[999]) rfl ?_|refine ab [999] (af 5 rfl) rfl ?_))
 refine bY (aH.re (A:=P.fo s.fs++[P.sg,P.pc s.k s.w,P.rc s.rm,P.lc s.vals,P.uc s.un]) (R:=P.rows s.un) [5,0,1,2,3,4,6,7,8] rfl (by decide)) ?_;refine aw [999] (kf P s.k s.w) rfl rfl rfl rfl (by kernel_rfl) aH.refl an (λ _=>rfl) ?_;rintro v0 H' rfl;refine⟨rfl,?_⟩;refine bY (aH.re (A:=[P.pc (s.k+1) s.w]++(P.fo s.fs++[P.sg,P.rc s.rm,P.lc s.vals,P.uc s.un])) (R:=P.rows s.un) [1,2,3,4,5,0,6,7,8] rfl (by decide)) ?_;refine ai ?_;refine ad (aa ?_)
 (repeat' (first|refine am (gs:=[999]) rfl ?_|refine ab [999] (af 5 rfl) rfl ?_))
 refine aw [] (rY hF hN hvN) rfl rfl rfl rfl (by kernel_rfl) aH.refl an (λ _=>rfl) ?_;rintro _ H' ⟨fs1,rfl,rfl,hF1,hk1⟩;refine⟨rfl,?_⟩
 (repeat' (first|refine am (gs:=[999]) rfl ?_|refine ab [999] (af 5 rfl) rfl ?_))
 refine ai ?_;refine ad ?_;refine eK 16 [0,1,2,3,4,5,6,7,8,9,10,11,12,13,14] 15 [] (by kernel_rfl) ?_
 (repeat' (first|refine ev (gs:=[999]) rfl rfl ?_|refine bA [999] rfl rfl (af 5 rfl) rfl ?_))
 refine cE [999] rfl (aG rfl hvN) rfl ?_;refine bA [999] rfl rfl (aD 7 rfl rfl rfl hvv) rfl ?_
 (repeat' (first|refine ev (gs:=[999]) rfl rfl ?_|refine bA [999] rfl rfl (af 5 rfl) rfl ?_))
 refine cE [999] rfl (bR rfl (m:=0) (by omega)) rfl ?_;refine bA [999] rfl rfl (pI rfl rfl (zW hrow) rfl hrA hrl) rfl ?_
 (repeat' (first|refine ev (gs:=[999]) rfl rfl ?_|refine bA [999] rfl rfl (af 5 rfl) rfl ?_))
 have hAr:=hP.room hr2;refine cE [999] rfl (oy (b:=P.gr) (n:=2*P.N.arcs.length) (c:=P.cr) rfl (Gt (λ A=>some (Value.slice A (2*P.N.arcs.length) P.cr)) hAr) rfl rfl rfl hr2) rfl ?_;refine d6 rfl ?_;refine aO (n:=2*P.N.arcs.length) (cap:=P.cr) 6 rfl rfl rfl (Gt (λ A=>some (aV.own (.slice A (2*P.N.arcs.length) P.cr) 2 1 (2*P.N.arcs.length) (ax s.rm))) hAr) (df rfl rfl rfl (by rw[bK,hT.rml];exact hr2)) [] rfl ?_;rw[show (ax s.rm).set r (.int .i64 (val v))=ax (s.rm.set r (val v)) from by simp[ax]];rw[<- hAr];refine ai ⟨⟨[],by decide,rfl⟩,?_⟩;refine bq ?_;refine ai ?_;refine ad (aa ?_)
 (repeat' (first|refine am (gs:=[999]) rfl ?_|refine ab [999] (af 5 rfl) rfl ?_))
 refine aw [] (FN hF1 hN hvN hw) rfl rfl rfl rfl (by kernel_rfl) aH.refl an (λ _=>rfl) ?_;rintro _ H' ⟨fs2,row2,rfl,hF2,hk2⟩;refine⟨rfl,?_⟩
 (repeat' (first|refine am (gs:=[999]) rfl ?_|refine ab [999] (af 5 rfl) rfl ?_))
 refine ai ?_;refine aa ?_
 (repeat' (first|refine am (gs:=[999]) rfl ?_|refine ab [999] (af 5 rfl) rfl ?_))
 refine aI 40 (v':=.int .i64 (4611686018427387904-val v)) rfl (Gt (Value.int .i64) (cv (by omega))) ?_;refine aw [] (w7 hF2 hN hvN (p:=[v]) ⟨rfl,by simp[bj]⟩ (d:=4611686018427387904-val v) (by omega) (by intro y hy;rw[Gy.1 hy];omega)) rfl rfl rfl rfl (by kernel_rfl) aH.refl an (λ _=>rfl) ?_;rintro _ H' ⟨fs3,row3,rfl,hF3,hk3⟩;refine⟨rfl,?_⟩
 (repeat' (first|refine am (gs:=[999]) rfl ?_|refine ab [999] (af 5 rfl) rfl ?_))
 refine bY (mW (s:={ s with fs:=fs3,rm:=s.rm.set r (val v),k:=s.k+1 })) ?_;refine ai ?_;refine⟨_,rfl,fs3,row3,rfl,hF3,?_⟩;have h0:{ s with fs:=fs3,rm:=s.rm.set r (val v),k:=s.k+1 }.fs=fs3:=rfl;omega
end
variable {X:Cx} {Q:dQ} {E E':Env} {H:Heap}
theorem Bt{e:Nat}{uk:UK}{s by_:Nat}{z:Value}(h:tab e=some ⟨uk,s,by_,some z⟩)(w:World):(zeroValue e).run Tryz.prog w=.ok z w:=by
 obtain⟨d,j,_,hi,_,_,_,hz⟩:=dJ h;simp[zeroValue,typeInfo,hi,hz z rfl]
theorem ze{ops l:List Oper}{o:Oper}{t e g i n cap c' sz e' sz' by' by2:Nat}{x:Operand}{z:Value}{z':Option Value}{uk:UK}{xs:LV_}(k:Nat)(ho:o.op=.call ⟨.builtin .clear,#[x],#[t]⟩)(hx:val E x=some (.slice (some ⟨g,i,none⟩) 1 c'))
 (hk:H[k]?=some (.own (.slice (some ⟨g,0,none⟩) n cap) e' sz n xs)) (ht:tab t=some ⟨.slice e,sz',by',z'⟩) (he:tab e=some ⟨uk,1,by2,some z⟩) (hz:z.cells.toList=[z]) (h1:one [z]=true) (hi:i<xs.length) (gs:LN) (hb:jH X.n ops gs E o (.tuple #[])=some E')
 (h:JL X ops l Q E' (H.set k (.own (.slice (some ⟨g,0,none⟩) n cap) e' sz n (xs.set i z)))):JL X ops (o::l) Q E H:=by
 intro a w hA hH;obtain⟨hg,hp⟩:=db hb;unfold wpList;rw[if_pos (ce hA hg)]
 left
 have hown:w.ownsRow 0 e' sz (.slice (some ⟨g,0,none⟩) n cap) n xs:=hH.holds _ (Gu hk)
 obtain⟨cur,hcur,hlen,htk⟩:∃ cur:Array Value,w.heap[g]?=some (.cells cur e' (0,0))/\n*sz<=cur.size/\cur.toList.take (n*sz)=xs:=by
  rcases hown.2 with ⟨h',_⟩|⟨g',cap',cur,h',h0,hg,h1,h2,h3,h4⟩
  ·simp at h'
  ·simp only[Value.slice.injEq,Gs,Addr.mk.injEq,IR,true_and] at h';obtain⟨rfl,rfl⟩:=h';exact⟨cur,hg,by rw[h3];exact HE _ h1,h4⟩
 have hcur':w.heap[g]?=some (.cells cur.toList.toArray e' (0,0)):=hcur;obtain⟨w',h2,h3,h4,h5,h6,h7,h8⟩:=eU (o:=i) [z] 0 w cur.toList hcur' (by have:=hown.1;simp only[IA,G2] at*;omega) h1;show o.upon _ a _ _ ((execOp a.eval o).run _ w)
 have hzc:(Builtin.zeroCells z.cells 1).toList=[z]:=by
  have e0:z.cells=#[z]:=Array.ext' (by rw[hz]);rw[e0];simp[Builtin.zeroCells]
 have:(execOp a.eval o).run Tryz.prog w=.ok (.value (.tuple #[])) w':=by
  simp[execOp,ho,resolve,invoke,builtin,Builtin.clear_,hA.val hx,run_underlying (dN ht),Bt he,hzc,h2]
 rw[this];refine h _ _ (hA.putE hp) (hH.step k hk h4 h5 h6 (by omega) (λ j _ hj=>h8 j (λ x=>hj (by rw[x];rfl))) ?_ (λ b' hb'=>.inl hb'));show w'.ownsRow 0 e' sz _ n (wr xs i [z]);refine nZ hown (by simp only[G2];omega) λ cs hcs=>?_;rw[hcur] at hcs;simp only[Gs,Obj.cells.injEq,IR] at hcs;subst hcs;exact h3
theorem pj{ops l:List Oper}{o:Oper}{t e g i n cap m1 c1 m2 cx b off sz e' sz' by' by2:Nat}{d s:Operand}{z z':Option Value}{uk:UK}{xs vs:LV_}{c2:aV}(k k2:Nat)(ho:o.op=.call ⟨.builtin .copy,#[d,s],#[t,t]⟩)(hd:val E d=some (.slice (some ⟨g,i,none⟩) m1 c1))(hs:val E s=some (.slice (some ⟨b,off,none⟩) m2 cx))
 (hk:H[k]?=some (.own (.slice (some ⟨g,0,none⟩) n cap) e' sz n xs)) (hk2:H[k2]?=some c2) (hc2:c2.shows b off vs) (ht:tab t=some ⟨.slice e,sz',by',z'⟩) (he:tab e=some ⟨uk,1,by2,z⟩) (hn:vs.length=Nat.min m2 m1) (h1:one vs=true) (hi:i+vs.length<=xs.length) (gs:LN) (hb:jH X.n ops gs E o (.int .i64 (vs.length:Int))=some E')
 (h:JL X ops l Q E' (H.set k (.own (.slice (some ⟨g,0,none⟩) n cap) e' sz n (wr xs i vs)))):JL X ops (o::l) Q E H:=by
 intro a w hA hH;obtain⟨hg,hp⟩:=db hb;unfold wpList;rw[if_pos (ce hA hg)]
 left
 have hown:w.ownsRow 0 e' sz (.slice (some ⟨g,0,none⟩) n cap) n xs:=hH.holds _ (Gu hk);have hshow:=hc2 w (hH.holds _ (Gu hk2))
 obtain⟨cur,hcur,hlen,htk⟩:∃ cur:Array Value,w.heap[g]?=some (.cells cur e' (0,0))/\n*sz<=cur.size/\cur.toList.take (n*sz)=xs:=by
  rcases hown.2 with ⟨h',_⟩|⟨g',cap',cur,h',h0,hg,h1,h2,h3,h4⟩
  ·simp at h'
  ·simp only[Value.slice.injEq,Gs,Addr.mk.injEq,IR,true_and] at h';obtain⟨rfl,rfl⟩:=h';exact⟨cur,hg,by rw[h3];exact HE _ h1,h4⟩
 have hcur':w.heap[g]?=some (.cells cur.toList.toArray e' (0,0)):=hcur;have hx0:xs.length=n*sz:=hown.1;obtain⟨w',h2,h3,h4,h5,h6,h7,h8⟩:=eU (o:=i) vs 0 w cur.toList hcur' (by have:=IA (xs:=cur);omega) h1;have hld:=run_loadCells_list (P:=Tryz.prog) w ⟨b,off,none⟩ vs (λ j v hj=>by rw[Addr.add_at];exact hshow j v hj);show o.upon _ a _ _ ((execOp a.eval o).run _ w);have hsz:(sizeOf e).run Tryz.prog w=.ok 1 w:=da he w
 have:(execOp a.eval o).run Tryz.prog w=.ok (.value (.int .i64 (vs.length:Int))) w':=by
  simp[execOp,ho,resolve,invoke,builtin,Builtin.copy_,hA.val hd,hA.val hs,run_underlying (dN ht),Builtin.lenOf,Builtin.firstCells,hsz,<- hn,hld,h2,goInt]
 rw[this];refine h _ _ (hA.putE hp) (hH.step k hk h4 h5 h6 (by omega) (λ j _ hj=>h8 j (λ x=>hj (by rw[x];rfl))) ?_ (λ b' hb'=>.inl hb'));show w'.ownsRow 0 e' sz _ n (wr xs i vs);refine nZ hown hi λ cs hcs=>?_;rw[hcur] at hcs;simp only[Gs,Obj.cells.injEq,IR] at hcs;subst hcs;exact h3
section
variable {Sf:Heap} {K:Env->Heap->Prop}
theorem DQ{id:Nat}{l:List Oper}(n:Nat)(order:List (Nat×Bool))(hB:qh l.toArray n order=true)(hS:aH X H Sf)(h:JW X l order Sf (λ E' H'=>JL X l (l.drop n) Q E' H') E H):
 J X (.region id l.toArray true) Q E H:=by
 intro a w hA hH;refine kM (S:=λ w=>cO X.w0 X.M w Sf) n order zo hB (hS _ hH.drew) ?_;have:=h a _ hA hH.drew;refine (?_:∀ (Q1 Q2:Act->World->Prop),(∀ a w,Q1 a w->Q2 a w)->∀ l a w,th Tryz.prog _ _ Q1 l a w->th Tryz.prog _ _ Q2 l a w) _ _ ?_ _ a _ this
 ·intro Q1 Q2 hq l
  induction l with
  |nil=>exact λ a w h=>hq a w h
  |cons o l ih=>
   intro a w h;obtain⟨k,st⟩:=o
   cases st with
   |true=>obtain⟨o,v,h1,h2,h3⟩:=h;exact⟨o,v,h1,h2,ih _ _ h3⟩
   |false=>exact wpOp_mono (λ a' w' h'=>⟨h'.1,ih _ _ h'.2⟩) h
 ·rintro a w ⟨E',H',hA',hH',hq⟩;exact hq a w hA' hH'
def Ek(X:Cx)(ops:List Oper)(rest:List (Nat×Bool))(Sf:Heap)(K:Env->Heap->Prop):dQ:=λ e E' H'=>match e with
 |.normal=>aH X H' Sf/\JW X ops rest Sf K E' H'
 |_=>False
theorem Dc{ops:List Oper}{rest:List (Nat×Bool)}{k:Nat}{o:Oper}(ho:ops[k]?=some o)(h:JL X ops [o] (Ek X ops rest Sf K) E H):JW X ops ((k,false)::rest) Sf K E H:=by
 intro a w hA hH;have h1:=h a w hA hH;show wpOp _ _ _ _ _ _ _;refine jK (Q1:=l6 X (Ek X ops rest Sf K)) (λ e a w hne hq=>?_) ?_
 ·obtain⟨E1,H1,_,_,hq⟩:=hq
  cases e with
  |normal=>exact hne rfl
  |_=>exact hq
 ·unfold wpOp;have ho':ops.toArray[k]?=some o:=by simpa using ho
  simp only[ho'];unfold wpList at h1
  have hfin:∀ a' w',wpList Tryz.prog ops.toArray (l6 X (Ek X ops rest Sf K)) [] a' w'->cO X.w0 X.M w' Sf/\th Tryz.prog ops.toArray (λ w=>cO X.w0 X.M w Sf) (λ a' w'=>∃ E' H',eR X.n a' E'/\cO X.w0 X.M w' H'/\K E' H') rest a' w':=by
   rintro a' w' ⟨E1,H1,hA1,hH1,hf,hj⟩;exact⟨hf _ hH1,hj a' w' hA1 hH1⟩
  split
  ·rename_i hw;rw[if_pos hw] at h1;exact h1.imp (Oper.wp_mono hfin) id
  ·rename_i hw;rw[if_neg hw] at h1;exact hfin _ _ h1
end
theorem aH.seg{b e off:Nat}{cs vs:LV_}(k:Nat)(hk:H[k]?=some (blk b e cs))(hv:∀ i v,vs[i]?=some v->cs[off+i]?=some v):aH X H (H.set k (.seg b off vs)):=by
 intro w hH;have hb:=hH.holds _ (Gu hk);refine hH.chunk k hk (λ i v hi=>?_) (λ _ h=>by cases h) (λ b' h=>?_)
 ·have h1:=hv i v hi;have h2:w.heap[b]?=some (.cells cs.toArray e (0,0)):=hb;show w.cell? ⟨b,off+i,none⟩=some v;simp[World.cell?,h2,h1]
 ·simp only[aV.at_] at h;split at h
  ·cases h
  ·exact h
end Go.Proofs.YtmcnpaelaieniaaGreatDoor
