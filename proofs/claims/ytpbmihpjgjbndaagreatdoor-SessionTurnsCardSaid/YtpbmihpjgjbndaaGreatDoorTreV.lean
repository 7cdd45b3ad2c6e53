/- The engine by trees: a root is linked, step by step. -/
import Derived.Test.YtpbmihpjgjbndaaGreatDoorTreU
set_option linter.unusedVariables false
set_option linter.unusedSimpArgs false
namespace Go.Proofs.YtpbmihpjgjbndaaGreatDoor
open Go.RowKit
section
variable {P:EP} {L:Nat→List Nat} {lv:Nat→Int} {gv:Nat→Nat} {rm0 tr:List Int} {pos:List Nat} {par:OV} {val:Nat→Int}
def zA (P:EP) (L:Nat→List Nat) (gv:Nat→Nat) (rm0 tr:List Int) (pos:List Nat) (par:OV) (val:Nat→Int) (s:ES) (v:Nat) (b:Bool) (s':ES):Prop:=
 ∃ pos',PI P.N L P.least tr pos' []∧s'.w=s.w∧bU L P.n pos'≤bU L P.n pos∧
   ((b=true∧∃ q r,pos'[v]?=some q∧(L v)[q]?=some r∧P.least≤tr.getD r 0∧gI P L gv rm0 tr pos' (aV par v (some (d7 P.N r))) (eB val v (tr.getD r 0-4611686018427387904)) s'∧s'.cost+bU L P.n pos'≤s.cost+bU L P.n pos+4*cE (P.n+1)+12*(P.n+1)+1)∨
    (b=false∧kA L pos' v∧gI P L gv rm0 tr pos' par val s'∧s'.cost+bU L P.n pos'≤s.cost+bU L P.n pos))
theorem xL (hP:iw P L lv gv) (s:ES) (hI:gI P L gv rm0 tr pos par val s) (hPI:PI P.N L P.least tr pos []) {v:Nat} (hv:v≤P.n) (hvn:par v=none):
 Fn 255 [.pointer (some ⟨P.pe,0,none⟩),.int .i64 (v:Int)] (aO (d8 P s)) ([P.sg]++d8 P s)
  fun x H'=>∃ b s',x=.bool b∧H'=d8 P s'∧zA P L gv rm0 tr pos par val s v b s':=by
 have hN:=hP.small
 have hvN:v<P.n+1:=by omega
 generalize hM:aO _=M
 refine aK Tryz.func255 rfl rfl fun w0=>?_
 refine ad (aa (ae [] rfl ?_))
 refine bG ju ?_
 refine ad (ax ?_)
 refine cF (σ:=List Nat×ES) (fun _=>[(1,.int .i64 (v:Int)),(0,.pointer (some ⟨P.pe,0,none⟩))]) (fun t=>kJ P t.2) (fun t=>gI P L gv rm0 tr t.1 par val t.2∧PI P.N L P.least tr t.1 []∧t.2.w=s.w∧bU L P.n t.1≤bU L P.n pos∧t.2.cost+bU L P.n t.1≤s.cost+bU L P.n pos) (fun t=>bU L P.n t.1) (pos,s) ⟨rfl,rfl,trivial⟩ aL.refl ⟨hI,hPI,rfl,Nat.le_refl _,Nat.le_refl _⟩ ?_
 rintro⟨pos1,s1⟩ ⟨hI1,hPI1,hw1,hr1,hk1⟩
 simp only at hI1 hPI1 hw1 hr1 hk1 ⊢
 obtain⟨q,hq⟩:=hI1.ta.pos_at hv
 have hrl0:=hP.rl
 obtain⟨rw_,hrow⟩:∃ rw_,P.rowsL[v]?=some rw_:=⟨P.rowsL[v]'(by omega),List.getElem?_eq_getElem (by omega)⟩
 obtain⟨A',c',hvv,hlc,hA'⟩:=hI1.vo.at_ v rw_ q hrow hq
 have hvl:v<s1.vals.length:=(List.getElem?_eq_some_iff.1 hvv).1
 have hrwl:=hP.rows v rw_ hrow
 have hrlen:rw_.l.length≤4000:=by rw[hrwl,List.length_map];exact hP.len v
 refine ad (ad (aa ?_))
 (repeat' (first
  |refine ak (gs:=[999]) rfl ?_
  |refine ab [999] (af 5 rfl rfl rfl rfl) rfl ?_))
 refine ab [999] (aU rfl rfl rfl rfl rfl hvN) rfl ?_
 refine ab [999] (aG 7 rfl rfl rfl hvv) rfl ?_
 (repeat' (first
  |refine ak (gs:=[999]) rfl ?_
  |refine ab [999] (af 5 rfl rfl rfl rfl) rfl ?_))
 refine ai ?_
 refine aD rfl (fun hlt=>aq ?_) (fun hge=>a6 ?_)
 ·have hql:q<rw_.l.length:=by omega
  obtain rfl:=hA' hql
  obtain⟨r,hr⟩:∃ r,(L v)[q]?=some r:=⟨(L v)[q]'(by rw[hrwl,List.length_map] at hql;exact hql),List.getElem?_eq_getElem _⟩
  have hrl:rw_.l[q]?=some (r:Int):=by rw[hrwl,List.getElem?_map,hr];rfl
  have hrA:=hP.at_ v rw_ hrow (fun e=>by have:rw_.l.length=0:=by rw[← bF,e];rfl
                                         omega)
  have hrm:=List.mem_of_getElem? hr
  have hr2:=(eC hP hrm).1
  have hte:=fu hP.right hr2
  have htn:d7 P.N r≤P.n:=by have:=hP.nodes;omega
  have hrr:s1.rm.getD r 0=tr.getD r 0:=hI1.ta.lead v r hrm (fun _ h=>absurd hvn h)
  have htb:=hI1.ta.trb r
  have hAr:=hP.room hr2
  have hri:(az s1.rm)[r]?=some (.int .i64 (tr.getD r 0)):=by
   have hl:r<s1.rm.length:=by rw[hI1.ta.rml];exact hr2
   refine cX ?_
   rw[← hrr,List.getD_eq_getElem?_getD,List.getElem?_eq_getElem hl];rfl
  refine ax (ad (aa ?_))
  (repeat' (first
   |refine ak (gs:=[999]) rfl ?_
   |refine ab [999] (af 5 rfl rfl rfl rfl) rfl ?_))
  refine bO (aL.re (A:=P.fo s1.fs++[P.sg,P.pc s1.k s1.w,P.rc s1.rm,P.lc s1.vals,P.uc s1.un]) (R:=P.rows s1.un) [5,0,1,2,3,4,6,7,8] rfl (by decide)) ?_
  refine au [999] (iv P s1.k s1.w) rfl rfl rfl rfl (by kernel_rfl) aL.refl trivial (fun _=>rfl) ?_
  rintro v0 H' rfl
  refine⟨rfl,?_⟩
  refine bO (aL.re (A:=[P.pc (s1.k+1) s1.w]++(P.fo s1.fs++[P.sg,P.rc s1.rm,P.lc s1.vals,P.uc s1.un])) (R:=P.rows s1.un) [1,2,3,4,5,0,6,7,8] rfl (by decide)) ?_
  refine ai ?_
  obtain⟨s2,hs2⟩:∃ x:ES,x={ s1 with k:=s1.k+1 }:=⟨_,rfl⟩
  refine bG (K:=kJ P s2) (by rw[hs2];exact aL.refl) ?_
  have hI2:gI P L gv rm0 tr pos1 par val s2:=by rw[hs2];exact⟨hI1.fa,hI1.ta,hI1.vo,hI1.tb⟩
  have hk2:s2.cost=s1.cost+1:=by rw[hs2];show s1.k+1+s1.fs.k=s1.k+s1.fs.k+1;omega
  have hw2:s2.w=s.w:=by rw[hs2];exact hw1
  have hrm2:s2.rm=s1.rm:=by rw[hs2]
  have hva2:s2.vals=s1.vals:=by rw[hs2]
  rw[← hrm2] at hri
  rw[← hva2] at hvv hvl
  clear hs2
  refine ad (aa ?_)
  (repeat' (first
   |refine ak (gs:=[999]) rfl ?_
   |refine ab [999] (af 5 rfl rfl rfl rfl) rfl ?_))
  refine ab [999] (aU rfl rfl rfl rfl rfl hvN) rfl ?_
  refine ab [999] (aG 7 rfl rfl rfl hvv) rfl ?_
  refine ab [999] (dD rfl rfl rfl rfl rfl (m:=0) (by omega)) rfl ?_
  refine ab [999] (mp rfl rfl (wK hrow) rfl hrA hrl) rfl ?_
  (repeat' (first
   |refine ak (gs:=[999]) rfl ?_
   |refine ab [999] (af 5 rfl rfl rfl rfl) rfl ?_))
  refine ai ?_
  refine ad (ad ?_)
  refine bz 12 [(0,true),(1,true),(2,true),(3,true),(4,true),(5,true),(6,true),(7,true),(8,true),(9,true),(10,true),(11,true)] [5,6] (by kernel_rfl) (by decide) rfl ?_
  (repeat' (first
   |refine a9 (gs:=[999]) rfl rfl ?_
   |refine aj [999] rfl (af 0 rfl rfl rfl rfl) rfl ?_
   |refine aj [999] rfl (aU (b:=P.gr) (n:=2*P.N.arcs.length) (c:=P.cr) rfl (congrArg (fun A=>some (Value.slice A (2*P.N.arcs.length) P.cr)) hAr) rfl rfl rfl hr2) rfl ?_
   |refine aj [999] rfl (aG (g:=P.gr) (n:=2*P.N.arcs.length) (cap:=P.cr) 1 rfl rfl (congrArg (fun A=>some (aQ.own (.slice A (2*P.N.arcs.length) P.cr) 2 1 (2*P.N.arcs.length) (az s2.rm))) hAr) hri) rfl ?_))
  refine bC ?_
  refine ai ?_
  refine aD rfl (fun hsm=>?_) (fun hbig=>aq ?_)
  ·refine ad ?_
   refine e7 15 [0,1,2,3,4,5,6,7,8,9,10,11,12,13] 14 [] (by kernel_rfl) ?_
   (repeat' (first
    |refine ft (gs:=[999]) rfl rfl ?_
    |refine bv [999] rfl rfl (af 5 rfl rfl rfl rfl) rfl ?_))
   refine b9 [999] rfl (aU rfl rfl rfl rfl rfl hvN) rfl ?_
   refine bv [999] rfl rfl (aG 7 rfl rfl rfl hvv) rfl ?_
   refine b9 [999] rfl (el (i:=1) rfl rfl rfl rfl rfl (by omega)) rfl ?_
   refine b9 [999] rfl (aU rfl rfl rfl rfl rfl hvN) rfl ?_
   refine ep rfl ?_
   refine aT 7 rfl rfl rfl rfl (dm rfl rfl rfl hvl) [] rfl ?_
   refine ai ⟨⟨[],by decide,rfl⟩,?_⟩
   refine bC ?_
   refine ai ?_
   obtain⟨vals',hvals'⟩:∃ x,x=s2.vals.set v (.slice (i7 (some ⟨gv v,q,none⟩) c' 1 1) (rw_.l.length-q-1) (c'-1)):=⟨_,rfl⟩
   have hrem:=eW (L:=L) hq hv (by rw[hrwl,List.length_map] at hql;exact hql)
   refine a6 ?_
   refine⟨(pos1.set v (q+1),{ s2 with vals:=vals' }),⟨rfl,rfl,trivial⟩,by rw[hvals'];exact aL.refl,⟨⟨hI2.fa,hI2.ta.bump hvn,by rw[hvals'];exact hI2.vo.bump hrow hq hql hlc,hI2.tb⟩,hPI1.bump (fun _ h=>by cases h) hq hr (.inl hsm),hw2,?_,?_⟩,?_⟩
   ·show bU L P.n (pos1.set v (q+1))≤_
    omega
   ·show s2.cost+_≤_
    simp only
    omega
   ·show bU L P.n (pos1.set v (q+1))<bU L P.n pos1
    omega
  ·refine ad (aa ?_)
   (repeat' (first
    |refine ak (gs:=[999]) rfl ?_
    |refine ab [999] (af 5 rfl rfl rfl rfl) rfl ?_))
   refine ap [] (e6 P.N P.A P.c P.b P.o hP.arcs hP.right.len r hr2) rfl rfl rfl rfl (by kernel_rfl) ⟨⟨4,_,by simp[kJ],rfl,am _ _ _,aw⟩,trivial⟩ (fun _=>rfl) ?_
   rintro _ H' ⟨rfl,rfl⟩
   refine⟨rfl,?_⟩
   (repeat' (first
    |refine ak (gs:=[999]) rfl ?_
    |refine ab [999] (af 5 rfl rfl rfl rfl) rfl ?_))
   refine ai ?_
   refine aM 7 (v':=.int .i64 (d7 P.N r:Int)) rfl (congrArg (Value.int .i64) hte.1) ?_
   refine ad ?_
   refine bz 14 [(0,true),(1,true),(2,true),(3,true),(4,true),(5,true),(6,true),(7,true),(8,true),(9,true),(10,true),(11,true),(12,true),(13,false)] [5,6] (by kernel_rfl) (by decide) rfl ?_
   (repeat' (first
    |refine a9 (gs:=[999]) rfl rfl ?_
    |refine aj [999] rfl (af 0 rfl rfl rfl rfl) rfl ?_
    |refine aj [999] rfl (aU (b:=P.gr) (n:=2*P.N.arcs.length) (c:=P.cr) rfl (congrArg (fun A=>some (Value.slice A (2*P.N.arcs.length) P.cr)) hAr) rfl rfl rfl hr2) rfl ?_
    |refine aj [999] rfl (aG (g:=P.gr) (n:=2*P.N.arcs.length) (cap:=P.cr) 1 rfl rfl (congrArg (fun A=>some (aQ.own (.slice A (2*P.N.arcs.length) P.cr) 2 1 (2*P.N.arcs.length) (az s2.rm))) hAr) hri) rfl ?_))
   refine cZ 75 (v':=.int .i64 (tr.getD r 0-4611686018427387904)) rfl (congrArg (Value.int .i64) (cj (by omega))) ?_
   refine a7 rfl ?_
   obtain⟨row2,hF2⟩:=hI2.fa
   have hvfr:=hI2.ta.free v hv hvn
   refine au [] (sS hF2 hN hvN (p:=[v]) ⟨rfl,hvn⟩ (d:=tr.getD r 0-4611686018427387904) (by omega) (by intro y hy;rw[List.mem_singleton.1 hy];omega)) rfl rfl rfl rfl (by kernel_rfl) aL.refl trivial (fun _=>rfl) ?_
   rintro _ H' ⟨fs3,row3,rfl,hF3,hk3⟩
   refine⟨rfl,ai ⟨⟨[5,6],by decide,rfl⟩,?_⟩⟩
   refine bC ?_
   refine ai ?_
   obtain⟨p,hp⟩:=hF3.path (d7 P.N r) (by omega)
   have hvp:v∉p:=fun hin=>by
    have h1:=(hI2.ta.path_lv hP hp htn v hin).1
    have h2:=(eC hP hrm).2.2
    omega
   refine ad (aa ?_)
   (repeat' (first
    |refine ak (gs:=[999]) rfl ?_
    |refine ab [999] (af 5 rfl rfl rfl rfl) rfl ?_))
   refine au [] (yC hF3 hN hvN (show d7 P.N r<P.n+1 by omega) hvn hp hvp) rfl rfl rfl rfl (by kernel_rfl) aL.refl trivial (fun _=>rfl) ?_
   rintro _ H' ⟨fs4,row4,rfl,hF4,hk4⟩
   refine⟨rfl,?_⟩
   (repeat' (first
    |refine ak (gs:=[999]) rfl ?_
    |refine ab [999] (af 5 rfl rfl rfl rfl) rfl ?_))
   refine ai ?_
   obtain⟨w,hw⟩:∃ w,d7 P.N r=w:=⟨_,rfl⟩
   rw[hw] at hF4 htn
   rw[hw]
   obtain⟨Aw,cw,W,hun,hWd,hWm,hWl⟩:=hI2.tb.get htn
   have hul:=hI2.tb.len
   have hwu:w<s2.un.length:=by omega
   obtain⟨rw2,hrw2⟩:∃ x:er,x=⟨Aw,cw,ga W⟩:=⟨_,rfl⟩
   have hrw2l:rw2.l=ga W:=by rw[hrw2]
   have hrw2n:rw2.l.length≤10000:=by rw[hrw2l,da];omega
   have hun2:s2.un[w]?=some rw2:=by rw[hrw2];exact hun
   obtain⟨R,hR⟩:∃ R,R=(P.rows s2.un).eraseIdx (P.rowsL.length+w):=⟨_,rfl⟩
   refine bG (K:=bJ 3 rw2::((P.fo fs4++[P.sg,P.pc s2.k s2.w,P.rc s2.rm,P.lc s2.vals,P.uc s2.un])++R)) (by
    rw[hR]
    exact aL.front (A:=P.fo fs4++[P.sg,P.pc s2.k s2.w,P.rc s2.rm,P.lc s2.vals,P.uc s2.un]) (R:=P.rows s2.un) (i:=P.rowsL.length+w) (c:=bJ 3 rw2) (by unfold EP.rows;rw[List.getElem?_map,List.getElem?_append_right (by omega),Nat.add_sub_cancel_left,hun2];rfl)) ?_
   refine ad ?_
   refine bz 16 [(0,true),(1,true),(2,true),(3,true),(4,true),(5,true),(6,true),(7,true),(8,true),(9,true),(10,true),(11,true),(12,true),(13,false),(14,false),(15,true)] [6,9] (by kernel_rfl) (by decide) rfl ?_
   (repeat' (first
    |refine a9 (gs:=[999]) rfl rfl ?_
    |refine aj [999] rfl (af 0 rfl rfl rfl rfl) rfl ?_
    |refine aj [999] rfl (aU rfl rfl rfl rfl rfl (show w<P.n+1 by omega)) rfl ?_
    |refine aj [999] rfl (aG (v:=cD rw2) 1 rfl rfl rfl (show (s2.un.map cD)[w]?=some (cD rw2) by rw[List.getElem?_map,hun2];rfl)) rfl ?_))
   refine a7 rfl ?_
   refine bS rfl rfl rfl rfl rfl rfl rfl (fun _=>rfl) fun g2=>?_
   refine ai ⟨⟨[7,10],by decide,rfl⟩,?_⟩
   refine a7 rfl ?_
   refine bu (n:=rw2.l.length) (m:=1) (off:=0) (news:=az [(v:Int)]) 1 0 rfl rfl rfl rfl rfl rfl (by decide) rfl rfl (aF g2 _ _ (0,0)) (fun _=>rfl) rfl rfl (by omega) (by omega) (fun _ _=>rfl) fun A2 c2=>?_
   rw[show rw2.l.length+1=(rw2.l++[(v:Int)]).length by simp,show az rw2.l++az [(v:Int)]=az (rw2.l++[(v:Int)]) by simp[az]]
   refine ai ⟨⟨[7,10],by decide,rfl⟩,?_⟩
   refine aj [] rfl (aU rfl rfl rfl rfl rfl (show w<P.n+1 by omega)) rfl ?_
   refine bC ?_
   refine aT 10 rfl rfl rfl rfl (dm rfl rfl rfl (by rw[List.length_map];exact hwu)) [] rfl ?_
   refine ai ?_
   obtain⟨un',hun'⟩:∃ x,x=s2.un.set w ⟨A2,c2,rw2.l++[(v:Int)]⟩:=⟨_,rfl⟩
   have hfin:∀ {X:Cx} {c0:aQ},aL X (c0::bJ 3 ⟨A2,c2,rw2.l++[(v:Int)]⟩::((P.fo fs4++[P.sg,P.pc s2.k s2.w,P.rc s2.rm,P.lc s2.vals,P.uc un'])++R)) (d8 P ⟨s2.vals,un',fs4,s2.rm,s2.k,s2.w⟩):=by
    intro X c0
    refine aL.trans (aL.re (A:=c0::bJ 3 ⟨A2,c2,rw2.l++[(v:Int)]⟩::(P.fo fs4++[P.sg,P.pc s2.k s2.w,P.rc s2.rm,P.lc s2.vals,P.uc un'])) (A1:=bJ 3 ⟨A2,c2,rw2.l++[(v:Int)]⟩::(P.fo fs4++[P.pc s2.k s2.w,P.rc s2.rm,P.lc s2.vals,P.uc un'])) [1,2,3,4,5,7,8,9,10] rfl (by decide)) ?_
    rw[hR]
    refine aL.trans (aL.back (A:=P.fo fs4++[P.pc s2.k s2.w,P.rc s2.rm,P.lc s2.vals,P.uc un']) (by unfold EP.rows;rw[List.length_map,List.length_append];omega)) ?_
    rw[qa,← hun']
    exact aL.refl
   rw[show (s2.un.map cD).set w (.slice A2 (rw2.l++[(v:Int)]).length c2)=un'.map cD from by rw[hun',List.map_set];rfl]
   refine bG hfin ?_
   refine ad (aa (ae [] rfl ?_))
   refine ay ⟨_,rfl,true,⟨s2.vals,un',fs4,s2.rm,s2.k,s2.w⟩,rfl,rfl,pos1,hPI1,hw2,hr1,.inl ⟨rfl,q,r,hq,hr,by omega,?_,?_⟩⟩
   ·have hh:=hI2.ta.hook hP hv hvn hq hr
    have hrr2:s2.rm.getD r 0=tr.getD r 0:=hI2.ta.lead v r hrm (fun _ h=>absurd hvn h)
    rw[hrr2,hw] at hh
    rw[hw]
    exact⟨⟨row4,hF4⟩,hh,hI2.vo,by rw[hun',hrw2l,show ga W++[(v:Int)]=ga (W++[v]) by simp[ga]];exact hI2.tb.add hun hWd hWm hv hvn⟩
   ·show s2.k+fs4.k+_≤_
    have:s2.cost=s2.k+s2.fs.k:=rfl
    omega
 ·refine ad (aa (ae [] rfl ?_))
  refine bG kS (ay ⟨_,rfl,false,s1,rfl,rfl,pos1,hPI1,hw1,hr1,.inr ⟨rfl,fun p hp=>?_,hI1,hk1⟩⟩)
  rw[hq] at hp
  simp only[Option.some.injEq] at hp
  subst hp
  rw[hrwl,List.length_map] at hge
  omega
end
end Go.Proofs.YtpbmihpjgjbndaaGreatDoor
