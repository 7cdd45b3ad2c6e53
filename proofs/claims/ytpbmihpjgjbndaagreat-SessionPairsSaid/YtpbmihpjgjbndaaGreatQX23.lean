/- The engine and the words that all chapters share: several texts in one. -/
import Derived.Test.YtpbmihpjgjbndaaGreatTreY
/- The engine by trees: a whole run, step by step. -/
set_option linter.unusedVariables false
set_option linter.unusedSimpArgs false
namespace Go.Proofs.YtpbmihpjgjbndaaGreat
open Go.RowKit
inductive TR (N:bt) (L:Nat→List Nat) (least:Int):List Int→List (List Nat×Int)→List Int→Prop
 |stop {tr:List Int} {pos:List Nat}:PI N L least tr pos []→jc L pos N.src.toNat→TR N L least tr [] tr
 |walk {tr tr':List Int} {pos W:List Nat} {ws:List (List Nat×Int)}:PI N L least tr pos W→cE N W=N.snk.toNat→TR N L least (bZ (ci tr W) W tr) ws tr'→TR N L least tr ((W,ci tr W)::ws) tr'
def df (n:Nat):Nat:=5*cX (n+1)+17*(n+1)+2
def dd (n:Nat):Nat:=15*cX (n+1)+87*(n+1)+7
section
variable {P:EP} {L:Nat→List Nat} {lv:Nat→Int} {gv:Nat→Nat} {rm0 tr:List Int} {pos:List Nat} {par:OV} {val:Nat→Int}
structure RS where
 ws:List (List Nat×Int)
 f:List Int
 tr:List Int
 pos:List Nat
 par:OV
 val:Nat→Int
 s:ES
def yc (P:EP) (L:Nat→List Nat) (gv:Nat→Nat) (rm0 tr:List Int) (pos:List Nat) (par:OV) (s:ES) (H':Heap):Prop:=
 ∃ t:RS,H'=ep P t.s∧TR P.N L P.least tr t.ws t.tr∧gM P L gv rm0 t.tr t.pos t.par t.val t.s∧aT P.N t.f∧t.tr=aK (P.N.arcs.zip t.f)∧t.s.w=s.w+t.ws.length∧
   t.s.cost+dd P.n*cj L P.n t.pos+df P.n*fD par P.n≤s.cost+dd P.n*cj L P.n pos+df P.n*fD t.par P.n+(cX (P.n+1)+5*(P.n+1)+1)
structure x4 (P:EP) (L:Nat→List Nat) (gv:Nat→Nat) (rm0 tr:List Int) (pos:List Nat) (par:OV) (s:ES) (t:RS):Prop where
 acc:∀ ws tr',TR P.N L P.least t.tr ws tr'→TR P.N L P.least tr (t.ws++ws) tr'
 ti:gM P L gv rm0 t.tr t.pos t.par t.val t.s
 pi:PI P.N L P.least t.tr t.pos []
 room:pK P t.par t.val
 flow:aT P.N t.f
 tre:t.tr=aK (P.N.arcs.zip t.f)
 w:t.s.w=s.w+t.ws.length
 cost:t.s.cost+dd P.n*cj L P.n t.pos+df P.n*fD par P.n≤s.cost+dd P.n*cj L P.n pos+df P.n*fD t.par P.n
set_option maxHeartbeats 1000000 in
theorem xf (hP:iF P L lv gv) (hle:1≤P.least) (s:ES) (hI:gM P L gv rm0 tr pos par val s) (hPI:PI P.N L P.least tr pos []) (hroom:pK P par val) {f:List Int} (hf:aT P.N f) (he:tr=aK (P.N.arcs.zip f)):
 Fn 110 [.pointer (some ⟨P.pe,0,none⟩)] (aX (ep P s)) ([P.sg]++ep P s) fun _ H'=>yc P L gv rm0 tr pos par s H':=by
 have hN:=hP.small
 have hsr:=hP.right.src
 have hsk:=hP.right.snk
 have hdf:=hP.right.diff
 have hnn:=hP.nodes
 obtain⟨s0,hs0⟩:∃ x,x=P.N.src.toNat:=⟨_,rfl⟩
 obtain⟨k0,hk0⟩:∃ x,x=P.N.snk.toNat:=⟨_,rfl⟩
 have hs1:P.N.src=(s0:Int):=by omega
 have hk1:P.N.snk=(k0:Int):=by omega
 have hsN:s0<P.n+1:=by omega
 have hkN:k0<P.n+1:=by omega
 generalize hM:aX _=M
 refine aM Tryz.func110 rfl rfl fun w0=>?_
 refine bN jk ?_
 refine au ?_
 refine bM (σ:=RS) (fun _=>[(0,.pointer (some ⟨P.pe,0,none⟩))]) (fun t=>kw P t.s) (fun t=>x4 P L gv rm0 tr pos par s t) (fun t=>2*cj L P.n t.pos+(P.n+2-fD t.par P.n))
  ⟨[],f,tr,pos,par,val,s⟩ ⟨rfl,trivial⟩ aH.refl ⟨fun _ _ h=>h,hI,hPI,hroom,hf,he,rfl,Nat.le_refl _⟩ ?_
 rintro⟨ws,f1,tr1,pos1,par1,val1,s1⟩ hR
 have hti:=hR.ti
 have hpi:=hR.pi
 have hrm:=hR.room
 have hw1:=hR.w
 have hco:=hR.cost
 simp only at hti hpi hrm hw1 hco ⊢
 have hlk:=mO par1 P.n
 refine au (ae (aa ?_))
 (repeat' (first
  |refine ao (gs:=[999]) rfl ?_
  |refine ab [999] (ad 5 rfl rfl rfl rfl) rfl ?_))
 refine b6 (aH.re (A:=P.fo s1.fs++[P.sg,P.pc s1.k s1.w,P.rc s1.rm,P.lc s1.vals,P.uc s1.un]) (R:=P.rows s1.un) [5,0,1,2,3,4,6,7,8] rfl (by decide)) ?_
 refine ay [999] (iJ P s1.k s1.w) rfl rfl rfl rfl (by kernel_rfl) aH.refl trivial (fun _=>rfl) ?_
 rintro v0 H' rfl
 refine⟨rfl,?_⟩
 refine b6 (aH.re (A:=[P.pc (s1.k+1) s1.w]++(P.fo s1.fs++[P.sg,P.rc s1.rm,P.lc s1.vals,P.uc s1.un])) (R:=P.rows s1.un) [1,2,3,4,5,0,6,7,8] rfl (by decide)) ?_
 refine aj ?_
 obtain⟨row,hF⟩:=hti.fa
 obtain⟨p,hp⟩:=hF.path s0 hsN
 refine ae ?_
 refine bq 11 [(0,true),(1,true),(2,true),(3,true),(4,true),(5,true),(6,true),(7,true),(8,true),(9,false),(10,true)] [5] (by kernel_rfl) (by decide) rfl ?_
 (repeat' (first
  |refine aL (gs:=[999]) rfl rfl ?_
  |refine ai [999] rfl (ad 0 rfl rfl rfl rfl) rfl ?_))
 refine bH 13 (v':=.int .i64 (s0:Int)) rfl (congrArg (Value.int .i64) hs1) ?_
 refine bc rfl ?_
 refine ay [] (xj hF hN hsN hp) rfl rfl rfl rfl (by kernel_rfl) aH.refl trivial (fun _=>rfl) ?_
 rintro _ H' ⟨fs2,row2,y,rfl,rfl,hF2,hpy,hk2⟩
 refine⟨rfl,aj ⟨⟨[5],by decide,rfl⟩,?_⟩⟩
 refine aL (gs:=[999]) rfl rfl ?_
 refine bB ?_
 refine aj ?_
 obtain⟨s2,hs2⟩:∃ x:ES,x={ s1 with k:=s1.k+1,fs:=fs2 }:=⟨_,rfl⟩
 refine bN (K:=kw P s2) (by rw[hs2];exact aH.refl) ?_
 have hI2:gM P L gv rm0 tr1 pos1 par1 val1 s2:=by rw[hs2];exact⟨⟨_,hF2⟩,hti.ta,hti.vo,hti.tb⟩
 have hc2:s2.cost≤s1.cost+cX (P.n+1)+5*(P.n+1)+1:=by
  rw[hs2]
  show s1.k+1+fs2.k≤s1.k+s1.fs.k+_+_+1
  omega
 have hw2:s2.w=s1.w:=by rw[hs2]
 clear hs2
 have hyn:par1 y=none:=hp.root_last hpy
 have hyp:y∈p:=List.mem_of_getLast? hpy
 have hpl:∀ z∈p,z≤P.n:=fun z hz=>by have:=aP.lt hF.lt hp hsN z hz;omega
 have hyl:=hpl y hyp
 refine au (ae (aa ?_))
 (repeat' (first
  |refine ao (gs:=[999]) rfl ?_
  |refine ab [999] (ad 5 rfl rfl rfl rfl) rfl ?_))
 refine av 24 (v':=.int .i64 (k0:Int)) rfl (congrArg (Value.int .i64) hk1) ?_
 (repeat' (first
  |refine ao (gs:=[999]) rfl ?_
  |refine ab [999] (ad 5 rfl rfl rfl rfl) rfl ?_))
 refine aj ?_
 refine aC rfl (fun heq=>?_) (fun hneq=>?_)
 ·have hyk:y=k0:=by omega
  subst hyk
  refine aa ?_
  (repeat' (first
   |refine ao (gs:=[999]) rfl ?_
   |refine ab [999] (ad 5 rfl rfl rfl rfl) rfl ?_))
  refine ay [] (uP hP hle s2 hI2 hpi hrm hR.flow hR.tre (p:=p) (by rw[← hs0];exact hp) (by rw[← hk0];exact hpy)) rfl rfl rfl rfl (by kernel_rfl) ju ⟨⟨0,_,by simp,rfl,ak _ _ _,ap⟩,trivial⟩ (fun _=>rfl) ?_
  rintro _ H' ⟨u,pos2,par2,val2,s3,W,rfl,hu,hPW,hend,hti2,hpi2,hrm2,hrem2,hlk2,hw3,hc3⟩
  refine⟨cT rfl (cJ _ _),?_⟩
  refine b6 ji ?_
  refine aj ?_
  obtain⟨_,_,_,_,_,_,⟨f2,hf2,hf2e⟩,_⟩:=e9 hP.right hP.graded hle hR.flow hR.tre hPW hend
  have g1:dd P.n*cj L P.n pos1=dd P.n*cj L P.n pos2+dd P.n*u:=by rw[← hrem2,Nat.mul_add]
  have g2:df P.n*fD par1 P.n=df P.n*fD par2 P.n+df P.n*u:=by rw[← hlk2,Nat.mul_add]
  have g3:dd P.n*u=df P.n*u+u*(10*cX (P.n+1)+70*(P.n+1)+5):=by
   rw[Nat.mul_comm u,← Nat.add_mul];congr 1;unfold dd df;omega
  have g4:u*(10*cX (P.n+1)+70*(P.n+1)+5)=u*(9*cX (P.n+1)+65*(P.n+1)+4)+u*(cX (P.n+1)+5*(P.n+1)+1):=by
   rw[← Nat.mul_add];congr 1;omega
  have g5:1*(cX (P.n+1)+5*(P.n+1)+1)≤u*(cX (P.n+1)+5*(P.n+1)+1):=Nat.mul_le_mul_right _ hu
  refine⟨⟨ws++[(W,ci tr1 W)],f2,bZ (ci tr1 W) W tr1,pos2,par2,val2,s3⟩,⟨rfl,trivial⟩,aH.refl,⟨fun ws' tr' h=>?_,hti2,hpi2,hrm2,hf2,hf2e,?_,?_⟩,?_⟩
  ·show TR P.N L P.least tr ((ws++[(W,ci tr1 W)])++ws') tr'
   rw[List.append_assoc]
   exact hR.acc _ _ (TR.walk hPW hend h)
  ·show s3.w=s.w+(ws++[(W,ci tr1 W)]).length
   rw[List.length_append,List.length_singleton];omega
  ·show s3.cost+dd P.n*cj L P.n pos2+df P.n*fD par P.n≤s.cost+dd P.n*cj L P.n pos+df P.n*fD par2 P.n
   omega
  ·show 2*cj L P.n pos2+(P.n+2-fD par2 P.n)<2*cj L P.n pos1+(P.n+2-fD par1 P.n)
   omega
 ·have hyk:y≠k0:=by omega
  refine ae (aa ?_)
  (repeat' (first
   |refine ao (gs:=[999]) rfl ?_
   |refine ab [999] (ad 5 rfl rfl rfl rfl) rfl ?_))
  refine ay [] (wB hP s2 hI2 hpi hyl hyn) rfl rfl rfl rfl (by kernel_rfl) ju ⟨⟨0,_,by simp,rfl,ak _ _ _,ap⟩,trivial⟩ (fun _=>rfl) ?_
  rintro _ H' ⟨b,s3,rfl,rfl,pos2,hpi2,hw3,hrem3,hb⟩
  refine⟨cT rfl (cJ _ _),?_⟩
  refine b6 ji ?_
  (repeat' (first
   |refine ao (gs:=[999]) rfl ?_
   |refine ab [999] (ad 5 rfl rfl rfl rfl) rfl ?_))
  refine aj ?_
  obtain⟨d,hd⟩:∃ d,cj L P.n pos1=cj L P.n pos2+d:=⟨cj L P.n pos1-cj L P.n pos2,by omega⟩
  have g1:dd P.n*cj L P.n pos1=dd P.n*cj L P.n pos2+dd P.n*d:=by rw[hd,Nat.mul_add]
  have g2:d≤dd P.n*d:=Nat.le_mul_of_pos_left d (by unfold dd;omega)
  rcases hb with ⟨rfl,q,r,hq,hr,hlr,hti2,hc3⟩|⟨rfl,hdead,hti2,hc3⟩
  ·refine bz rfl (aq ?_)
   have hlk2:=tN (w:=cH P.N r) hyl hyn
   have g3:df P.n*(fD par1 P.n+1)=df P.n*fD par1 P.n+df P.n:=by rw[Nat.mul_add,Nat.mul_one]
   have g4:df P.n=5*cX (P.n+1)+17*(P.n+1)+2:=rfl
   have hlk3:=mO (a8 par1 y (some (cH P.N r))) P.n
   refine⟨⟨ws,f1,tr1,pos2,a8 par1 y (some (cH P.N r)),eP val1 y (tr1.getD r 0-4611686018427387904),s3⟩,⟨rfl,trivial⟩,aH.refl,⟨hR.acc,hti2,hpi2,fun u w hu hw=>?_,hR.flow,hR.tre,?_,?_⟩,?_⟩
   ·simp only[eP,List.mem_singleton]
    by_cases e:u=y
    ·subst e
     rw[if_pos rfl,hti.ta.free u hu hyn];omega
    ·rw[if_neg e]
     exact hrm u w hu (by simpa [a8,e] using hw)
   ·show s3.w=s.w+ws.length
    omega
   ·show s3.cost+dd P.n*cj L P.n pos2+df P.n*fD par P.n≤s.cost+dd P.n*cj L P.n pos+df P.n*fD (a8 par1 y (some (cH P.N r))) P.n
    rw[hlk2,g3]
    omega
   ·show 2*cj L P.n pos2+(P.n+2-fD (a8 par1 y (some (cH P.N r))) P.n)<2*cj L P.n pos1+(P.n+2-fD par1 P.n)
    omega
  ·refine bP rfl ?_
   refine ae (aa ?_)
   (repeat' (first
    |refine ao (gs:=[999]) rfl ?_
    |refine ab [999] (ad 5 rfl rfl rfl rfl) rfl ?_))
   refine av 38 (v':=.int .i64 (s0:Int)) rfl (congrArg (Value.int .i64) hs1) ?_
   (repeat' (first
    |refine ao (gs:=[999]) rfl ?_
    |refine ab [999] (ad 5 rfl rfl rfl rfl) rfl ?_))
   refine aj ?_
   refine aC rfl (fun heq=>?_) (fun hns=>?_)
   ·have hys:y=s0:=by omega
    refine bN kC (aB ⟨_,rfl,⟨ws,f1,tr1,pos2,par1,val1,s3⟩,rfl,?_,hti2,hR.flow,hR.tre,?_,?_⟩)
    ·have:=hR.acc [] tr1 (TR.stop hpi2 (by rw[← hs0,← hys];exact hdead))
     rwa [List.append_nil] at this
    ·show s3.w=s.w+ws.length
     omega
    ·show s3.cost+dd P.n*cj L P.n pos2+df P.n*fD par P.n≤s.cost+dd P.n*cj L P.n pos+df P.n*fD par1 P.n+_
     omega
   ·have hys:y≠s0:=by omega
    obtain⟨v0,hv0n,hpv⟩:∃ v0,v0≤P.n∧par1 v0=some y:=by
     obtain⟨A,z,hAz⟩:=hp.ne
     rw[hAz,List.getLast?_append] at hpy
     simp only[List.getLast?_singleton,Option.some_or,Option.some.injEq] at hpy
     subst hpy
     rcases List.eq_nil_or_concat A with rfl|⟨B,b,rfl⟩
     ·rw[hAz] at hp
      exact absurd hp.1.symm hys
     ·rw[List.concat_eq_append] at hAz
      refine⟨b,hpl b (by rw[hAz];simp),aP.next (A:=B) (B:=[]) (x:=s0) (by rw[hAz] at hp;simpa using hp)⟩
    refine aa ?_
    (repeat' (first
     |refine ao (gs:=[999]) rfl ?_
     |refine ab [999] (ad 5 rfl rfl rfl rfl) rfl ?_))
    refine ay [] (vt hP s3 hti2 hpi2 hyl hdead (by rw[← hk0];exact hyk) hv0n hpv) rfl rfl rfl rfl (by kernel_rfl) ju ⟨⟨0,_,by simp,rfl,ak _ _ _,ap⟩,trivial⟩ (fun _=>rfl) ?_
    rintro _ H' ⟨u,pos4,par4,val4,s4,rfl,hu,hC,hc4⟩
    refine⟨cT rfl (cJ _ _),?_⟩
    refine b6 ji ?_
    refine aj ?_
    have hrem4:=hC.rem
    have hlk4:=hC.lk
    have hw4:=hC.w
    have e1:dd P.n*cj L P.n pos2=dd P.n*cj L P.n pos4+dd P.n*u:=by rw[← hrem4,Nat.mul_add]
    have e2:df P.n*fD par1 P.n=df P.n*fD par4 P.n+df P.n*u:=by rw[← hlk4,Nat.mul_add]
    have e3:dd P.n*u=df P.n*u+u*(10*cX (P.n+1)+70*(P.n+1)+5):=by
     rw[Nat.mul_comm u,← Nat.add_mul];congr 1;unfold dd df;omega
    have e4:u*(10*cX (P.n+1)+70*(P.n+1)+5)=u*(2*cX (P.n+1)+12*(P.n+1)+1)+u*(8*cX (P.n+1)+58*(P.n+1)+4):=by
     rw[← Nat.mul_add];congr 1;omega
    have e5:1*(8*cX (P.n+1)+58*(P.n+1)+4)≤u*(8*cX (P.n+1)+58*(P.n+1)+4):=Nat.mul_le_mul_right _ hu
    refine⟨⟨ws,f1,tr1,pos4,par4,val4,s4⟩,⟨rfl,trivial⟩,aH.refl,⟨hR.acc,hC.ti,hC.pi,fun z w hz hw=>?_,hR.flow,hR.tre,?_,?_⟩,?_⟩
    ·obtain⟨h1,h2⟩:=hC.sub z w hw
     show P.least≤val4 z
     rw[h2]
     exact hrm z w hz h1
    ·show s4.w=s.w+ws.length
     omega
    ·show s4.cost+dd P.n*cj L P.n pos4+df P.n*fD par P.n≤s.cost+dd P.n*cj L P.n pos+df P.n*fD par4 P.n
     omega
    ·show 2*cj L P.n pos4+(P.n+2-fD par4 P.n)<2*cj L P.n pos1+(P.n+2-fD par1 P.n)
     omega
end
end Go.Proofs.YtpbmihpjgjbndaaGreat
/- The engine by trees: all that is linked still is settled, step by step. -/
set_option linter.unusedVariables false
set_option linter.unusedSimpArgs false
namespace Go.Proofs.YtpbmihpjgjbndaaGreat
open Go.RowKit
section
variable {P:EP} {L:Nat→List Nat} {lv:Nat→Int} {gv:Nat→Nat} {rm0 tr:List Int} {pos:List Nat} {par:OV} {val:Nat→Int}
structure ye where
 i:Nat
 par:OV
 val:Nat→Int
 s:ES
structure x3 (P:EP) (L:Nat→List Nat) (gv:Nat→Nat) (rm0 tr:List Int) (pos:List Nat) (par:OV) (s:ES) (ok:Nat→Nat→Prop) (par':OV) (val':Nat→Int) (s':ES) (i:Nat):Prop where
 fa:∃ row,eI (P.n+1) s'.fs par' val' row
 ta:TA P L rm0 tr pos par' val' s'.rm
 vals:s'.vals=s.vals
 un:s'.un=s.un
 w:s'.w=s.w
 sub:∀ u w,u≤P.n→(par' u=some w↔par u=some w∧ok u w)
 cost:s'.cost+(2*cX (P.n+1)+11*(P.n+1)+1)*fD par' P.n≤s.cost+(2*cX (P.n+1)+11*(P.n+1)+1)*fD par P.n+i
set_option maxHeartbeats 1000000 in
theorem u4 (hP:iF P L lv gv) (s:ES) (hI:gM P L gv rm0 tr pos par val s):
 Fn 111 [.pointer (some ⟨P.pe,0,none⟩)] (aX (ep P s)) ([P.sg]++ep P s) fun _ H'=>∃ par' val' s',H'=ep P s'∧TA P L rm0 tr pos par' val' s'.rm∧(∀ u,u≤P.n→par' u=none)∧s'.w=s.w∧s'.cost≤s.cost+(2*cX (P.n+1)+11*(P.n+1)+1)*(P.n+1)+(P.n+1):=by
 have hN:=hP.small
 have hul:=hI.tb.len
 obtain⟨KS,hKS⟩:∃ x,x=2*cX (P.n+1)+11*(P.n+1)+1:=⟨_,rfl⟩
 generalize hM:aX _=M
 refine aM Tryz.func111 rfl rfl fun w0=>?_
 refine bN jk ?_
 refine ae (aa ?_)
 (repeat' (first
  |refine ao (gs:=[999]) rfl ?_
  |refine ab [999] (ad 5 rfl rfl rfl rfl) rfl ?_))
 refine aj ?_
 refine au ?_
 refine bM (σ:=ye) (fun t=>[(11,.int .i64 (t.i:Int)),(10,.int .i64 ((P.n+1:Nat):Int)),(9,.slice (some ⟨P.gu,0,none⟩) (P.n+1) (P.n+1)),(0,.pointer (some ⟨P.pe,0,none⟩))]) (fun t=>kw P t.s)
  (fun t=>t.i≤P.n+1∧x3 P L gv rm0 tr pos par s (fun _ w=>t.i≤w) t.par t.val t.s t.i) (fun t=>P.n+1-t.i) ⟨0,par,val,s⟩ ⟨rfl,rfl,rfl,rfl,trivial⟩ aH.refl
  ⟨Nat.zero_le _,⟨hI.fa,hI.ta,rfl,rfl,rfl,fun u w _=>⟨fun h=>⟨h,Nat.zero_le _⟩,fun h=>h.1⟩,Nat.le_refl _⟩⟩ ?_
 rintro⟨i,par1,val1,s1⟩ ⟨hi,hF1⟩
 simp only at hi hF1 ⊢
 refine ae (aa (af [] rfl ?_))
 refine ae ?_
 refine aC rfl (fun hlt=>aq ?_) (fun hge=>?_)
 ·have hin:i≤P.n:=by omega
  obtain⟨A,c,W,hun,hWd,hWm,hWl⟩:=hI.tb.get hin
  have hun1:s1.un[i]?=some ⟨A,c,ga W⟩:=by rw[hF1.un];exact hun
  refine ae (au ?_)
  refine ae (aa ?_)
  refine ab [999] (aI rfl rfl rfl rfl rfl (show i<P.n+1 by omega)) rfl ?_
  refine ab [999] (aF (v:=.slice A (ga W).length c) 8 rfl rfl rfl (show (s1.un.map cN)[i]?=_ by rw[List.getElem?_map,hun1];rfl)) rfl ?_
  rw[dj]
  refine af [] rfl ?_
  refine ae (aa ?_)
  refine ao (gs:=[999]) rfl ?_
  refine b6 (aH.re (A:=P.fo s1.fs++[P.sg,P.pc s1.k s1.w,P.rc s1.rm,P.lc s1.vals,P.uc s1.un]) (R:=P.rows s1.un) [5,0,1,2,3,4,6,7,8] rfl (by decide)) ?_
  refine ay [999] (iJ P s1.k s1.w) rfl rfl rfl rfl (by kernel_rfl) aH.refl trivial (fun _=>rfl) ?_
  rintro v0 H' rfl
  refine⟨rfl,?_⟩
  refine b6 (aH.re (A:=[P.pc (s1.k+1) s1.w]++(P.fo s1.fs++[P.sg,P.rc s1.rm,P.lc s1.vals,P.uc s1.un])) (R:=P.rows s1.un) [1,2,3,4,5,0,6,7,8] rfl (by decide)) ?_
  refine aj ?_
  obtain⟨s2,hs2⟩:∃ x:ES,x={ s1 with k:=s1.k+1 }:=⟨_,rfl⟩
  refine bN (K:=kw P s2) (by rw[hs2];exact aH.refl) ?_
  have hF2:x3 P L gv rm0 tr pos par s (fun u w=>i<w∨w=i∧∃ j,0≤j∧W[j]?=some u) par1 val1 s2 (i+1):=by
   rw[hs2]
   refine⟨hF1.fa,hF1.ta,hF1.vals,hF1.un,hF1.w,fun u w hu=>?_,?_⟩
   ·rw[hF1.sub u w hu]
    refine⟨fun ⟨h1,h2⟩=>⟨h1,?_⟩,fun ⟨h1,h2⟩=>⟨h1,by rcases h2 with h2|h2<;>omega⟩⟩
    rcases Nat.lt_or_ge i w with h3|h3
    ·exact .inl h3
    ·have:w=i:=by omega
     subst this
     obtain⟨j,hj,hju⟩:=List.mem_iff_getElem.1 ((hWm u).2 ⟨hu,h1⟩)
     exact .inr ⟨rfl,j,Nat.zero_le _,by rw[List.getElem?_eq_getElem hj,hju]⟩
   ·have:=hF1.cost
    show s1.k+1+s1.fs.k+_≤_
    have h2:s1.cost=s1.k+s1.fs.k:=rfl
    omega
  clear hs2
  refine ae (aa (af [] rfl ?_))
  refine au ?_
  refine bM (σ:=ye) (fun t=>[(19,.int .i64 (t.i:Int)),(18,.int .i64 (W.length:Int)),(17,.slice A W.length c),(11,.int .i64 (i:Int)),(10,.int .i64 ((P.n+1:Nat):Int)),(9,.slice (some ⟨P.gu,0,none⟩) (P.n+1) (P.n+1)),(0,.pointer (some ⟨P.pe,0,none⟩))]) (fun t=>kw P t.s)
   (fun t=>t.i≤W.length∧x3 P L gv rm0 tr pos par s (fun u w=>i<w∨w=i∧∃ j,t.i≤j∧W[j]?=some u) t.par t.val t.s (i+1)) (fun t=>W.length-t.i) ⟨0,par1,val1,s2⟩ ⟨rfl,rfl,rfl,rfl,rfl,rfl,rfl,trivial⟩ aH.refl
   ⟨Nat.zero_le _,hF2⟩ ?_
  clear hF1 hF2
  rintro⟨j,par3,val3,s3⟩ ⟨hj,hF3⟩
  simp only at hj hF3 ⊢
  refine ae (aa (af [] rfl ?_))
  refine ae ?_
  refine aC rfl (fun hlt3=>aq ?_) (fun hge3=>aO ?_)
  ·have hjW:j<W.length:=by omega
   obtain⟨u,hu⟩:∃ u,W[j]?=some u:=⟨W[j],List.getElem?_eq_getElem hjW⟩
   have hu2:=(hWm u).1 (List.mem_of_getElem? hu)
   have hpu:par3 u=some i:=(hF3.sub u i hu2.1).2 ⟨hu2.2,.inr ⟨rfl,j,Nat.le_refl _,hu⟩⟩
   obtain⟨row3,hfa⟩:=hF3.fa
   obtain⟨q,r,hq,hr,hto,hval⟩:=hF3.ta.link u i hu2.1 hpu
   have hun3:s3.un[i]?=some ⟨A,c,ga W⟩:=by rw[hF3.un];exact hun
   refine bG (bp (9+(P.rowsL.length+i)) (rG hun3)) fun ⟨_,_,hA,_⟩=>?_
   obtain⟨g,rfl⟩:=hA (by rw[dj];omega)
   refine ae (au ?_)
   refine ae (aa ?_)
   refine ab [] (aI rfl rfl rfl rfl rfl hjW) rfl ?_
   refine ab [] (aF (9+(P.rowsL.length+i)) rfl rfl (rG hun3) (dA hu)) rfl ?_
   refine af [] rfl ?_
   refine aa ?_
   (repeat' (first
    |refine ao (gs:=[999]) rfl ?_
    |refine ab [999] (ad 5 rfl rfl rfl rfl) rfl ?_))
   refine ay [] (m7 hP s3 hF3.ta hfa (by rw[hF3.vals];exact hI.vo) hu2.1 hpu hq hr hval) rfl rfl rfl rfl (by kernel_rfl) ju ⟨⟨0,_,by simp,rfl,ak _ _ _,ap⟩,trivial⟩ (fun _=>rfl) ?_
   rintro _ H' ⟨fs',row',rfl,hF',hk'⟩
   refine⟨cT rfl (cJ _ _),?_⟩
   refine b6 ji ?_
   refine aj ?_
   refine aa (af [] rfl ?_)
   have hlk:=od hu2.1 hpu
   have hco:=hF3.cost
   refine⟨⟨j+1,a8 par3 u none,eP val3 u (4611686018427387904-val3 u),{ s3 with fs:=fs',rm:=s3.rm.set r (val3 u),k:=s3.k+1 }⟩,⟨?_,rfl,rfl,rfl,rfl,rfl,rfl,trivial⟩,aH.refl,⟨hjW,⟨⟨row',hF'⟩,hF3.ta.settle hP hu2.1 hpu hq hr hval,hF3.vals,hF3.un,hF3.w,fun z w hz=>?_,?_⟩⟩,?_⟩
   ·show some (Value.int .i64 (IntKind.i64.wrap ((j:Int)+1)))=_
    rw[bK (by omega)];rfl
   ·by_cases e:z=u
    ·subst e
     simp only[a8,if_true]
     refine⟨fun h=>(by cases h),fun ⟨h1,h2⟩=>?_⟩
     rw[hu2.2] at h1
     simp only[Option.some.injEq] at h1
     rcases h2 with h2|⟨_,j',hj',hz'⟩
     ·omega
     ·have e1:=(List.getElem?_eq_some_iff.1 hu)
      have e2:=(List.getElem?_eq_some_iff.1 hz')
      have:=(List.getElem_inj hWd).1 (e1.2.trans e2.2.symm)
      have hj2:j+1≤j':=hj'
      omega
    ·simp only[a8,if_neg e]
     rw[hF3.sub z w hz]
     refine⟨fun ⟨h1,h2⟩=>⟨h1,?_⟩,fun ⟨h1,h2⟩=>⟨h1,?_⟩⟩
     ·rcases h2 with h2|⟨h2,j',hj',hz'⟩
      ·exact .inl h2
      ·refine .inr ⟨h2,j',?_,hz'⟩
       rcases Nat.lt_or_ge j j' with h3|h3
       ·exact h3
       ·have:j'=j:=by omega
        subst this
        rw[hu] at hz'
        simp only[Option.some.injEq] at hz'
        exact absurd hz'.symm e
     ·rcases h2 with h2|⟨h2,j',hj',hz'⟩
      ·exact .inl h2
      ·exact .inr ⟨h2,j',Nat.le_of_succ_le hj',hz'⟩
   ·rw[← hlk,Nat.mul_add,Nat.mul_one] at hco
    have h1:s3.cost=s3.k+s3.fs.k:=rfl
    show s3.k+1+fs'.k+_*fD (a8 par3 u none) P.n≤_
    omega
   ·show W.length-(j+1)<W.length-j
    omega
  ·obtain rfl:j=W.length:=by omega
   refine aa (af [] rfl ?_)
   refine⟨⟨i+1,par3,val3,s3⟩,⟨?_,rfl,rfl,rfl,trivial⟩,aH.refl,⟨by show i+1≤P.n+1;omega,⟨hF3.fa,hF3.ta,hF3.vals,hF3.un,hF3.w,fun u w hu=>?_,hF3.cost⟩⟩,?_⟩
   ·show some (Value.int .i64 (IntKind.i64.wrap ((i:Int)+1)))=_
    rw[bK (by omega)];rfl
   ·rw[hF3.sub u w hu]
    refine⟨fun ⟨h1,h2⟩=>⟨h1,?_⟩,fun ⟨h1,h2⟩=>⟨h1,.inl h2⟩⟩
    rcases h2 with h2|⟨_,j',hj',hz'⟩
    ·exact h2
    ·have:=(List.getElem?_eq_some_iff.1 hz').1
     omega
   ·show P.n+1-(i+1)<P.n+1-i
    omega
 ·have hi2:i=P.n+1:=by omega
  refine bN kC (aO ?_)
  have hlk:=mO par P.n
  have hco:=hF1.cost
  refine⟨_,rfl,par1,val1,s1,rfl,hF1.ta,fun u hu=>?_,hF1.w,?_⟩
  ·cases hp:par1 u with
   |none=>rfl
   |some w=>
    obtain⟨h1,h2⟩:=(hF1.sub u w hu).1 hp
    obtain⟨q,r,_,h4,h5,_⟩:=hI.ta.link u w hu h1
    have h6:=d6 hP.right (eO hP (List.mem_of_getElem? h4)).1
    have h7:=hP.nodes
    have h8:i≤w:=h2
    omega
  ·rw[← hKS] at hco ⊢
   have h1:KS*fD par P.n≤KS*(P.n+1):=Nat.mul_le_mul_left _ hlk
   omega
end
end Go.Proofs.YtpbmihpjgjbndaaGreat
