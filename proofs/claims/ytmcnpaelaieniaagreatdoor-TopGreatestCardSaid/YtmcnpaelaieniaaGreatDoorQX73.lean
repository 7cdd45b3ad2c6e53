import Derived.Test.YtmcnpaelaieniaaGreatDoorQX95
/- A part of the proof; see NOTES.md. -/
set_option linter.unusedVariables false
set_option linter.unusedSimpArgs false
namespace Go.Proofs.YtmcnpaelaieniaaGreatDoor
open Go.RowKit
inductive TR (N:aU) (L:Nat->LN) (least:Int):LI->List (LN×Int)->LI->Prop
 |stop {tr:LI} {pos:LN}:PI N L least tr pos []->m0 L pos N.src.toNat->TR N L least tr [] tr
 |walk {tr tr':LI} {pos W:LN} {ws:List (LN×Int)}:PI N L least tr pos W->cR N W=N.snk.toNat->TR N L least (cj (cH tr W) W tr) ws tr'->TR N L least tr ((W,cH tr W)::ws) tr'
def dH(n:Nat):Nat:=5*dd (n+1)+17*(n+1)+2
def dz(n:Nat):Nat:=15*dd (n+1)+87*(n+1)+7
section
variable {P:EP} {L:Nat->LN} {lv:Nat->Int} {gv:Nat->Nat} {rm0 tr:LI} {pos:LN} {par:OV} {val:Nat->Int}
structure RS where
 ws:List (LN×Int)
 f:LI
 tr:LI
 pos:LN
 par:OV
 val:Nat->Int
 s:ES
def FV(P:EP)(L:Nat->LN)(gv:Nat->Nat)(rm0 tr:LI)(pos:LN)(par:OV)(s:ES)(H':Heap):Prop:=
 ∃ t:RS,H'=eW P t.s/\TR P.N L P.least tr t.ws t.tr/\jc P L gv rm0 t.tr t.pos t.par t.val t.s/\aK P.N t.f/\t.tr=aP (P.N.arcs.zip t.f)/\t.s.w=s.w+t.ws.length/\
   t.s.cost+dz P.n*cI L P.n t.pos+dH P.n*ig par P.n<=s.cost+dz P.n*cI L P.n pos+dH P.n*ig t.par P.n+(dd (P.n+1)+5*(P.n+1)+1)
structure F0 (P:EP) (L:Nat->LN) (gv:Nat->Nat) (rm0 tr:LI) (pos:LN) (par:OV) (s:ES) (t:RS):Prop where
 acc:∀ ws tr',TR P.N L P.least t.tr ws tr'->TR P.N L P.least tr (t.ws++ws) tr'
 ti:jc P L gv rm0 t.tr t.pos t.par t.val t.s
 pi:PI P.N L P.least t.tr t.pos []
 room:uY P t.par t.val
 flow:aK P.N t.f
 tre:t.tr=aP (P.N.arcs.zip t.f)
 w:t.s.w=s.w+t.ws.length
 cost:t.s.cost+dz P.n*cI L P.n t.pos+dH P.n*ig par P.n<=s.cost+dz P.n*cI L P.n pos+dH P.n*ig t.par P.n
set_option maxHeartbeats 1000000 in
theorem ET(hP:jY P L lv gv)(hle:1<=P.least)(s:ES)(hI:jc P L gv rm0 tr pos par val s)(hPI:PI P.N L P.least tr pos [])(hroom:uY P par val){f:LI}(hf:aK P.N f)(he:tr=aP (P.N.arcs.zip f)):
 Fn 234 [.pointer (some ⟨P.pe,0,none⟩)] (aL (eW P s)) ([P.sg]++eW P s) λ _ H'=>FV P L gv rm0 tr pos par s H':=by
 have hN:=hP.small;have hsr:=hP.right.src;have hsk:=hP.right.snk;have hdf:=hP.right.diff;have hnn:=hP.nodes;obtain⟨s0,hs0⟩:∃ x,x=P.N.src.toNat:=⟨_,rfl⟩;obtain⟨k0,hk0⟩:∃ x,x=P.N.snk.toNat:=⟨_,rfl⟩;have hs1:P.N.src=(s0:Int):=by omega
 have hk1:P.N.snk=(k0:Int):=by omega
 have hsN:s0<P.n+1:=by omega
 have hkN:k0<P.n+1:=by omega
 generalize hM:aL _=M
 refine aJ Tryz.func234 rfl rfl λ w0=>?_;refine bJ lz ?_;refine au ?_
 refine b6 (σ:=RS) (λ _=>[(0,.pointer (some ⟨P.pe,0,none⟩))]) (λ t=>mZ P t.s) (λ t=>F0 P L gv rm0 tr pos par s t) (λ t=>2*cI L P.n t.pos+(P.n+2-ig t.par P.n))
  ⟨[],f,tr,pos,par,val,s⟩ ⟨rfl,an⟩ aH.refl ⟨λ _ _ h=>h,hI,hPI,hroom,hf,he,rfl,GF _⟩ ?_
 rintro⟨ws,f1,tr1,pos1,par1,val1,s1⟩ hR;have hti:=hR.ti;have hpi:=hR.pi;have hrm:=hR.room;have hw1:=hR.w;have hco:=hR.cost;simp only at hti hpi hrm hw1 hco ⊢;have hlk:=qi par1 P.n;refine au (ad (aa ?_))
 (repeat' (first|refine am (gs:=[999]) rfl ?_|refine ab [999] (af 5 rfl) rfl ?_))
 refine bY (aH.re (A:=P.fo s1.fs++[P.sg,P.pc s1.k s1.w,P.rc s1.rm,P.lc s1.vals,P.uc s1.un]) (R:=P.rows s1.un) [5,0,1,2,3,4,6,7,8] rfl (by decide)) ?_;refine aw [999] (kf P s1.k s1.w) rfl rfl rfl rfl (by kernel_rfl) aH.refl an (λ _=>rfl) ?_;rintro v0 H' rfl;refine⟨rfl,?_⟩;refine bY (aH.re (A:=[P.pc (s1.k+1) s1.w]++(P.fo s1.fs++[P.sg,P.rc s1.rm,P.lc s1.vals,P.uc s1.un])) (R:=P.rows s1.un) [1,2,3,4,5,0,6,7,8] rfl (by decide)) ?_;refine ai ?_;obtain⟨row,hF⟩:=hti.fa;obtain⟨p,hp⟩:=hF.path s0 hsN;refine ad ?_;refine bu 11 (cZ [0,1,2,3,4,5,6,7,8]++[(9,false)]++cZ [10]) [5] (by kernel_rfl) (by decide) rfl ?_
 (repeat' (first|refine bB (gs:=[999]) rfl rfl ?_|refine aj [999] rfl (af 0 rfl) rfl ?_))
 refine eg 13 (v':=.int .i64 (s0:Int)) rfl (Gt (Value.int .i64) hs1) ?_;refine bg rfl ?_;refine aw [] (Eo hF hN hsN hp) rfl rfl rfl rfl (by kernel_rfl) aH.refl an (λ _=>rfl) ?_;rintro _ H' ⟨fs2,row2,y,rfl,rfl,hF2,hpy,hk2⟩;refine⟨rfl,ai ⟨⟨[5],by decide,rfl⟩,?_⟩⟩;refine bB (gs:=[999]) rfl rfl ?_;refine bq ?_;refine ai ?_;obtain⟨s2,hs2⟩:∃ x:ES,x={ s1 with k:=s1.k+1,fs:=fs2 }:=⟨_,rfl⟩;refine bJ (K:=mZ P s2) (by rw[hs2];exact aH.refl) ?_;have hI2:jc P L gv rm0 tr1 pos1 par1 val1 s2:=by rw[hs2];exact⟨⟨_,hF2⟩,hti.ta,hti.vo,hti.tb⟩
 have hc2:s2.cost<=s1.cost+dd (P.n+1)+5*(P.n+1)+1:=by
  rw[hs2];show s1.k+1+fs2.k<=s1.k+s1.fs.k+_+_+1;omega
 have hw2:s2.w=s1.w:=by rw[hs2]
 clear hs2
 have hyn:par1 y=none:=hp.root_last hpy;have hyp:y∈p:=HL hpy;have hpl:∀ z∈p,z<=P.n:=λ z hz=>by have:=aS.lt hF.lt hp hsN z hz;omega
 have hyl:=hpl y hyp;refine au (ad (aa ?_))
 (repeat' (first|refine am (gs:=[999]) rfl ?_|refine ab [999] (af 5 rfl) rfl ?_))
 refine aI 24 (v':=.int .i64 (k0:Int)) rfl (Gt (Value.int .i64) hk1) ?_
 (repeat' (first|refine am (gs:=[999]) rfl ?_|refine ab [999] (af 5 rfl) rfl ?_))
 refine ai ?_;refine aC rfl (λ heq=>?_) (λ hneq=>?_)
 ·have hyk:y=k0:=by omega
  subst hyk;refine aa ?_
  (repeat' (first|refine am (gs:=[999]) rfl ?_|refine ab [999] (af 5 rfl) rfl ?_))
  refine aw [] (Cm hP hle s2 hI2 hpi hrm hR.flow hR.tre (p:=p) (by rw[<- hs0];exact hp) (by rw[<- hk0];exact hpy)) rfl rfl rfl rfl (by kernel_rfl) ld ⟨⟨0,_,by simp,rfl,ak _ _ _,av⟩,an⟩ (λ _=>rfl) ?_;rintro _ H' ⟨u,pos2,par2,val2,s3,W,rfl,hu,hPW,hend,hti2,hpi2,hrm2,hrem2,hlk2,hw3,hc3⟩;refine⟨cP rfl (cF _ _),?_⟩;refine bY kU ?_;refine ai ?_;obtain⟨_,_,_,_,_,_,⟨f2,hf2,hf2e⟩,_⟩:=iH hP.right hP.graded hle hR.flow hR.tre hPW hend;have g1:dz P.n*cI L P.n pos1=dz P.n*cI L P.n pos2+dz P.n*u:=by rw[<- hrem2,HF]
  have g2:dH P.n*ig par1 P.n=dH P.n*ig par2 P.n+dH P.n*u:=by rw[<- hlk2,HF]
  have g3:dz P.n*u=dH P.n*u+u*(10*dd (P.n+1)+70*(P.n+1)+5):=by
   rw[Nat.mul_comm u,<- H0];congr 1;unfold dz dH;omega
  have g4:u*(10*dd (P.n+1)+70*(P.n+1)+5)=u*(9*dd (P.n+1)+65*(P.n+1)+4)+u*(dd (P.n+1)+5*(P.n+1)+1):=by
   rw[<- HF];congr 1;omega
  have g5:1*(dd (P.n+1)+5*(P.n+1)+1)<=u*(dd (P.n+1)+5*(P.n+1)+1):=HE _ hu;refine⟨⟨ws++[(W,cH tr1 W)],f2,cj (cH tr1 W) W tr1,pos2,par2,val2,s3⟩,⟨rfl,an⟩,aH.refl,⟨λ ws' tr' h=>?_,hti2,hpi2,hrm2,hf2,hf2e,?_,?_⟩,?_⟩
  ·show TR P.N L P.least tr ((ws++[(W,cH tr1 W)])++ws') tr';rw[G4];exact hR.acc _ _ (TR.walk hPW hend h)
  ·show s3.w=s.w+(ws++[(W,cH tr1 W)]).length;rw[Gx,G2];omega
  ·show s3.cost+dz P.n*cI L P.n pos2+dH P.n*ig par P.n<=s.cost+dz P.n*cI L P.n pos+dH P.n*ig par2 P.n;omega
  ·show 2*cI L P.n pos2+(P.n+2-ig par2 P.n)<2*cI L P.n pos1+(P.n+2-ig par1 P.n);omega
 ·have hyk:y≠k0:=by omega
  refine ad (aa ?_)
  (repeat' (first|refine am (gs:=[999]) rfl ?_|refine ab [999] (af 5 rfl) rfl ?_))
  refine aw [] (DE hP s2 hI2 hpi hyl hyn) rfl rfl rfl rfl (by kernel_rfl) ld ⟨⟨0,_,by simp,rfl,ak _ _ _,av⟩,an⟩ (λ _=>rfl) ?_;rintro _ H' ⟨b,s3,rfl,rfl,pos2,hpi2,hw3,hrem3,hb⟩;refine⟨cP rfl (cF _ _),?_⟩;refine bY kU ?_
  (repeat' (first|refine am (gs:=[999]) rfl ?_|refine ab [999] (af 5 rfl) rfl ?_))
  refine ai ?_;obtain⟨d,hd⟩:∃ d,cI L P.n pos1=cI L P.n pos2+d:=⟨cI L P.n pos1-cI L P.n pos2,by omega⟩;have g1:dz P.n*cI L P.n pos1=dz P.n*cI L P.n pos2+dz P.n*d:=by rw[hd,HF]
  have g2:d<=dz P.n*d:=Nat.le_mul_of_pos_left d (by unfold dz;omega)
  rcases hb with ⟨rfl,q,r,hq,hr,hlr,hti2,hc3⟩|⟨rfl,hdead,hti2,hc3⟩
  ·refine bi rfl (aq ?_);have hlk2:=B8 (w:=eV P.N r) hyl hyn;have g3:dH P.n*(ig par1 P.n+1)=dH P.n*ig par1 P.n+dH P.n:=by rw[Nat.mul_add,Nat.mul_one]
   have g4:dH P.n=5*dd (P.n+1)+17*(P.n+1)+2:=rfl;have hlk3:=qi (bj par1 y (some (eV P.N r))) P.n;refine⟨⟨ws,f1,tr1,pos2,bj par1 y (some (eV P.N r)),fQ val1 y (tr1.getD r 0-4611686018427387904),s3⟩,⟨rfl,an⟩,aH.refl,⟨hR.acc,hti2,hpi2,λ u w hu hw=>?_,hR.flow,hR.tre,?_,?_⟩,?_⟩
   ·simp only[fQ,Gy];by_cases e:u=y
    ·subst e;rw[if_pos rfl,hti.ta.free u hu hyn];omega
    ·rw[if_neg e];exact hrm u w hu (by simpa [bj,e] using hw)
   ·show s3.w=s.w+ws.length;omega
   ·show s3.cost+dz P.n*cI L P.n pos2+dH P.n*ig par P.n<=s.cost+dz P.n*cI L P.n pos+dH P.n*ig (bj par1 y (some (eV P.N r))) P.n;rw[hlk2,g3];omega
   ·show 2*cI L P.n pos2+(P.n+2-ig (bj par1 y (some (eV P.N r))) P.n)<2*cI L P.n pos1+(P.n+2-ig par1 P.n);omega
  ·refine bG rfl ?_;refine ad (aa ?_)
   (repeat' (first|refine am (gs:=[999]) rfl ?_|refine ab [999] (af 5 rfl) rfl ?_))
   refine aI 38 (v':=.int .i64 (s0:Int)) rfl (Gt (Value.int .i64) hs1) ?_
   (repeat' (first|refine am (gs:=[999]) rfl ?_|refine ab [999] (af 5 rfl) rfl ?_))
   refine ai ?_;refine aC rfl (λ heq=>?_) (λ hns=>?_)
   ·have hys:y=s0:=by omega
    refine bJ mW (ay ⟨_,rfl,⟨ws,f1,tr1,pos2,par1,val1,s3⟩,rfl,?_,hti2,hR.flow,hR.tre,?_,?_⟩)
    ·have:=hR.acc [] tr1 (TR.stop hpi2 (by rw[← hs0,← hys];exact hdead))
     rwa [G5] at this
    ·show s3.w=s.w+ws.length;omega
    ·show s3.cost+dz P.n*cI L P.n pos2+dH P.n*ig par P.n<=s.cost+dz P.n*cI L P.n pos+dH P.n*ig par1 P.n+_;omega
   ·have hys:y≠s0:=by omega
    obtain⟨v0,hv0n,hpv⟩:∃ v0,v0<=P.n/\par1 v0=some y:=by
     obtain⟨A,z,hAz⟩:=hp.ne;rw[hAz,Hd] at hpy;simp only[List.getLast?_singleton,Option.some_or,Gs] at hpy;subst hpy
     rcases Hn A with rfl|⟨B,b,rfl⟩
     ·rw[hAz] at hp;exact absurd hp.1.symm hys
     ·rw[Ho] at hAz;refine⟨b,hpl b (by rw[hAz];simp),aS.next (A:=B) (B:=[]) (x:=s0) (by rw[hAz] at hp;simpa using hp)⟩
    refine aa ?_
    (repeat' (first|refine am (gs:=[999]) rfl ?_|refine ab [999] (af 5 rfl) rfl ?_))
    refine aw [] (DA hP s3 hti2 hpi2 hyl hdead (by rw[<- hk0];exact hyk) hv0n hpv) rfl rfl rfl rfl (by kernel_rfl) ld ⟨⟨0,_,by simp,rfl,ak _ _ _,av⟩,an⟩ (λ _=>rfl) ?_;rintro _ H' ⟨u,pos4,par4,val4,s4,rfl,hu,hC,hc4⟩;refine⟨cP rfl (cF _ _),?_⟩;refine bY kU ?_;refine ai ?_;have hrem4:=hC.rem;have hlk4:=hC.lk;have hw4:=hC.w;have e1:dz P.n*cI L P.n pos2=dz P.n*cI L P.n pos4+dz P.n*u:=by rw[<- hrem4,HF]
    have e2:dH P.n*ig par1 P.n=dH P.n*ig par4 P.n+dH P.n*u:=by rw[<- hlk4,HF]
    have e3:dz P.n*u=dH P.n*u+u*(10*dd (P.n+1)+70*(P.n+1)+5):=by
     rw[Nat.mul_comm u,<- H0];congr 1;unfold dz dH;omega
    have e4:u*(10*dd (P.n+1)+70*(P.n+1)+5)=u*(2*dd (P.n+1)+12*(P.n+1)+1)+u*(8*dd (P.n+1)+58*(P.n+1)+4):=by
     rw[<- HF];congr 1;omega
    have e5:1*(8*dd (P.n+1)+58*(P.n+1)+4)<=u*(8*dd (P.n+1)+58*(P.n+1)+4):=HE _ hu;refine⟨⟨ws,f1,tr1,pos4,par4,val4,s4⟩,⟨rfl,an⟩,aH.refl,⟨hR.acc,hC.ti,hC.pi,λ z w hz hw=>?_,hR.flow,hR.tre,?_,?_⟩,?_⟩
    ·obtain⟨h1,h2⟩:=hC.sub z w hw;show P.least<=val4 z;rw[h2];exact hrm z w hz h1
    ·show s4.w=s.w+ws.length;omega
    ·show s4.cost+dz P.n*cI L P.n pos4+dH P.n*ig par P.n<=s.cost+dz P.n*cI L P.n pos+dH P.n*ig par4 P.n;omega
    ·show 2*cI L P.n pos4+(P.n+2-ig par4 P.n)<2*cI L P.n pos1+(P.n+2-ig par1 P.n);omega
end
section
variable {P:EP} {L:Nat->LN} {lv:Nat->Int} {gv:Nat->Nat} {rm0 tr:LI} {pos:LN} {par:OV} {val:Nat->Int}
structure Gk where
 i:Nat
 par:OV
 val:Nat->Int
 s:ES
structure F9 (P:EP) (L:Nat->LN) (gv:Nat->Nat) (rm0 tr:LI) (pos:LN) (par:OV) (s:ES) (ok:Nat->Nat->Prop) (par':OV) (val':Nat->Int) (s':ES) (i:Nat):Prop where
 fa:∃ row,fE (P.n+1) s'.fs par' val' row
 ta:TA P L rm0 tr pos par' val' s'.rm
 vals:s'.vals=s.vals
 un:s'.un=s.un
 w:s'.w=s.w
 sub:∀ u w,u<=P.n->(par' u=some w↔par u=some w/\ok u w)
 cost:s'.cost+(2*dd (P.n+1)+11*(P.n+1)+1)*ig par' P.n<=s.cost+(2*dd (P.n+1)+11*(P.n+1)+1)*ig par P.n+i
set_option maxHeartbeats 1000000 in
theorem Bw(hP:jY P L lv gv)(s:ES)(hI:jc P L gv rm0 tr pos par val s):
 Fn 235 [.pointer (some ⟨P.pe,0,none⟩)] (aL (eW P s)) ([P.sg]++eW P s) λ _ H'=>∃ par' val' s',H'=eW P s'/\TA P L rm0 tr pos par' val' s'.rm/\(∀ u,u<=P.n->par' u=none)/\s'.w=s.w/\s'.cost<=s.cost+(2*dd (P.n+1)+11*(P.n+1)+1)*(P.n+1)+(P.n+1):=by
 have hN:=hP.small;have hul:=hI.tb.len;obtain⟨KS,hKS⟩:∃ x,x=2*dd (P.n+1)+11*(P.n+1)+1:=⟨_,rfl⟩
 generalize hM:aL _=M
 refine aJ Tryz.func235 rfl rfl λ w0=>?_;refine bJ lz ?_;refine ad (aa ?_)
 (repeat' (first|refine am (gs:=[999]) rfl ?_|refine ab [999] (af 5 rfl) rfl ?_))
 refine ai ?_;refine au ?_
 refine b6 (σ:=Gk) (λ t=>[(11,.int .i64 (t.i:Int)),(10,.int .i64 ((P.n+1:Nat):Int)),(9,.slice (some ⟨P.gu,0,none⟩) (P.n+1) (P.n+1)),(0,.pointer (some ⟨P.pe,0,none⟩))]) (λ t=>mZ P t.s)
  (λ t=>t.i<=P.n+1/\F9 P L gv rm0 tr pos par s (λ _ w=>t.i<=w) t.par t.val t.s t.i) (λ t=>P.n+1-t.i) ⟨0,par,val,s⟩ ⟨rfl,rfl,rfl,rfl,an⟩ aH.refl
  ⟨GB _,⟨hI.fa,hI.ta,rfl,rfl,rfl,λ u w _=>⟨λ h=>⟨h,GB _⟩,λ h=>h.1⟩,GF _⟩⟩ ?_
 rintro⟨i,par1,val1,s1⟩ ⟨hi,hF1⟩;simp only at hi hF1 ⊢;refine ad (aa (ae [] rfl ?_));refine ad ?_;refine aC rfl (λ hlt=>aq ?_) (λ hge=>?_)
 ·have hin:i≤P.n:=by omega
  obtain⟨A,c,W,hun,hWd,hWm,hWl⟩:=hI.tb.get hin;have hun1:s1.un[i]?=some ⟨A,c,iR W⟩:=by rw[hF1.un];exact hun
  refine ad (au ?_);refine ad (aa ?_);refine ab [999] (aG rfl (show i<P.n+1 by omega)) rfl ?_;refine ab [999] (aD (v:=.slice A (iR W).length c) 8 rfl rfl rfl (show (s1.un.map cz)[i]?=_ by rw[GC,hun1];rfl)) rfl ?_;rw[dK];refine ae [] rfl ?_;refine ad (aa ?_);refine am (gs:=[999]) rfl ?_;refine bY (aH.re (A:=P.fo s1.fs++[P.sg,P.pc s1.k s1.w,P.rc s1.rm,P.lc s1.vals,P.uc s1.un]) (R:=P.rows s1.un) [5,0,1,2,3,4,6,7,8] rfl (by decide)) ?_;refine aw [999] (kf P s1.k s1.w) rfl rfl rfl rfl (by kernel_rfl) aH.refl an (λ _=>rfl) ?_;rintro v0 H' rfl;refine⟨rfl,?_⟩;refine bY (aH.re (A:=[P.pc (s1.k+1) s1.w]++(P.fo s1.fs++[P.sg,P.rc s1.rm,P.lc s1.vals,P.uc s1.un])) (R:=P.rows s1.un) [1,2,3,4,5,0,6,7,8] rfl (by decide)) ?_;refine ai ?_;obtain⟨s2,hs2⟩:∃ x:ES,x={ s1 with k:=s1.k+1 }:=⟨_,rfl⟩;refine bJ (K:=mZ P s2) (by rw[hs2];exact aH.refl) ?_
  have hF2:F9 P L gv rm0 tr pos par s (λ u w=>i<w\/w=i/\∃ j,0<=j/\W[j]?=some u) par1 val1 s2 (i+1):=by
   rw[hs2];refine⟨hF1.fa,hF1.ta,hF1.vals,hF1.un,hF1.w,λ u w hu=>?_,?_⟩
   ·rw[hF1.sub u w hu];refine⟨fun ⟨h1,h2⟩=>⟨h1,?_⟩,fun ⟨h1,h2⟩=>⟨h1,by rcases h2 with h2|h2<;>omega⟩⟩
    rcases Nat.lt_or_ge i w with h3|h3
    ·exact .inl h3
    ·have:w=i:=by omega
     subst this;obtain⟨j,hj,hju⟩:=Hj.1 ((hWm u).2 ⟨hu,h1⟩);exact .inr ⟨rfl,j,GB _,by rw[Gq hj,hju]⟩
   ·have:=hF1.cost;show s1.k+1+s1.fs.k+_<=_;have h2:s1.cost=s1.k+s1.fs.k:=rfl;omega
  clear hs2
  refine ad (aa (ae [] rfl ?_));refine au ?_
  refine b6 (σ:=Gk) (λ t=>[(19,.int .i64 (t.i:Int)),(18,.int .i64 (W.length:Int)),(17,.slice A W.length c),(11,.int .i64 (i:Int)),(10,.int .i64 ((P.n+1:Nat):Int)),(9,.slice (some ⟨P.gu,0,none⟩) (P.n+1) (P.n+1)),(0,.pointer (some ⟨P.pe,0,none⟩))]) (λ t=>mZ P t.s)
   (λ t=>t.i<=W.length/\F9 P L gv rm0 tr pos par s (λ u w=>i<w\/w=i/\∃ j,t.i<=j/\W[j]?=some u) t.par t.val t.s (i+1)) (λ t=>W.length-t.i) ⟨0,par1,val1,s2⟩ ⟨rfl,rfl,rfl,rfl,rfl,rfl,rfl,an⟩ aH.refl
   ⟨GB _,hF2⟩ ?_
  clear hF1 hF2
  rintro⟨j,par3,val3,s3⟩ ⟨hj,hF3⟩;simp only at hj hF3 ⊢;refine ad (aa (ae [] rfl ?_));refine ad ?_;refine aC rfl (λ hlt3=>aq ?_) (λ hge3=>bc ?_)
  ·have hjW:j<W.length:=by omega
   obtain⟨u,hu⟩:∃ u,W[j]?=some u:=⟨W[j],Gq hjW⟩;have hu2:=(hWm u).1 (Gu hu);have hpu:par3 u=some i:=(hF3.sub u i hu2.1).2 ⟨hu2.2,.inr ⟨rfl,j,GF _,hu⟩⟩;obtain⟨row3,hfa⟩:=hF3.fa;obtain⟨q,r,hq,hr,hto,hval⟩:=hF3.ta.link u i hu2.1 hpu;have hun3:s3.un[i]?=some ⟨A,c,iR W⟩:=by rw[hF3.un];exact hun
   refine bh (aW (9+(P.rowsL.length+i)) (wV hun3)) λ ⟨_,_,hA,_⟩=>?_;obtain⟨g,rfl⟩:=hA (by rw[dK];omega);refine ad (au ?_);refine ad (aa ?_);refine ab [] (aG rfl hjW) rfl ?_;refine ab [] (aD (9+(P.rowsL.length+i)) rfl rfl (wV hun3) (dl hu)) rfl ?_;refine ae [] rfl ?_;refine aa ?_
   (repeat' (first|refine am (gs:=[999]) rfl ?_|refine ab [999] (af 5 rfl) rfl ?_))
   refine aw [] (ru hP s3 hF3.ta hfa (by rw[hF3.vals];exact hI.vo) hu2.1 hpu hq hr hval) rfl rfl rfl rfl (by kernel_rfl) ld ⟨⟨0,_,by simp,rfl,ak _ _ _,av⟩,an⟩ (λ _=>rfl) ?_;rintro _ H' ⟨fs',row',rfl,hF',hk'⟩;refine⟨cP rfl (cF _ _),?_⟩;refine bY kU ?_;refine ai ?_;refine aa (ae [] rfl ?_);have hlk:=sy hu2.1 hpu;have hco:=hF3.cost;refine⟨⟨j+1,bj par3 u none,fQ val3 u (4611686018427387904-val3 u),{ s3 with fs:=fs',rm:=s3.rm.set r (val3 u),k:=s3.k+1 }⟩,⟨?_,rfl,rfl,rfl,rfl,rfl,rfl,an⟩,aH.refl,⟨hjW,⟨⟨row',hF'⟩,hF3.ta.settle hP hu2.1 hpu hq hr hval,hF3.vals,hF3.un,hF3.w,λ z w hz=>?_,?_⟩⟩,?_⟩
   ·show some (Value.int .i64 (IntKind.i64.wrap ((j:Int)+1)))=_;rw[cv (by omega)];rfl
   ·by_cases e:z=u
    ·subst e;simp only[bj,if_true];refine⟨fun h=>(by cases h),fun ⟨h1,h2⟩=>?_⟩;rw[hu2.2] at h1;simp only[Option.some.injEq] at h1
     rcases h2 with h2|⟨_,j',hj',hz'⟩
     ·omega
     ·have e1:=(Gv.1 hu);have e2:=(Gv.1 hz');have:=(List.getElem_inj hWd).1 (e1.2.trans e2.2.symm);have hj2:j+1<=j':=hj';omega
    ·simp only[bj,if_neg e];rw[hF3.sub z w hz];refine⟨λ ⟨h1,h2⟩=>⟨h1,?_⟩,λ ⟨h1,h2⟩=>⟨h1,?_⟩⟩
     ·rcases h2 with h2|⟨h2,j',hj',hz'⟩
      ·exact .inl h2
      ·refine .inr ⟨h2,j',?_,hz'⟩
       rcases Nat.lt_or_ge j j' with h3|h3
       ·exact h3
       ·have:j'=j:=by omega
        subst this;rw[hu] at hz';simp only[Gs] at hz';exact absurd hz'.symm e
     ·rcases h2 with h2|⟨h2,j',hj',hz'⟩
      ·exact .inl h2
      ·exact .inr ⟨h2,j',Nat.le_of_succ_le hj',hz'⟩
   ·rw[<- hlk,HF,G8] at hco;have h1:s3.cost=s3.k+s3.fs.k:=rfl;show s3.k+1+fs'.k+_*ig (bj par3 u none) P.n<=_;omega
   ·show W.length-(j+1)<W.length-j;omega
  ·obtain rfl:j=W.length:=by omega
   refine aa (ae [] rfl ?_);refine⟨⟨i+1,par3,val3,s3⟩,⟨?_,rfl,rfl,rfl,an⟩,aH.refl,⟨by show i+1<=P.n+1;omega,⟨hF3.fa,hF3.ta,hF3.vals,hF3.un,hF3.w,λ u w hu=>?_,hF3.cost⟩⟩,?_⟩
   ·show some (Value.int .i64 (IntKind.i64.wrap ((i:Int)+1)))=_;rw[cv (by omega)];rfl
   ·rw[hF3.sub u w hu];refine⟨λ ⟨h1,h2⟩=>⟨h1,?_⟩,λ ⟨h1,h2⟩=>⟨h1,.inl h2⟩⟩
    rcases h2 with h2|⟨_,j',hj',hz'⟩
    ·exact h2
    ·have:=(Gv.1 hz').1;omega
   ·show P.n+1-(i+1)<P.n+1-i;omega
 ·have hi2:i=P.n+1:=by omega
  refine bJ mW (bc ?_);have hlk:=qi par P.n;have hco:=hF1.cost;refine⟨_,rfl,par1,val1,s1,rfl,hF1.ta,λ u hu=>?_,hF1.w,?_⟩
  ·cases hp:par1 u with
   |none=>rfl
   |some w=>
    obtain⟨h1,h2⟩:=(hF1.sub u w hu).1 hp;obtain⟨q,r,_,h4,h5,_⟩:=hI.ta.link u w hu h1;have h6:=gU hP.right (fD hP (Gu h4)).1;have h7:=hP.nodes;have h8:i<=w:=h2;omega
  ·rw[<- hKS] at hco ⊢;have h1:KS*ig par P.n<=KS*(P.n+1):=Ih _ hlk;omega
end
end Go.Proofs.YtmcnpaelaieniaaGreatDoor
