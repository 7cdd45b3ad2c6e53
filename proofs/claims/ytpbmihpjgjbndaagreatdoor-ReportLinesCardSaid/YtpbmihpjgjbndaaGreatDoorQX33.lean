/- The engine and the words that all chapters share: several texts in one. -/
import Derived.Test.YtpbmihpjgjbndaaGreatDoorTreY
/- The engine by trees: a whole run, step by step. -/
set_option linter.unusedVariables false
set_option linter.unusedSimpArgs false
namespace Go.Proofs.YtpbmihpjgjbndaaGreatDoor
open Go.RowKit
inductive TR (N:a8) (L:Nat→List Nat) (least:Int):List Int→List (List Nat×Int)→List Int→Prop
 |stop {tr:List Int} {pos:List Nat}:PI N L least tr pos []→ke L pos N.src.toNat→TR N L least tr [] tr
 |walk {tr tr':List Int} {pos W:List Nat} {ws:List (List Nat×Int)}:PI N L least tr pos W→cq N W=N.snk.toNat→TR N L least (bC (bS tr W) W tr) ws tr'→TR N L least tr ((W,bS tr W)::ws) tr'
def cX (n:Nat):Nat:=5*cG (n+1)+17*(n+1)+2
def cS (n:Nat):Nat:=15*cG (n+1)+87*(n+1)+7
section
variable {P:EP} {L:Nat→List Nat} {lv:Nat→Int} {gv:Nat→Nat} {rm0 tr:List Int} {pos:List Nat} {par:OV} {val:Nat→Int}
structure RS where
 ws:List (List Nat×Int)
 f:List Int
 tr:List Int
 pos:List Nat
 par:OV
 val:Nat→Int
 s:ES
def zA (P:EP) (L:Nat→List Nat) (gv:Nat→Nat) (rm0 tr:List Int) (pos:List Nat) (par:OV) (s:ES) (H':Heap):Prop:=
 ∃ t:RS,H'=eb P t.s∧TR P.N L P.least tr t.ws t.tr∧gO P L gv rm0 t.tr t.pos t.par t.val t.s∧aH P.N t.f∧t.tr=aM (P.N.arcs.zip t.f)∧t.s.w=s.w+t.ws.length∧
   t.s.cost+cS P.n*bT L P.n t.pos+cX P.n*fD par P.n≤s.cost+cS P.n*bT L P.n pos+cX P.n*fD t.par P.n+(cG (P.n+1)+5*(P.n+1)+1)
structure zD (P:EP) (L:Nat→List Nat) (gv:Nat→Nat) (rm0 tr:List Int) (pos:List Nat) (par:OV) (s:ES) (t:RS):Prop where
 acc:∀ ws tr',TR P.N L P.least t.tr ws tr'→TR P.N L P.least tr (t.ws++ws) tr'
 ti:gO P L gv rm0 t.tr t.pos t.par t.val t.s
 pi:PI P.N L P.least t.tr t.pos []
 room:qW P t.par t.val
 flow:aH P.N t.f
 tre:t.tr=aM (P.N.arcs.zip t.f)
 w:t.s.w=s.w+t.ws.length
 cost:t.s.cost+cS P.n*bT L P.n t.pos+cX P.n*fD par P.n≤s.cost+cS P.n*bT L P.n pos+cX P.n*fD t.par P.n
set_option maxHeartbeats 1000000 in
theorem yZ (hP:iB P L lv gv) (hle:1≤P.least) (s:ES) (hI:gO P L gv rm0 tr pos par val s) (hPI:PI P.N L P.least tr pos []) (hroom:qW P par val) {f:List Int} (hf:aH P.N f) (he:tr=aM (P.N.arcs.zip f)):
 Fn 247 [.pointer (some ⟨P.pe,0,none⟩)] (aR (eb P s)) ([P.sg]++eb P s) fun _ H'=>zA P L gv rm0 tr pos par s H':=by
 have hN:=hP.small
 have hsr:=hP.right.src
 have hsk:=hP.right.snk
 have hdf:=hP.right.diff
 have hnn:=hP.nodes
 obtain⟨s0,hs0⟩:∃ x,x=P.N.src.toNat:=⟨_,rfl⟩
 obtain⟨k0,hk0⟩:∃ x,x=P.N.snk.toNat:=⟨_,rfl⟩
 have hs1:P.N.src=(s0:Int):=by omega
 have hk1:P.N.snk=(k0:Int):=by omega
 have hsN:s0<P.n+1:=by omega
 have hkN:k0<P.n+1:=by omega
 generalize hM:aR _=M
 refine aS Tryz.func247 rfl rfl fun w0=>?_
 refine bA ju ?_
 refine au ?_
 refine cN (σ:=RS) (fun _=>[(0,.pointer (some ⟨P.pe,0,none⟩))]) (fun t=>kJ P t.s) (fun t=>zD P L gv rm0 tr pos par s t) (fun t=>2*bT L P.n t.pos+(P.n+2-fD t.par P.n))
  ⟨[],f,tr,pos,par,val,s⟩ ⟨rfl,trivial⟩ aK.refl ⟨fun _ _ h=>h,hI,hPI,hroom,hf,he,rfl,Nat.le_refl _⟩ ?_
 rintro⟨ws,f1,tr1,pos1,par1,val1,s1⟩ hR
 have hti:=hR.ti
 have hpi:=hR.pi
 have hrm:=hR.room
 have hw1:=hR.w
 have hco:=hR.cost
 simp only at hti hpi hrm hw1 hco ⊢
 have hlk:=m7 par1 P.n
 refine au (ad (aa ?_))
 (repeat' (first
  |refine ak (gs:=[999]) rfl ?_
  |refine ab [999] (af 5 rfl rfl rfl rfl) rfl ?_))
 refine bY (aK.re (A:=P.fo s1.fs++[P.sg,P.pc s1.k s1.w,P.rc s1.rm,P.lc s1.vals,P.uc s1.un]) (R:=P.rows s1.un) [5,0,1,2,3,4,6,7,8] rfl (by decide)) ?_
 refine ao [999] (ir P s1.k s1.w) rfl rfl rfl rfl (by kernel_rfl) aK.refl trivial (fun _=>rfl) ?_
 rintro v0 H' rfl
 refine⟨rfl,?_⟩
 refine bY (aK.re (A:=[P.pc (s1.k+1) s1.w]++(P.fo s1.fs++[P.sg,P.rc s1.rm,P.lc s1.vals,P.uc s1.un])) (R:=P.rows s1.un) [1,2,3,4,5,0,6,7,8] rfl (by decide)) ?_
 refine ai ?_
 obtain⟨row,hF⟩:=hti.fa
 obtain⟨p,hp⟩:=hF.path s0 hsN
 refine ad ?_
 refine bp 11 [(0,true),(1,true),(2,true),(3,true),(4,true),(5,true),(6,true),(7,true),(8,true),(9,false),(10,true)] [5] (by kernel_rfl) (by decide) rfl ?_
 (repeat' (first
  |refine aZ (gs:=[999]) rfl rfl ?_
  |refine aj [999] rfl (af 0 rfl rfl rfl rfl) rfl ?_))
 refine cE 13 (v':=.int .i64 (s0:Int)) rfl (congrArg (Value.int .i64) hs1) ?_
 refine a6 rfl ?_
 refine ao [] (yW hF hN hsN hp) rfl rfl rfl rfl (by kernel_rfl) aK.refl trivial (fun _=>rfl) ?_
 rintro _ H' ⟨fs2,row2,y,rfl,rfl,hF2,hpy,hk2⟩
 refine⟨rfl,ai ⟨⟨[5],by decide,rfl⟩,?_⟩⟩
 refine aZ (gs:=[999]) rfl rfl ?_
 refine bv ?_
 refine ai ?_
 obtain⟨s2,hs2⟩:∃ x:ES,x={ s1 with k:=s1.k+1,fs:=fs2 }:=⟨_,rfl⟩
 refine bA (K:=kJ P s2) (by rw[hs2];exact aK.refl) ?_
 have hI2:gO P L gv rm0 tr1 pos1 par1 val1 s2:=by rw[hs2];exact⟨⟨_,hF2⟩,hti.ta,hti.vo,hti.tb⟩
 have hc2:s2.cost≤s1.cost+cG (P.n+1)+5*(P.n+1)+1:=by
  rw[hs2]
  show s1.k+1+fs2.k≤s1.k+s1.fs.k+_+_+1
  omega
 have hw2:s2.w=s1.w:=by rw[hs2]
 clear hs2
 have hyn:par1 y=none:=hp.root_last hpy
 have hyp:y∈p:=List.mem_of_getLast? hpy
 have hpl:∀ z∈p,z≤P.n:=fun z hz=>by have:=aI.lt hF.lt hp hsN z hz;omega
 have hyl:=hpl y hyp
 refine au (ad (aa ?_))
 (repeat' (first
  |refine ak (gs:=[999]) rfl ?_
  |refine ab [999] (af 5 rfl rfl rfl rfl) rfl ?_))
 refine aw 24 (v':=.int .i64 (k0:Int)) rfl (congrArg (Value.int .i64) hk1) ?_
 (repeat' (first
  |refine ak (gs:=[999]) rfl ?_
  |refine ab [999] (af 5 rfl rfl rfl rfl) rfl ?_))
 refine ai ?_
 refine aC rfl (fun heq=>?_) (fun hneq=>?_)
 ·have hyk:y=k0:=by omega
  subst hyk
  refine aa ?_
  (repeat' (first
   |refine ak (gs:=[999]) rfl ?_
   |refine ab [999] (af 5 rfl rfl rfl rfl) rfl ?_))
  refine ao [] (wI hP hle s2 hI2 hpi hrm hR.flow hR.tre (p:=p) (by rw[← hs0];exact hp) (by rw[← hk0];exact hpy)) rfl rfl rfl rfl (by kernel_rfl) jd ⟨⟨0,_,by simp,rfl,aq _ _ _,ay⟩,trivial⟩ (fun _=>rfl) ?_
  rintro _ H' ⟨u,pos2,par2,val2,s3,W,rfl,hu,hPW,hend,hti2,hpi2,hrm2,hrem2,hlk2,hw3,hc3⟩
  refine⟨cR rfl (cJ _ _),?_⟩
  refine bY jr ?_
  refine ai ?_
  obtain⟨_,_,_,_,_,_,⟨f2,hf2,hf2e⟩,_⟩:=fW hP.right hP.graded hle hR.flow hR.tre hPW hend
  have g1:cS P.n*bT L P.n pos1=cS P.n*bT L P.n pos2+cS P.n*u:=by rw[← hrem2,Nat.mul_add]
  have g2:cX P.n*fD par1 P.n=cX P.n*fD par2 P.n+cX P.n*u:=by rw[← hlk2,Nat.mul_add]
  have g3:cS P.n*u=cX P.n*u+u*(10*cG (P.n+1)+70*(P.n+1)+5):=by
   rw[Nat.mul_comm u,← Nat.add_mul];congr 1;unfold cS cX;omega
  have g4:u*(10*cG (P.n+1)+70*(P.n+1)+5)=u*(9*cG (P.n+1)+65*(P.n+1)+4)+u*(cG (P.n+1)+5*(P.n+1)+1):=by
   rw[← Nat.mul_add];congr 1;omega
  have g5:1*(cG (P.n+1)+5*(P.n+1)+1)≤u*(cG (P.n+1)+5*(P.n+1)+1):=Nat.mul_le_mul_right _ hu
  refine⟨⟨ws++[(W,bS tr1 W)],f2,bC (bS tr1 W) W tr1,pos2,par2,val2,s3⟩,⟨rfl,trivial⟩,aK.refl,⟨fun ws' tr' h=>?_,hti2,hpi2,hrm2,hf2,hf2e,?_,?_⟩,?_⟩
  ·show TR P.N L P.least tr ((ws++[(W,bS tr1 W)])++ws') tr'
   rw[List.append_assoc]
   exact hR.acc _ _ (TR.walk hPW hend h)
  ·show s3.w=s.w+(ws++[(W,bS tr1 W)]).length
   rw[List.length_append,List.length_singleton];omega
  ·show s3.cost+cS P.n*bT L P.n pos2+cX P.n*fD par P.n≤s.cost+cS P.n*bT L P.n pos+cX P.n*fD par2 P.n
   omega
  ·show 2*bT L P.n pos2+(P.n+2-fD par2 P.n)<2*bT L P.n pos1+(P.n+2-fD par1 P.n)
   omega
 ·have hyk:y≠k0:=by omega
  refine ad (aa ?_)
  (repeat' (first
   |refine ak (gs:=[999]) rfl ?_
   |refine ab [999] (af 5 rfl rfl rfl rfl) rfl ?_))
  refine ao [] (xh hP s2 hI2 hpi hyl hyn) rfl rfl rfl rfl (by kernel_rfl) jd ⟨⟨0,_,by simp,rfl,aq _ _ _,ay⟩,trivial⟩ (fun _=>rfl) ?_
  rintro _ H' ⟨b,s3,rfl,rfl,pos2,hpi2,hw3,hrem3,hb⟩
  refine⟨cR rfl (cJ _ _),?_⟩
  refine bY jr ?_
  (repeat' (first
   |refine ak (gs:=[999]) rfl ?_
   |refine ab [999] (af 5 rfl rfl rfl rfl) rfl ?_))
  refine ai ?_
  obtain⟨d,hd⟩:∃ d,bT L P.n pos1=bT L P.n pos2+d:=⟨bT L P.n pos1-bT L P.n pos2,by omega⟩
  have g1:cS P.n*bT L P.n pos1=cS P.n*bT L P.n pos2+cS P.n*d:=by rw[hd,Nat.mul_add]
  have g2:d≤cS P.n*d:=Nat.le_mul_of_pos_left d (by unfold cS;omega)
  rcases hb with ⟨rfl,q,r,hq,hr,hlr,hti2,hc3⟩|⟨rfl,hdead,hti2,hc3⟩
  ·refine bo rfl (av ?_)
   have hlk2:=vA (w:=d9 P.N r) hyl hyn
   have g3:cX P.n*(fD par1 P.n+1)=cX P.n*fD par1 P.n+cX P.n:=by rw[Nat.mul_add,Nat.mul_one]
   have g4:cX P.n=5*cG (P.n+1)+17*(P.n+1)+2:=rfl
   have hlk3:=m7 (aT par1 y (some (d9 P.N r))) P.n
   refine⟨⟨ws,f1,tr1,pos2,aT par1 y (some (d9 P.N r)),eE val1 y (tr1.getD r 0-4611686018427387904),s3⟩,⟨rfl,trivial⟩,aK.refl,⟨hR.acc,hti2,hpi2,fun u w hu hw=>?_,hR.flow,hR.tre,?_,?_⟩,?_⟩
   ·simp only[eE,List.mem_singleton]
    by_cases e:u=y
    ·subst e
     rw[if_pos rfl,hti.ta.free u hu hyn];omega
    ·rw[if_neg e]
     exact hrm u w hu (by simpa [aT,e] using hw)
   ·show s3.w=s.w+ws.length
    omega
   ·show s3.cost+cS P.n*bT L P.n pos2+cX P.n*fD par P.n≤s.cost+cS P.n*bT L P.n pos+cX P.n*fD (aT par1 y (some (d9 P.N r))) P.n
    rw[hlk2,g3]
    omega
   ·show 2*bT L P.n pos2+(P.n+2-fD (aT par1 y (some (d9 P.N r))) P.n)<2*bT L P.n pos1+(P.n+2-fD par1 P.n)
    omega
  ·refine bI rfl ?_
   refine ad (aa ?_)
   (repeat' (first
    |refine ak (gs:=[999]) rfl ?_
    |refine ab [999] (af 5 rfl rfl rfl rfl) rfl ?_))
   refine aw 38 (v':=.int .i64 (s0:Int)) rfl (congrArg (Value.int .i64) hs1) ?_
   (repeat' (first
    |refine ak (gs:=[999]) rfl ?_
    |refine ab [999] (af 5 rfl rfl rfl rfl) rfl ?_))
   refine ai ?_
   refine aC rfl (fun heq=>?_) (fun hns=>?_)
   ·have hys:y=s0:=by omega
    refine bA kn (aB ⟨_,rfl,⟨ws,f1,tr1,pos2,par1,val1,s3⟩,rfl,?_,hti2,hR.flow,hR.tre,?_,?_⟩)
    ·have:=hR.acc [] tr1 (TR.stop hpi2 (by rw[← hs0,← hys];exact hdead))
     rwa [List.append_nil] at this
    ·show s3.w=s.w+ws.length
     omega
    ·show s3.cost+cS P.n*bT L P.n pos2+cX P.n*fD par P.n≤s.cost+cS P.n*bT L P.n pos+cX P.n*fD par1 P.n+_
     omega
   ·have hys:y≠s0:=by omega
    obtain⟨v0,hv0n,hpv⟩:∃ v0,v0≤P.n∧par1 v0=some y:=by
     obtain⟨A,z,hAz⟩:=hp.ne
     rw[hAz,List.getLast?_append] at hpy
     simp only[List.getLast?_singleton,Option.some_or,Option.some.injEq] at hpy
     subst hpy
     rcases List.eq_nil_or_concat A with rfl|⟨B,b,rfl⟩
     ·rw[hAz] at hp
      exact absurd hp.1.symm hys
     ·rw[List.concat_eq_append] at hAz
      refine⟨b,hpl b (by rw[hAz];simp),aI.next (A:=B) (B:=[]) (x:=s0) (by rw[hAz] at hp;simpa using hp)⟩
    refine aa ?_
    (repeat' (first
     |refine ak (gs:=[999]) rfl ?_
     |refine ab [999] (af 5 rfl rfl rfl rfl) rfl ?_))
    refine ao [] (xx hP s3 hti2 hpi2 hyl hdead (by rw[← hk0];exact hyk) hv0n hpv) rfl rfl rfl rfl (by kernel_rfl) jd ⟨⟨0,_,by simp,rfl,aq _ _ _,ay⟩,trivial⟩ (fun _=>rfl) ?_
    rintro _ H' ⟨u,pos4,par4,val4,s4,rfl,hu,hC,hc4⟩
    refine⟨cR rfl (cJ _ _),?_⟩
    refine bY jr ?_
    refine ai ?_
    have hrem4:=hC.rem
    have hlk4:=hC.lk
    have hw4:=hC.w
    have e1:cS P.n*bT L P.n pos2=cS P.n*bT L P.n pos4+cS P.n*u:=by rw[← hrem4,Nat.mul_add]
    have e2:cX P.n*fD par1 P.n=cX P.n*fD par4 P.n+cX P.n*u:=by rw[← hlk4,Nat.mul_add]
    have e3:cS P.n*u=cX P.n*u+u*(10*cG (P.n+1)+70*(P.n+1)+5):=by
     rw[Nat.mul_comm u,← Nat.add_mul];congr 1;unfold cS cX;omega
    have e4:u*(10*cG (P.n+1)+70*(P.n+1)+5)=u*(2*cG (P.n+1)+12*(P.n+1)+1)+u*(8*cG (P.n+1)+58*(P.n+1)+4):=by
     rw[← Nat.mul_add];congr 1;omega
    have e5:1*(8*cG (P.n+1)+58*(P.n+1)+4)≤u*(8*cG (P.n+1)+58*(P.n+1)+4):=Nat.mul_le_mul_right _ hu
    refine⟨⟨ws,f1,tr1,pos4,par4,val4,s4⟩,⟨rfl,trivial⟩,aK.refl,⟨hR.acc,hC.ti,hC.pi,fun z w hz hw=>?_,hR.flow,hR.tre,?_,?_⟩,?_⟩
    ·obtain⟨h1,h2⟩:=hC.sub z w hw
     show P.least≤val4 z
     rw[h2]
     exact hrm z w hz h1
    ·show s4.w=s.w+ws.length
     omega
    ·show s4.cost+cS P.n*bT L P.n pos4+cX P.n*fD par P.n≤s.cost+cS P.n*bT L P.n pos+cX P.n*fD par4 P.n
     omega
    ·show 2*bT L P.n pos4+(P.n+2-fD par4 P.n)<2*bT L P.n pos1+(P.n+2-fD par1 P.n)
     omega
end
end Go.Proofs.YtpbmihpjgjbndaaGreatDoor
/- The engine by trees: all that is linked still is settled, step by step. -/
set_option linter.unusedVariables false
set_option linter.unusedSimpArgs false
namespace Go.Proofs.YtpbmihpjgjbndaaGreatDoor
open Go.RowKit
section
variable {P:EP} {L:Nat→List Nat} {lv:Nat→Int} {gv:Nat→Nat} {rm0 tr:List Int} {pos:List Nat} {par:OV} {val:Nat→Int}
structure zM where
 i:Nat
 par:OV
 val:Nat→Int
 s:ES
structure zy (P:EP) (L:Nat→List Nat) (gv:Nat→Nat) (rm0 tr:List Int) (pos:List Nat) (par:OV) (s:ES) (ok:Nat→Nat→Prop) (par':OV) (val':Nat→Int) (s':ES) (i:Nat):Prop where
 fa:∃ row,eC (P.n+1) s'.fs par' val' row
 ta:TA P L rm0 tr pos par' val' s'.rm
 vals:s'.vals=s.vals
 un:s'.un=s.un
 w:s'.w=s.w
 sub:∀ u w,u≤P.n→(par' u=some w↔par u=some w∧ok u w)
 cost:s'.cost+(2*cG (P.n+1)+11*(P.n+1)+1)*fD par' P.n≤s.cost+(2*cG (P.n+1)+11*(P.n+1)+1)*fD par P.n+i
set_option maxHeartbeats 1000000 in
theorem wD (hP:iB P L lv gv) (s:ES) (hI:gO P L gv rm0 tr pos par val s):
 Fn 248 [.pointer (some ⟨P.pe,0,none⟩)] (aR (eb P s)) ([P.sg]++eb P s) fun _ H'=>∃ par' val' s',H'=eb P s'∧TA P L rm0 tr pos par' val' s'.rm∧(∀ u,u≤P.n→par' u=none)∧s'.w=s.w∧s'.cost≤s.cost+(2*cG (P.n+1)+11*(P.n+1)+1)*(P.n+1)+(P.n+1):=by
 have hN:=hP.small
 have hul:=hI.tb.len
 obtain⟨KS,hKS⟩:∃ x,x=2*cG (P.n+1)+11*(P.n+1)+1:=⟨_,rfl⟩
 generalize hM:aR _=M
 refine aS Tryz.func248 rfl rfl fun w0=>?_
 refine bA ju ?_
 refine ad (aa ?_)
 (repeat' (first
  |refine ak (gs:=[999]) rfl ?_
  |refine ab [999] (af 5 rfl rfl rfl rfl) rfl ?_))
 refine ai ?_
 refine au ?_
 refine cN (σ:=zM) (fun t=>[(11,.int .i64 (t.i:Int)),(10,.int .i64 ((P.n+1:Nat):Int)),(9,.slice (some ⟨P.gu,0,none⟩) (P.n+1) (P.n+1)),(0,.pointer (some ⟨P.pe,0,none⟩))]) (fun t=>kJ P t.s)
  (fun t=>t.i≤P.n+1∧zy P L gv rm0 tr pos par s (fun _ w=>t.i≤w) t.par t.val t.s t.i) (fun t=>P.n+1-t.i) ⟨0,par,val,s⟩ ⟨rfl,rfl,rfl,rfl,trivial⟩ aK.refl
  ⟨Nat.zero_le _,⟨hI.fa,hI.ta,rfl,rfl,rfl,fun u w _=>⟨fun h=>⟨h,Nat.zero_le _⟩,fun h=>h.1⟩,Nat.le_refl _⟩⟩ ?_
 rintro⟨i,par1,val1,s1⟩ ⟨hi,hF1⟩
 simp only at hi hF1 ⊢
 refine ad (aa (ae [] rfl ?_))
 refine ad ?_
 refine aC rfl (fun hlt=>av ?_) (fun hge=>?_)
 ·have hin:i≤P.n:=by omega
  obtain⟨A,c,W,hun,hWd,hWm,hWl⟩:=hI.tb.get hin
  have hun1:s1.un[i]?=some ⟨A,c,gb W⟩:=by rw[hF1.un];exact hun
  refine ad (au ?_)
  refine ad (aa ?_)
  refine ab [999] (aJ rfl rfl rfl rfl rfl (show i<P.n+1 by omega)) rfl ?_
  refine ab [999] (aD (v:=.slice A (gb W).length c) 8 rfl rfl rfl (show (s1.un.map cH)[i]?=_ by rw[List.getElem?_map,hun1];rfl)) rfl ?_
  rw[da]
  refine ae [] rfl ?_
  refine ad (aa ?_)
  refine ak (gs:=[999]) rfl ?_
  refine bY (aK.re (A:=P.fo s1.fs++[P.sg,P.pc s1.k s1.w,P.rc s1.rm,P.lc s1.vals,P.uc s1.un]) (R:=P.rows s1.un) [5,0,1,2,3,4,6,7,8] rfl (by decide)) ?_
  refine ao [999] (ir P s1.k s1.w) rfl rfl rfl rfl (by kernel_rfl) aK.refl trivial (fun _=>rfl) ?_
  rintro v0 H' rfl
  refine⟨rfl,?_⟩
  refine bY (aK.re (A:=[P.pc (s1.k+1) s1.w]++(P.fo s1.fs++[P.sg,P.rc s1.rm,P.lc s1.vals,P.uc s1.un])) (R:=P.rows s1.un) [1,2,3,4,5,0,6,7,8] rfl (by decide)) ?_
  refine ai ?_
  obtain⟨s2,hs2⟩:∃ x:ES,x={ s1 with k:=s1.k+1 }:=⟨_,rfl⟩
  refine bA (K:=kJ P s2) (by rw[hs2];exact aK.refl) ?_
  have hF2:zy P L gv rm0 tr pos par s (fun u w=>i<w∨w=i∧∃ j,0≤j∧W[j]?=some u) par1 val1 s2 (i+1):=by
   rw[hs2]
   refine⟨hF1.fa,hF1.ta,hF1.vals,hF1.un,hF1.w,fun u w hu=>?_,?_⟩
   ·rw[hF1.sub u w hu]
    refine⟨fun ⟨h1,h2⟩=>⟨h1,?_⟩,fun ⟨h1,h2⟩=>⟨h1,by rcases h2 with h2|h2<;>omega⟩⟩
    rcases Nat.lt_or_ge i w with h3|h3
    ·exact .inl h3
    ·have:w=i:=by omega
     subst this
     obtain⟨j,hj,hju⟩:=List.mem_iff_getElem.1 ((hWm u).2 ⟨hu,h1⟩)
     exact .inr ⟨rfl,j,Nat.zero_le _,by rw[List.getElem?_eq_getElem hj,hju]⟩
   ·have:=hF1.cost
    show s1.k+1+s1.fs.k+_≤_
    have h2:s1.cost=s1.k+s1.fs.k:=rfl
    omega
  clear hs2
  refine ad (aa (ae [] rfl ?_))
  refine au ?_
  refine cN (σ:=zM) (fun t=>[(19,.int .i64 (t.i:Int)),(18,.int .i64 (W.length:Int)),(17,.slice A W.length c),(11,.int .i64 (i:Int)),(10,.int .i64 ((P.n+1:Nat):Int)),(9,.slice (some ⟨P.gu,0,none⟩) (P.n+1) (P.n+1)),(0,.pointer (some ⟨P.pe,0,none⟩))]) (fun t=>kJ P t.s)
   (fun t=>t.i≤W.length∧zy P L gv rm0 tr pos par s (fun u w=>i<w∨w=i∧∃ j,t.i≤j∧W[j]?=some u) t.par t.val t.s (i+1)) (fun t=>W.length-t.i) ⟨0,par1,val1,s2⟩ ⟨rfl,rfl,rfl,rfl,rfl,rfl,rfl,trivial⟩ aK.refl
   ⟨Nat.zero_le _,hF2⟩ ?_
  clear hF1 hF2
  rintro⟨j,par3,val3,s3⟩ ⟨hj,hF3⟩
  simp only at hj hF3 ⊢
  refine ad (aa (ae [] rfl ?_))
  refine ad ?_
  refine aC rfl (fun hlt3=>av ?_) (fun hge3=>aV ?_)
  ·have hjW:j<W.length:=by omega
   obtain⟨u,hu⟩:∃ u,W[j]?=some u:=⟨W[j],List.getElem?_eq_getElem hjW⟩
   have hu2:=(hWm u).1 (List.mem_of_getElem? hu)
   have hpu:par3 u=some i:=(hF3.sub u i hu2.1).2 ⟨hu2.2,.inr ⟨rfl,j,Nat.le_refl _,hu⟩⟩
   obtain⟨row3,hfa⟩:=hF3.fa
   obtain⟨q,r,hq,hr,hto,hval⟩:=hF3.ta.link u i hu2.1 hpu
   have hun3:s3.un[i]?=some ⟨A,c,gb W⟩:=by rw[hF3.un];exact hun
   refine bO (bh (9+(P.rowsL.length+i)) (tm hun3)) fun ⟨_,_,hA,_⟩=>?_
   obtain⟨g,rfl⟩:=hA (by rw[da];omega)
   refine ad (au ?_)
   refine ad (aa ?_)
   refine ab [] (aJ rfl rfl rfl rfl rfl hjW) rfl ?_
   refine ab [] (aD (9+(P.rowsL.length+i)) rfl rfl (tm hun3) (dh hu)) rfl ?_
   refine ae [] rfl ?_
   refine aa ?_
   (repeat' (first
    |refine ak (gs:=[999]) rfl ?_
    |refine ab [999] (af 5 rfl rfl rfl rfl) rfl ?_))
   refine ao [] (nV hP s3 hF3.ta hfa (by rw[hF3.vals];exact hI.vo) hu2.1 hpu hq hr hval) rfl rfl rfl rfl (by kernel_rfl) jd ⟨⟨0,_,by simp,rfl,aq _ _ _,ay⟩,trivial⟩ (fun _=>rfl) ?_
   rintro _ H' ⟨fs',row',rfl,hF',hk'⟩
   refine⟨cR rfl (cJ _ _),?_⟩
   refine bY jr ?_
   refine ai ?_
   refine aa (ae [] rfl ?_)
   have hlk:=o8 hu2.1 hpu
   have hco:=hF3.cost
   refine⟨⟨j+1,aT par3 u none,eE val3 u (4611686018427387904-val3 u),{ s3 with fs:=fs',rm:=s3.rm.set r (val3 u),k:=s3.k+1 }⟩,⟨?_,rfl,rfl,rfl,rfl,rfl,rfl,trivial⟩,aK.refl,⟨hjW,⟨⟨row',hF'⟩,hF3.ta.settle hP hu2.1 hpu hq hr hval,hF3.vals,hF3.un,hF3.w,fun z w hz=>?_,?_⟩⟩,?_⟩
   ·show some (Value.int .i64 (IntKind.i64.wrap ((j:Int)+1)))=_
    rw[bU (by omega)];rfl
   ·by_cases e:z=u
    ·subst e
     simp only[aT,if_true]
     refine⟨fun h=>(by cases h),fun ⟨h1,h2⟩=>?_⟩
     rw[hu2.2] at h1
     simp only[Option.some.injEq] at h1
     rcases h2 with h2|⟨_,j',hj',hz'⟩
     ·omega
     ·have e1:=(List.getElem?_eq_some_iff.1 hu)
      have e2:=(List.getElem?_eq_some_iff.1 hz')
      have:=(List.getElem_inj hWd).1 (e1.2.trans e2.2.symm)
      have hj2:j+1≤j':=hj'
      omega
    ·simp only[aT,if_neg e]
     rw[hF3.sub z w hz]
     refine⟨fun ⟨h1,h2⟩=>⟨h1,?_⟩,fun ⟨h1,h2⟩=>⟨h1,?_⟩⟩
     ·rcases h2 with h2|⟨h2,j',hj',hz'⟩
      ·exact .inl h2
      ·refine .inr ⟨h2,j',?_,hz'⟩
       rcases Nat.lt_or_ge j j' with h3|h3
       ·exact h3
       ·have:j'=j:=by omega
        subst this
        rw[hu] at hz'
        simp only[Option.some.injEq] at hz'
        exact absurd hz'.symm e
     ·rcases h2 with h2|⟨h2,j',hj',hz'⟩
      ·exact .inl h2
      ·exact .inr ⟨h2,j',Nat.le_of_succ_le hj',hz'⟩
   ·rw[← hlk,Nat.mul_add,Nat.mul_one] at hco
    have h1:s3.cost=s3.k+s3.fs.k:=rfl
    show s3.k+1+fs'.k+_*fD (aT par3 u none) P.n≤_
    omega
   ·show W.length-(j+1)<W.length-j
    omega
  ·obtain rfl:j=W.length:=by omega
   refine aa (ae [] rfl ?_)
   refine⟨⟨i+1,par3,val3,s3⟩,⟨?_,rfl,rfl,rfl,trivial⟩,aK.refl,⟨by show i+1≤P.n+1;omega,⟨hF3.fa,hF3.ta,hF3.vals,hF3.un,hF3.w,fun u w hu=>?_,hF3.cost⟩⟩,?_⟩
   ·show some (Value.int .i64 (IntKind.i64.wrap ((i:Int)+1)))=_
    rw[bU (by omega)];rfl
   ·rw[hF3.sub u w hu]
    refine⟨fun ⟨h1,h2⟩=>⟨h1,?_⟩,fun ⟨h1,h2⟩=>⟨h1,.inl h2⟩⟩
    rcases h2 with h2|⟨_,j',hj',hz'⟩
    ·exact h2
    ·have:=(List.getElem?_eq_some_iff.1 hz').1
     omega
   ·show P.n+1-(i+1)<P.n+1-i
    omega
 ·have hi2:i=P.n+1:=by omega
  refine bA kn (aV ?_)
  have hlk:=m7 par P.n
  have hco:=hF1.cost
  refine⟨_,rfl,par1,val1,s1,rfl,hF1.ta,fun u hu=>?_,hF1.w,?_⟩
  ·cases hp:par1 u with
   |none=>rfl
   |some w=>
    obtain⟨h1,h2⟩:=(hF1.sub u w hu).1 hp
    obtain⟨q,r,_,h4,h5,_⟩:=hI.ta.link u w hu h1
    have h6:=fu hP.right (ez hP (List.mem_of_getElem? h4)).1
    have h7:=hP.nodes
    have h8:i≤w:=h2
    omega
  ·rw[← hKS] at hco ⊢
   have h1:KS*fD par P.n≤KS*(P.n+1):=Nat.mul_le_mul_left _ hlk
   omega
end
end Go.Proofs.YtpbmihpjgjbndaaGreatDoor
