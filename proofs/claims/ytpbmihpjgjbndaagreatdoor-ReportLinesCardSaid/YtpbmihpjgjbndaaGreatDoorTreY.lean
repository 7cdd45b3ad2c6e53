/- The engine by trees: an amount is led, step by step. -/
import Derived.Test.YtpbmihpjgjbndaaGreatDoorQX19
set_option linter.unusedVariables false
set_option linter.unusedSimpArgs false
namespace Go.Proofs.YtpbmihpjgjbndaaGreatDoor
open Go.RowKit
section
variable {P:EP} {L:Nat→List Nat} {lv:Nat→Int} {gv:Nat→Nat} {rm0 tr:List Int} {pos:List Nat} {par:OV} {val:Nat→Int}
theorem sL (hP:iB P L lv gv) {u r:Nat} (h:r∈L u):cU P.N r≤P.n:=by
 have h1:=i7 hP.right (ez hP h).1
 have h2:=hP.nodes
 omega
theorem TA.val_in {rm:List Int} (h:TA P L rm0 tr pos par val rm) {v:Nat} (hv:v≤P.n):0≤val v∧val v≤4611686018427387904∧((par v).isSome→val v<4611686018427387904):=by
 cases hp:par v with
 |none=>have:=h.free v hv hp;exact⟨by omega,by omega,fun h=>by cases h⟩
 |some w=>
  obtain⟨q,r,_,_,_,h4⟩:=h.link v w hv hp
  have:=h.trb r
  exact⟨by omega,by omega,fun _=>by omega⟩
def qW (P:EP) (par:OV) (val:Nat→Int):Prop:=∀ u w,u≤P.n→par u=some w→P.least≤val u
abbrev nU (Aw:Option Addr) (cw:Nat) (wt:List Nat):aO:=.own (.slice Aw wt.length cw) 3 1 wt.length (bL wt)
structure WS where
 u:Nat
 pos:List Nat
 par:OV
 val:Nat→Int
 s:ES
 wt:List Nat
 A:Option Addr
 c:Nat
def zf (P:EP) (L:Nat→List Nat) (gv:Nat→Nat) (rm0 tr:List Int) (pos:List Nat) (par:OV) (s:ES) (H':Heap):Prop:=
 ∃ u pos' par' val' s' W,H'=eb P s'∧1≤u∧PI P.N L P.least tr pos W∧cq P.N W=P.N.snk.toNat∧gO P L gv rm0 (bC (bS tr W) W tr) pos' par' val' s'∧PI P.N L P.least (bC (bS tr W) W tr) pos' []∧qW P par' val'∧
   bT L P.n pos'+u=bT L P.n pos∧fD par' P.n+u=fD par P.n∧s'.w=s.w+1∧s'.cost≤s.cost+u*(9*cG (P.n+1)+65*(P.n+1)+4)
set_option maxHeartbeats 1000000 in
theorem wI (hP:iB P L lv gv) (hle:1≤P.least) (s:ES) (hI:gO P L gv rm0 tr pos par val s) (hPI:PI P.N L P.least tr pos []) (hroom:qW P par val) {f:List Int} (hf:aH P.N f) (he:tr=aM (P.N.arcs.zip f)) {p:List Nat} (hp:aI par P.N.src.toNat p) (hl:p.getLast?=some P.N.snk.toNat):
 Fn 254 [.pointer (some ⟨P.pe,0,none⟩)] (aR (eb P s)) ([P.sg]++eb P s) fun _ H'=>zf P L gv rm0 tr pos par s H':=by
 have hN:=hP.small
 have hsr:=hP.right.src
 have hsk:=hP.right.snk
 have hdf:=hP.right.diff
 have hnn:=hP.nodes
 obtain⟨s0,hs0⟩:∃ x,x=P.N.src.toNat:=⟨_,rfl⟩
 obtain⟨k0,hk0⟩:∃ x,x=P.N.snk.toNat:=⟨_,rfl⟩
 rw[← hs0] at hp
 rw[← hk0] at hl
 have hs1:P.N.src=(s0:Int):=by omega
 have hk1:P.N.snk=(k0:Int):=by omega
 have hsN:s0<P.n+1:=by omega
 have hkN:k0<P.n+1:=by omega
 obtain⟨W,hW⟩:=hI.ta.walk_of hP hp (by omega) hl
 obtain⟨hPW,hend⟩:=hW.pi hs0 hPI (fun _ _ h=>sL hP h) hroom
 obtain⟨hWne,hWlt,hWnd,hWfl,hWlen,hma,⟨f',hf',hf'e⟩,hPI',hmono,_⟩:=fW hP.right hP.graded hle hf he hPW (by rw[hend,hk0])
 have hkn:par k0=none:=hp.root_last hl
 have hkp:k0∈p:=List.mem_of_getLast? hl
 have hPI2:PI P.N L P.least (bC (bS tr W) W tr) pos []:=⟨hPI'.pl,⟨_,rfl⟩,fun _ h=>(by cases h),hPI'.pass⟩
 have hb:=dX hP.right hf'.toRanged
 rw[← hf'e] at hb
 have hget:∀ u r,r∈L u→(bC (bS tr W) W tr).getD r 0=tr.getD r 0-if r∈W then bS tr W else 0:=by
  intro u r hr
  rw[eU (a:=bS tr W) (by rw[he];exact fM hf.len) hWlt hWnd r]
  have:bi r∉W:=by
   intro hin
   have g1:=(hP.graded.ok _ _ hr)
   have g2:=(hP.graded.ok _ _ (hPW.mem _ hin)).2.2
   have g3:=g1.2.2
   rw[f0,eJ] at g2
   rw[← g1.2.1] at g3
   omega
  rw[if_neg this];omega
 have hpn:∀ z∈p,z≤P.n:=by
  intro z hz
  rcases hW.all z hz with e|⟨r,hr,e⟩
  ·omega
  ·rw[← e];exact sL hP (hPW.mem r hr)
 obtain⟨a,ha⟩:∃ x,x=bS tr W:=⟨_,rfl⟩
 obtain⟨tr',htr'⟩:∃ x,x=bC (bS tr W) W tr:=⟨_,rfl⟩
 rw[← htr'] at hPI2 hb hget
 rw[← ha] at hget hma
 have hab:1≤a∧a≤4611686018427387903:=by
  obtain⟨r,_,h1⟩:=iU (rm:=tr) hWne
  have:=hI.ta.trb r
  omega
 obtain⟨row,hF⟩:=hI.fa
 generalize hM:aR _=M
 refine aS Tryz.func254 rfl rfl fun w0=>?_
 refine bA ju ?_
 refine ad (aa ?_)
 (repeat' (first
  |refine ak (gs:=[999]) rfl ?_
  |refine ab [999] (af 5 rfl rfl rfl rfl) rfl ?_))
 refine ai ?_
 refine aP 2 (v':=.int .i64 (s0:Int)) rfl (congrArg (Value.int .i64) hs1) ?_
 refine ad ?_
 refine bp 12 [(0,true),(1,true),(2,true),(3,true),(4,true),(5,true),(6,true),(7,true),(8,true),(9,false),(10,false),(11,true)] [5] (by kernel_rfl) (by decide) rfl ?_
 (repeat' (first
  |refine aZ (gs:=[999]) rfl rfl ?_
  |refine aj [999] rfl (af 0 rfl rfl rfl rfl) rfl ?_))
 refine a6 rfl ?_
 refine ao [] (sx hF hN hsN hp) rfl rfl rfl rfl (by kernel_rfl) aK.refl trivial (fun _=>rfl) ?_
 rintro _ H' ⟨fs1,row1,y,rfl,rfl,hF1,hmin,hyp,hk1'⟩
 refine⟨rfl,ai ⟨⟨[5],by decide,rfl⟩,?_⟩⟩
 have hya:val y=a:=by
  rw[ha]
  exact hW.most hWne hyp hmin.le (fun r=>by rw[hI.ta.free k0 (by omega) hkn];have:=hI.ta.trb r;omega)
 refine a6 rfl ?_
 refine ao [] (pq hF1 hN (show y<P.n+1 by have:=hpn y hyp;omega)) rfl rfl rfl rfl (by kernel_rfl) aK.refl trivial (fun _=>rfl) ?_
 rintro _ H' ⟨fs2,rfl,rfl,hF2,hk2'⟩
 refine⟨rfl,ai ⟨⟨[5],by decide,rfl⟩,?_⟩⟩
 refine aZ (gs:=[999]) rfl rfl ?_
 refine bv ?_
 refine ai ?_
 refine aP 3 (v':=.int .i64 a) rfl (congrArg (Value.int .i64) hya) ?_
 refine ad (aa ?_)
 (repeat' (first
  |refine ak (gs:=[999]) rfl ?_
  |refine ab [999] (af 5 rfl rfl rfl rfl) rfl ?_))
 have hna:IntKind.i64.wrap (0-a)=-a:=(bU (by omega)).trans (by omega)
 refine aw 29 (v':=.int .i64 (-a)) rfl (congrArg (Value.int .i64) hna) ?_
 refine ao [] (sv hF2 hN hsN hp (d:=-a) (by omega) (by intro z hz;have h1:=hmin.le z hz;have h2:=(hI.ta.val_in (hpn z hz)).2.1;omega)) rfl rfl rfl rfl (by kernel_rfl) aK.refl trivial (fun _=>rfl) ?_
 rintro _ H' ⟨fs3,row3,rfl,hF3,hk3'⟩
 refine⟨rfl,?_⟩
 (repeat' (first
  |refine ak (gs:=[999]) rfl ?_
  |refine ab [999] (af 5 rfl rfl rfl rfl) rfl ?_))
 refine ai ?_
 refine ad ?_
 refine bp 11 [(0,true),(1,true),(2,true),(3,true),(4,true),(5,true),(6,true),(7,true),(8,true),(9,true),(10,false)] [5] (by kernel_rfl) (by decide) rfl ?_
 (repeat' (first
  |refine aZ (gs:=[999]) rfl rfl ?_
  |refine aj [999] rfl (af 0 rfl rfl rfl rfl) rfl ?_))
 refine cE 39 (v':=.int .i64 (k0:Int)) rfl (congrArg (Value.int .i64) hk1) ?_
 refine a6 rfl ?_
 have hkfr:=hI.ta.free k0 (by omega) hkn
 refine ao [] (sv hF3 hN hkN (p:=[k0]) ⟨rfl,hkn⟩ (d:=a) (by omega) (by intro z hz;rw[List.mem_singleton.1 hz];simp only[if_pos hkp];omega)) rfl rfl rfl rfl (by kernel_rfl) aK.refl trivial (fun _=>rfl) ?_
 rintro _ H' ⟨fs4,row4,rfl,hF4,hk4'⟩
 refine⟨rfl,ai ⟨⟨[5],by decide,rfl⟩,?_⟩⟩
 refine bv ?_
 refine ai ?_
 refine ad (aa ?_)
 (repeat' (first
  |refine ak (gs:=[999]) rfl ?_
  |refine ab [999] (af 5 rfl rfl rfl rfl) rfl ?_))
 refine aw 46 (v':=.int .i64 (cD ((s.w+1:Nat):Int))) rfl (congrArg (Value.int .i64) (kK _ _)) ?_
 (repeat' (first
  |refine ak (gs:=[999]) rfl ?_
  |refine ab [999] (af 5 rfl rfl rfl rfl) rfl ?_))
 refine aX 5 rfl rfl rfl rfl rfl [] rfl ?_
 refine ai ?_
 obtain⟨s2,hs2⟩:∃ x:ES,x={ s with fs:=fs4,w:=s.w+1 }:=⟨_,rfl⟩
 refine bA (K:=kJ P s2) (by rw[hs2];exact aK.refl) ?_
 have hI2:gO P L gv rm0 tr' pos par (i4 p a k0 val) s2:=by
  rw[hs2]
  exact⟨⟨row4,hF4⟩,hI.ta.push hp hl hW hget (fun u r h=>(ez hP h).2.1) hb,hI.vo,hI.tb⟩
 have hk2:s2.cost≤s.cost+3*cG (P.n+1)+15*(P.n+1):=by
  rw[hs2]
  show s.k+fs4.k≤s.k+s.fs.k+_+_
  omega
 have hw2:s2.w=s.w+1:=by rw[hs2]
 have hcov:yh P.n P.least par (i4 p a k0 val) [s0]:=by
  intro u w hu hw hlt
  refine⟨s0,by simp,p,hp,Classical.byContradiction fun hin=>?_⟩
  have hne:u≠k0:=fun e=>hin (e▸hkp)
  simp only[i4,List.mem_singleton,if_neg hne,if_neg hin] at hlt
  have:=hroom u w hu hw
  omega
 have hbad:∃ w,par y=some w∧i4 p a k0 val y<P.least:=by
  have hyk:y≠k0:=fun e=>by rw[e] at hya;omega
  rcases hW.all y hyp with e|⟨r,hr,e⟩
  ·exact absurd e hyk
  ·refine⟨_,by rw[← e];exact (hW.at_ r hr).2.2.1,?_⟩
   simp only[i4,List.mem_singleton,if_neg hyk,if_pos hyp]
   omega
 clear hs2
 refine ad (aa ?_)
 refine ak (gs:=[999]) rfl ?_
 refine bK rfl rfl rfl rfl rfl rfl rfl (fun _=>rfl) fun g2=>?_
 refine mn 1 1 rfl (by decide) ?_
 refine ae [] rfl ?_
 refine bA pV ?_
 obtain⟨K1,hK1⟩:∃ x,x=cG (P.n+1)+11*(P.n+1)+1:=⟨_,rfl⟩
 obtain⟨KU,hKU⟩:∃ x,x=5*cG (P.n+1)+39*(P.n+1)+3:=⟨_,rfl⟩
 refine au ?_
 refine cN (σ:=WS) (fun t=>[(4,.slice t.A t.wt.length t.c),(0,.pointer (some ⟨P.pe,0,none⟩))]) (fun t=>jD P t.s (nU t.A t.c t.wt))
  (fun t=>vQ P L gv rm0 tr' pos par (i4 p a k0 val) s2 t.u t.pos t.par t.val t.s∧yh P.n P.least t.par t.val t.wt∧(∀ x∈t.wt,x≤P.n)∧(t.u=0→t.par=par∧t.val=i4 p a k0 val)∧t.wt.length≤t.u+1∧
   t.s.cost+t.wt.length*K1≤s2.cost+t.u*KU+K1) (fun t=>2*fD t.par P.n+t.wt.length)
  ⟨0,pos,par,i4 p a k0 val,s2,[s0],some ⟨g2,0,none⟩,1⟩ ⟨rfl,rfl,trivial⟩ aK.refl
  ⟨⟨hI2,hPI2,Sub.refl,rfl,rfl,rfl⟩,hcov,(by intro x hx;rw[List.mem_singleton.1 hx];omega),fun _=>⟨rfl,rfl⟩,by simp,by simp⟩ ?_
 rintro⟨u,pos1,par1,val1,s3,wt,Aw,cw⟩ ⟨hC,hcv,hwn,hu0,hwl,hco⟩
 simp only at hC hcv hwn hu0 hwl hco ⊢
 have hlk1:=m7 par P.n
 have hlk2:=hC.lk
 refine ad (ad (aa (ae [] rfl ?_)))
 refine aC rfl (fun hlt=>av ?_) (fun hge=>?_)
 ·rcases List.eq_nil_or_concat wt with h0|⟨wt0,x,rfl⟩
  ·rw[h0] at hlt;simp at hlt
  rw[List.concat_eq_append] at*
  have hlen:(wt0++[x]).length=wt0.length+1:=by simp
  have hxn:x≤P.n:=hwn x (by simp)
  refine bO (bh 9 rfl) fun ⟨_,hcw,hAw,_⟩=>?_
  obtain⟨gw,rfl⟩:=hAw (by omega)
  refine au (ad (aa ?_))
  refine ak (gs:=[999]) rfl ?_
  refine bY (aK.re (A:=P.fo s3.fs++[P.sg,P.pc s3.k s3.w,P.rc s3.rm,P.lc s3.vals,P.uc s3.un,nU (some ⟨gw,0,none⟩) cw (wt0++[x])]) (R:=P.rows s3.un) [5,0,1,2,3,4,6,7,8,9] rfl (by decide)) ?_
  refine ao [999] (ir P s3.k s3.w) rfl rfl rfl rfl (by kernel_rfl) aK.refl trivial (fun _=>rfl) ?_
  rintro v0 H' rfl
  refine⟨rfl,?_⟩
  refine bY (aK.re (A:=[P.pc (s3.k+1) s3.w]++(P.fo s3.fs++[P.sg,P.rc s3.rm,P.lc s3.vals,P.uc s3.un,nU (some ⟨gw,0,none⟩) cw (wt0++[x])])) (R:=P.rows s3.un) [1,2,3,4,5,0,6,7,8,9] rfl (by decide)) ?_
  refine ai ?_
  obtain⟨s4,hs4⟩:∃ x:ES,x={ s3 with k:=s3.k+1 }:=⟨_,rfl⟩
  refine bA (K:=jD P s4 (nU (some ⟨gw,0,none⟩) cw (wt0++[x]))) (by rw[hs4];exact aK.refl) ?_
  have hI4:gO P L gv rm0 tr' pos1 par1 val1 s4:=by rw[hs4];exact⟨hC.ti.fa,hC.ti.ta,hC.ti.vo,hC.ti.tb⟩
  have hk4:s4.cost=s3.cost+1:=by rw[hs4];show s3.k+1+s3.fs.k=s3.k+s3.fs.k+1;omega
  have hw4:s4.w=s3.w:=by rw[hs4]
  clear hs4
  refine ad (aa ?_)
  (repeat' (first
   |refine ak (gs:=[999]) rfl ?_
   |refine ab [999] (af 5 rfl rfl rfl rfl) rfl ?_))
  have hwl2:(wt0++[x]).length≤10002:=by omega
  refine aw 59 (v':=.int .i64 (wt0.length:Int)) rfl (congrArg (Value.int .i64) ((bU (by omega)).trans (by omega))) ?_
  refine ab [999] (aJ rfl rfl rfl rfl rfl (show wt0.length<(wt0++[x]).length by omega)) rfl ?_
  refine ab [999] (aD 9 rfl rfl rfl (dh (show (wt0++[x])[wt0.length]?=some x by simp))) rfl ?_
  (repeat' (first
   |refine ak (gs:=[999]) rfl ?_
   |refine ab [999] (af 5 rfl rfl rfl rfl) rfl ?_))
  refine ai ?_
  obtain⟨row5,hF5⟩:=hI4.fa
  obtain⟨px,hpx⟩:=hF5.path x (by omega)
  have hpl:∀ z∈px,z≤P.n:=fun z hz=>by have:=aI.lt hF5.lt hpx (show x<P.n+1 by omega) z hz;omega
  refine ad (aa ?_)
  (repeat' (first
   |refine ak (gs:=[999]) rfl ?_
   |refine ab [999] (af 5 rfl rfl rfl rfl) rfl ?_))
  refine ao [] (sx hF5 hN (show x<P.n+1 by omega) hpx) rfl rfl rfl rfl (by kernel_rfl) aK.refl trivial (fun _=>rfl) ?_
  rintro _ H' ⟨fs6,row6,v,rfl,rfl,hF6,hmin6,hvp,hk6⟩
  refine⟨rfl,?_⟩
  (repeat' (first
   |refine ak (gs:=[999]) rfl ?_
   |refine ab [999] (af 5 rfl rfl rfl rfl) rfl ?_))
  refine ai ?_
  have hvn:=hpl v hvp
  refine ad (ad ?_)
  refine bp 11 [(0,true),(1,true),(2,true),(3,true),(4,true),(6,true),(7,true),(8,true),(9,true),(5,false),(10,true)] [5] (by kernel_rfl) (by decide) rfl ?_
  (repeat' (first
   |refine aZ (gs:=[999]) rfl rfl ?_
   |refine aj [999] rfl (af 0 rfl rfl rfl rfl) rfl ?_))
  refine a6 rfl ?_
  refine ao [] (pq hF6 hN (show v<P.n+1 by omega)) rfl rfl rfl rfl (by kernel_rfl) aK.refl trivial (fun _=>rfl) ?_
  rintro _ H' ⟨fs7,rfl,rfl,hF7,hk7⟩
  refine⟨rfl,ai ⟨⟨[5],by decide,rfl⟩,?_⟩⟩
  refine aZ (gs:=[999]) rfl rfl ?_
  refine bv ?_
  refine ai ?_
  obtain⟨s7,hs7⟩:∃ x:ES,x={ s4 with fs:=fs7 }:=⟨_,rfl⟩
  refine bA (K:=jD P s7 (nU (some ⟨gw,0,none⟩) cw (wt0++[x]))) (by rw[hs7];exact aK.refl) ?_
  have hI7:gO P L gv rm0 tr' pos1 par1 val1 s7:=by rw[hs7];exact⟨⟨_,hF7⟩,hI4.ta,hI4.vo,hI4.tb⟩
  have hk8:s7.cost≤s3.cost+K1:=by
   have h1:s4.cost=s4.k+s4.fs.k:=rfl
   have h2:s7.cost=s4.k+fs7.k:=by rw[hs7];rfl
   omega
  have hw7:s7.w=s3.w:=by rw[hs7];exact hw4
  clear hs7
  refine aC rfl (fun hge=>?_) (fun hlt7=>av ?_)
  ·refine ad (aa ?_)
   refine ak (gs:=[999]) rfl ?_
   refine ak (gs:=[999]) rfl ?_
   refine ak (gs:=[999]) rfl ?_
   refine ak (gs:=[999]) rfl ?_
   refine aw 82 (v':=.int .i64 (wt0.length:Int)) rfl (congrArg (Value.int .i64) ((bU (by omega)).trans (by omega))) ?_
   refine ab [999] (fg (i:=wt0.length) rfl rfl rfl rfl rfl (by omega)) rfl ?_
   refine ae [] rfl ?_
   refine aV ?_
   have h1:(wt0.length+1)*K1=wt0.length*K1+K1:=by rw[Nat.add_mul,Nat.one_mul]
   rw[hlen,h1] at hco
   refine⟨⟨u,pos1,par1,val1,s7,wt0,some ⟨gw,0,none⟩,cw⟩,⟨rfl,rfl,trivial⟩,?_,⟨⟨hI7,hC.pi,hC.sub,hC.rem,hC.lk,by rw[hw7];exact hC.w⟩,hcv.pop hpx (fun z hz=>by have h1:=hmin6.le z hz;omega),fun z hz=>hwn z (by simp[hz]),hu0,by show wt0.length≤u+1;omega,?_⟩,?_⟩
   ·refine aK.trans (aK.shrink (m:=wt0.length) 9 rfl (by omega)) ?_
    show aK _ (jD P s7 (.own (.slice _ _ _) _ _ _ (List.take (wt0.length*1) (bL (wt0++[x]))))) _
    rw[Nat.mul_one,nm,List.take_left]
    exact aK.refl
   ·show s7.cost+wt0.length*K1≤s2.cost+u*KU+K1
    omega
   ·show 2*fD par1 P.n+wt0.length<2*fD par1 P.n+(wt0++[x]).length
    omega
  ·obtain⟨w,hw⟩:∃ w,par1 v=some w:=by
    cases hp1:par1 v with
    |some w=>exact⟨w,rfl⟩
    |none=>have:=hI7.ta.free v hvn hp1;omega
   obtain⟨q,r,hq,hr,hto,hval⟩:=hI7.ta.link v w hvn hw
   have hrm:=List.mem_of_getElem? hr
   have hwn7:w≤P.n:=by
    have:=(fu hP.right (ez hP hrm).1).2.2
    omega
   obtain⟨row7,hF7'⟩:=hI7.fa
   refine ad (aa ?_)
   (repeat' (first
    |refine ak (gs:=[999]) rfl ?_
    |refine ab [999] (af 5 rfl rfl rfl rfl) rfl ?_))
   refine ao [] (xy hF7' hN (show v<P.n+1 by omega)) rfl rfl rfl rfl (by kernel_rfl) aK.refl trivial (fun _=>rfl) ?_
   rintro _ H' ⟨fs8,row8,rfl,rfl,hF8,hk9⟩
   refine⟨rfl,?_⟩
   refine aw 90 (v':=.int .i64 (w:Int)) rfl (congrArg (Value.int .i64) (du hw)) ?_
   refine bK rfl rfl rfl rfl rfl rfl rfl (fun _=>rfl) fun g3=>?_
   refine be (n:=(wt0++[x]).length) (m:=1) (off:=0) (news:=ap [(w:Int)]) 10 0 rfl rfl rfl rfl rfl rfl (by decide) rfl rfl (aL g3 _ _ (0,0)) (fun _=>rfl) rfl rfl (by omega) (by omega) (fun _ _=>rfl) fun A2 c2=>?_
   rw[show (wt0++[x]).length+1=((wt0++[x])++[w]).length by simp,lu]
   refine ae [] rfl ?_
   obtain⟨s8,hs8⟩:∃ x:ES,x={ s7 with fs:=fs8 }:=⟨_,rfl⟩
   refine bA (K:=jD P s8 (nU A2 c2 ((wt0++[x])++[w]))) (by rw[hs8];exact aK.sub (List.sublist_cons_self _ _)) ?_
   have hI8:gO P L gv rm0 tr' pos1 par1 val1 s8:=by rw[hs8];exact⟨⟨_,hF8⟩,hI7.ta,hI7.vo,hI7.tb⟩
   have hk10:s8.cost≤s7.cost+cG (P.n+1)+5*(P.n+1):=by
    have h1:s7.cost=s7.k+s7.fs.k:=rfl
    have h2:s8.cost=s7.k+fs8.k:=by rw[hs8];rfl
    omega
   have hw8:s8.w=s3.w:=by rw[hs8];exact hw7
   clear hs8
   refine aa ?_
   (repeat' (first
    |refine ak (gs:=[999]) rfl ?_
    |refine ab [999] (af 5 rfl rfl rfl rfl) rfl ?_))
   refine ao [] (nW hP s8 hI8 hvn hw hq hr hto hval) rfl rfl rfl rfl (by kernel_rfl) mJ ⟨⟨0,_,by simp,rfl,aq _ _ _,ay⟩,trivial⟩ (fun _=>rfl) ?_
   rintro _ H' ⟨s9,rfl,hI9,hw9,hk11⟩
   refine⟨cR rfl (cJ _ _),?_⟩
   refine bY mj ?_
   refine ai ?_
   have hrem:=eY (L:=L) hq hvn (List.getElem?_eq_some_iff.1 hr).1
   have hlk:=o8 hvn hw
   have h1:=hC.rem
   have h2:(wt0.length+1)*K1=wt0.length*K1+K1:=by rw[Nat.add_mul,Nat.one_mul]
   have h3:(wt0.length+1+1)*K1=wt0.length*K1+K1+K1:=by rw[Nat.add_mul,Nat.add_mul,Nat.one_mul]
   have h4:(u+1)*KU=u*KU+KU:=by rw[Nat.add_mul,Nat.one_mul]
   rw[hlen,h2] at hco
   have hlen2:((wt0++[x])++[w]).length=wt0.length+1+1:=by simp
   refine⟨⟨u+1,pos1.set v (q+1),aT par1 v none,eE val1 v (4611686018427387904-val1 v),s9,(wt0++[x])++[w],A2,c2⟩,⟨rfl,rfl,trivial⟩,aK.refl,⟨⟨hI9,hC.pi.bump (fun _ h=>by cases h) hq hr (.inl (by rw[← hval];omega)),hC.sub.cut,?_,?_,by rw[hw9,hw8];exact hC.w⟩,hcv.cut hw,fun z hz=>?_,fun h=>(by cases h),?_,?_⟩,?_⟩
   ·show bT L P.n (pos1.set v (q+1))+(u+1)=_
    omega
   ·show fD (aT par1 v none) P.n+(u+1)=_
    omega
   ·rcases List.mem_append.1 hz with hz|hz
    ·exact hwn z hz
    ·rw[List.mem_singleton.1 hz];exact hwn7
   ·show ((wt0++[x])++[w]).length≤u+1+1
    omega
   ·show s9.cost+((wt0++[x])++[w]).length*K1≤s2.cost+(u+1)*KU+K1
    rw[hlen2,h3,h4]
    omega
   ·show 2*fD (aT par1 v none) P.n+((wt0++[x])++[w]).length<2*fD par1 P.n+(wt0++[x]).length
    omega
 ·have h0:wt=[]:=List.length_eq_zero_iff.1 (by omega)
  subst h0
  refine bA nI (aV ?_)
  have hroom':qW P par1 val1:=fun z w hz hw=>Classical.byContradiction fun hlt=>by
   obtain⟨_,hx,_⟩:=hcv z w hz hw (by omega)
   cases hx
  have hupos:1≤u:=by
   rcases Nat.eq_zero_or_pos u with h0|h0
   ·obtain⟨e1,e2⟩:=hu0 h0
    obtain⟨w,hw,hlt⟩:=hbad
    have:=hroom' y w (hpn y hyp) (by rw[e1];exact hw)
    rw[e2] at this
    omega
   ·exact h0
  refine⟨_,rfl,u,pos1,par1,val1,s3,W,rfl,hupos,hPW,by rw[hend,hk0],by rw[← htr'];exact hC.ti,by rw[← htr'];exact hC.pi,hroom',hC.rem,hC.lk,hC.w.trans hw2,?_⟩
  simp only[List.length_nil,Nat.zero_mul,Nat.add_zero] at hco
  have h1:u*(9*cG (P.n+1)+65*(P.n+1)+4)=u*KU+u*(4*cG (P.n+1)+26*(P.n+1)+1):=by
   rw[← Nat.mul_add,hKU];congr 1;omega
  have h2:1*(4*cG (P.n+1)+26*(P.n+1)+1)≤u*(4*cG (P.n+1)+26*(P.n+1)+1):=Nat.mul_le_mul_right _ hupos
  omega
end
end Go.Proofs.YtpbmihpjgjbndaaGreatDoor
