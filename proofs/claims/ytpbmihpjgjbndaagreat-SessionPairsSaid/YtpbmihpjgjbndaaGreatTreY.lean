/- The engine by trees: an amount is led, step by step. -/
import Derived.Test.YtpbmihpjgjbndaaGreatQX14
set_option linter.unusedVariables false
set_option linter.unusedSimpArgs false
namespace Go.Proofs.YtpbmihpjgjbndaaGreat
open Go.RowKit
section
variable {P:EP} {L:Nat→List Nat} {lv:Nat→Int} {gv:Nat→Nat} {rm0 tr:List Int} {pos:List Nat} {par:OV} {val:Nat→Int}
theorem rq (hP:iF P L lv gv) {u r:Nat} (h:r∈L u):bU P.N r≤P.n:=by
 have h1:=eD hP.right (eO hP h).1
 have h2:=hP.nodes
 omega
theorem TA.val_in {rm:List Int} (h:TA P L rm0 tr pos par val rm) {v:Nat} (hv:v≤P.n):0≤val v∧val v≤4611686018427387904∧((par v).isSome→val v<4611686018427387904):=by
 cases hp:par v with
 |none=>have:=h.free v hv hp;exact⟨by omega,by omega,fun h=>by cases h⟩
 |some w=>
  obtain⟨q,r,_,_,_,h4⟩:=h.link v w hv hp
  have:=h.trb r
  exact⟨by omega,by omega,fun _=>by omega⟩
def pK (P:EP) (par:OV) (val:Nat→Int):Prop:=∀ u w,u≤P.n→par u=some w→P.least≤val u
abbrev nz (Aw:Option Addr) (cw:Nat) (wt:List Nat):aW:=.own (.slice Aw wt.length cw) 3 1 wt.length (bs wt)
structure WS where
 u:Nat
 pos:List Nat
 par:OV
 val:Nat→Int
 s:ES
 wt:List Nat
 A:Option Addr
 c:Nat
def xI (P:EP) (L:Nat→List Nat) (gv:Nat→Nat) (rm0 tr:List Int) (pos:List Nat) (par:OV) (s:ES) (H':Heap):Prop:=
 ∃ u pos' par' val' s' W,H'=ep P s'∧1≤u∧PI P.N L P.least tr pos W∧cE P.N W=P.N.snk.toNat∧gM P L gv rm0 (bZ (ci tr W) W tr) pos' par' val' s'∧PI P.N L P.least (bZ (ci tr W) W tr) pos' []∧pK P par' val'∧
   cj L P.n pos'+u=cj L P.n pos∧fD par' P.n+u=fD par P.n∧s'.w=s.w+1∧s'.cost≤s.cost+u*(9*cX (P.n+1)+65*(P.n+1)+4)
set_option maxHeartbeats 1000000 in
theorem uP (hP:iF P L lv gv) (hle:1≤P.least) (s:ES) (hI:gM P L gv rm0 tr pos par val s) (hPI:PI P.N L P.least tr pos []) (hroom:pK P par val) {f:List Int} (hf:aT P.N f) (he:tr=aK (P.N.arcs.zip f)) {p:List Nat} (hp:aP par P.N.src.toNat p) (hl:p.getLast?=some P.N.snk.toNat):
 Fn 117 [.pointer (some ⟨P.pe,0,none⟩)] (aX (ep P s)) ([P.sg]++ep P s) fun _ H'=>xI P L gv rm0 tr pos par s H':=by
 have hN:=hP.small
 have hsr:=hP.right.src
 have hsk:=hP.right.snk
 have hdf:=hP.right.diff
 have hnn:=hP.nodes
 obtain⟨s0,hs0⟩:∃ x,x=P.N.src.toNat:=⟨_,rfl⟩
 obtain⟨k0,hk0⟩:∃ x,x=P.N.snk.toNat:=⟨_,rfl⟩
 rw[← hs0] at hp
 rw[← hk0] at hl
 have hs1:P.N.src=(s0:Int):=by omega
 have hk1:P.N.snk=(k0:Int):=by omega
 have hsN:s0<P.n+1:=by omega
 have hkN:k0<P.n+1:=by omega
 obtain⟨W,hW⟩:=hI.ta.walk_of hP hp (by omega) hl
 obtain⟨hPW,hend⟩:=hW.pi hs0 hPI (fun _ _ h=>rq hP h) hroom
 obtain⟨hWne,hWlt,hWnd,hWfl,hWlen,hma,⟨f',hf',hf'e⟩,hPI',hmono,_⟩:=e9 hP.right hP.graded hle hf he hPW (by rw[hend,hk0])
 have hkn:par k0=none:=hp.root_last hl
 have hkp:k0∈p:=List.mem_of_getLast? hl
 have hPI2:PI P.N L P.least (bZ (ci tr W) W tr) pos []:=⟨hPI'.pl,⟨_,rfl⟩,fun _ h=>(by cases h),hPI'.pass⟩
 have hb:=dX hP.right hf'.toRanged
 rw[← hf'e] at hb
 have hget:∀ u r,r∈L u→(bZ (ci tr W) W tr).getD r 0=tr.getD r 0-if r∈W then ci tr W else 0:=by
  intro u r hr
  rw[fg (a:=ci tr W) (by rw[he];exact fM hf.len) hWlt hWnd r]
  have:bF r∉W:=by
   intro hin
   have g1:=(hP.graded.ok _ _ hr)
   have g2:=(hP.graded.ok _ _ (hPW.mem _ hin)).2.2
   have g3:=g1.2.2
   rw[f6,eU] at g2
   rw[← g1.2.1] at g3
   omega
  rw[if_neg this];omega
 have hpn:∀ z∈p,z≤P.n:=by
  intro z hz
  rcases hW.all z hz with e|⟨r,hr,e⟩
  ·omega
  ·rw[← e];exact rq hP (hPW.mem r hr)
 obtain⟨a,ha⟩:∃ x,x=ci tr W:=⟨_,rfl⟩
 obtain⟨tr',htr'⟩:∃ x,x=bZ (ci tr W) W tr:=⟨_,rfl⟩
 rw[← htr'] at hPI2 hb hget
 rw[← ha] at hget hma
 have hab:1≤a∧a≤4611686018427387903:=by
  obtain⟨r,_,h1⟩:=ic (rm:=tr) hWne
  have:=hI.ta.trb r
  omega
 obtain⟨row,hF⟩:=hI.fa
 generalize hM:aX _=M
 refine aM Tryz.func117 rfl rfl fun w0=>?_
 refine bN jk ?_
 refine ae (aa ?_)
 (repeat' (first
  |refine ao (gs:=[999]) rfl ?_
  |refine ab [999] (ad 5 rfl rfl rfl rfl) rfl ?_))
 refine aj ?_
 refine aV 2 (v':=.int .i64 (s0:Int)) rfl (congrArg (Value.int .i64) hs1) ?_
 refine ae ?_
 refine bq 12 [(0,true),(1,true),(2,true),(3,true),(4,true),(5,true),(6,true),(7,true),(8,true),(9,false),(10,false),(11,true)] [5] (by kernel_rfl) (by decide) rfl ?_
 (repeat' (first
  |refine aL (gs:=[999]) rfl rfl ?_
  |refine ai [999] rfl (ad 0 rfl rfl rfl rfl) rfl ?_))
 refine bc rfl ?_
 refine ay [] (rY hF hN hsN hp) rfl rfl rfl rfl (by kernel_rfl) aH.refl trivial (fun _=>rfl) ?_
 rintro _ H' ⟨fs1,row1,y,rfl,rfl,hF1,hmin,hyp,hk1'⟩
 refine⟨rfl,aj ⟨⟨[5],by decide,rfl⟩,?_⟩⟩
 have hya:val y=a:=by
  rw[ha]
  exact hW.most hWne hyp hmin.le (fun r=>by rw[hI.ta.free k0 (by omega) hkn];have:=hI.ta.trb r;omega)
 refine bc rfl ?_
 refine ay [] (nH hF1 hN (show y<P.n+1 by have:=hpn y hyp;omega)) rfl rfl rfl rfl (by kernel_rfl) aH.refl trivial (fun _=>rfl) ?_
 rintro _ H' ⟨fs2,rfl,rfl,hF2,hk2'⟩
 refine⟨rfl,aj ⟨⟨[5],by decide,rfl⟩,?_⟩⟩
 refine aL (gs:=[999]) rfl rfl ?_
 refine bB ?_
 refine aj ?_
 refine aV 3 (v':=.int .i64 a) rfl (congrArg (Value.int .i64) hya) ?_
 refine ae (aa ?_)
 (repeat' (first
  |refine ao (gs:=[999]) rfl ?_
  |refine ab [999] (ad 5 rfl rfl rfl rfl) rfl ?_))
 have hna:IntKind.i64.wrap (0-a)=-a:=(bK (by omega)).trans (by omega)
 refine av 29 (v':=.int .i64 (-a)) rfl (congrArg (Value.int .i64) hna) ?_
 refine ay [] (rK hF2 hN hsN hp (d:=-a) (by omega) (by intro z hz;have h1:=hmin.le z hz;have h2:=(hI.ta.val_in (hpn z hz)).2.1;omega)) rfl rfl rfl rfl (by kernel_rfl) aH.refl trivial (fun _=>rfl) ?_
 rintro _ H' ⟨fs3,row3,rfl,hF3,hk3'⟩
 refine⟨rfl,?_⟩
 (repeat' (first
  |refine ao (gs:=[999]) rfl ?_
  |refine ab [999] (ad 5 rfl rfl rfl rfl) rfl ?_))
 refine aj ?_
 refine ae ?_
 refine bq 11 [(0,true),(1,true),(2,true),(3,true),(4,true),(5,true),(6,true),(7,true),(8,true),(9,true),(10,false)] [5] (by kernel_rfl) (by decide) rfl ?_
 (repeat' (first
  |refine aL (gs:=[999]) rfl rfl ?_
  |refine ai [999] rfl (ad 0 rfl rfl rfl rfl) rfl ?_))
 refine bH 39 (v':=.int .i64 (k0:Int)) rfl (congrArg (Value.int .i64) hk1) ?_
 refine bc rfl ?_
 have hkfr:=hI.ta.free k0 (by omega) hkn
 refine ay [] (rK hF3 hN hkN (p:=[k0]) ⟨rfl,hkn⟩ (d:=a) (by omega) (by intro z hz;rw[List.mem_singleton.1 hz];simp only[if_pos hkp];omega)) rfl rfl rfl rfl (by kernel_rfl) aH.refl trivial (fun _=>rfl) ?_
 rintro _ H' ⟨fs4,row4,rfl,hF4,hk4'⟩
 refine⟨rfl,aj ⟨⟨[5],by decide,rfl⟩,?_⟩⟩
 refine bB ?_
 refine aj ?_
 refine ae (aa ?_)
 (repeat' (first
  |refine ao (gs:=[999]) rfl ?_
  |refine ab [999] (ad 5 rfl rfl rfl rfl) rfl ?_))
 refine av 46 (v':=.int .i64 (cS ((s.w+1:Nat):Int))) rfl (congrArg (Value.int .i64) (ky _ _)) ?_
 (repeat' (first
  |refine ao (gs:=[999]) rfl ?_
  |refine ab [999] (ad 5 rfl rfl rfl rfl) rfl ?_))
 refine aD 5 rfl rfl rfl rfl rfl [] rfl ?_
 refine aj ?_
 obtain⟨s2,hs2⟩:∃ x:ES,x={ s with fs:=fs4,w:=s.w+1 }:=⟨_,rfl⟩
 refine bN (K:=kw P s2) (by rw[hs2];exact aH.refl) ?_
 have hI2:gM P L gv rm0 tr' pos par (iV p a k0 val) s2:=by
  rw[hs2]
  exact⟨⟨row4,hF4⟩,hI.ta.push hp hl hW hget (fun u r h=>(eO hP h).2.1) hb,hI.vo,hI.tb⟩
 have hk2:s2.cost≤s.cost+3*cX (P.n+1)+15*(P.n+1):=by
  rw[hs2]
  show s.k+fs4.k≤s.k+s.fs.k+_+_
  omega
 have hw2:s2.w=s.w+1:=by rw[hs2]
 have hcov:wP P.n P.least par (iV p a k0 val) [s0]:=by
  intro u w hu hw hlt
  refine⟨s0,by simp,p,hp,Classical.byContradiction fun hin=>?_⟩
  have hne:u≠k0:=fun e=>hin (e▸hkp)
  simp only[iV,List.mem_singleton,if_neg hne,if_neg hin] at hlt
  have:=hroom u w hu hw
  omega
 have hbad:∃ w,par y=some w∧iV p a k0 val y<P.least:=by
  have hyk:y≠k0:=fun e=>by rw[e] at hya;omega
  rcases hW.all y hyp with e|⟨r,hr,e⟩
  ·exact absurd e hyk
  ·refine⟨_,by rw[← e];exact (hW.at_ r hr).2.2.1,?_⟩
   simp only[iV,List.mem_singleton,if_neg hyk,if_pos hyp]
   omega
 clear hs2
 refine ae (aa ?_)
 refine ao (gs:=[999]) rfl ?_
 refine b8 rfl rfl rfl rfl rfl rfl rfl (fun _=>rfl) fun g2=>?_
 refine nN 1 1 rfl (by decide) ?_
 refine af [] rfl ?_
 refine bN pq ?_
 obtain⟨K1,hK1⟩:∃ x,x=cX (P.n+1)+11*(P.n+1)+1:=⟨_,rfl⟩
 obtain⟨KU,hKU⟩:∃ x,x=5*cX (P.n+1)+39*(P.n+1)+3:=⟨_,rfl⟩
 refine au ?_
 refine bM (σ:=WS) (fun t=>[(4,.slice t.A t.wt.length t.c),(0,.pointer (some ⟨P.pe,0,none⟩))]) (fun t=>jB P t.s (nz t.A t.c t.wt))
  (fun t=>u0 P L gv rm0 tr' pos par (iV p a k0 val) s2 t.u t.pos t.par t.val t.s∧wP P.n P.least t.par t.val t.wt∧(∀ x∈t.wt,x≤P.n)∧(t.u=0→t.par=par∧t.val=iV p a k0 val)∧t.wt.length≤t.u+1∧
   t.s.cost+t.wt.length*K1≤s2.cost+t.u*KU+K1) (fun t=>2*fD t.par P.n+t.wt.length)
  ⟨0,pos,par,iV p a k0 val,s2,[s0],some ⟨g2,0,none⟩,1⟩ ⟨rfl,rfl,trivial⟩ aH.refl
  ⟨⟨hI2,hPI2,Sub.refl,rfl,rfl,rfl⟩,hcov,(by intro x hx;rw[List.mem_singleton.1 hx];omega),fun _=>⟨rfl,rfl⟩,by simp,by simp⟩ ?_
 rintro⟨u,pos1,par1,val1,s3,wt,Aw,cw⟩ ⟨hC,hcv,hwn,hu0,hwl,hco⟩
 simp only at hC hcv hwn hu0 hwl hco ⊢
 have hlk1:=mO par P.n
 have hlk2:=hC.lk
 refine ae (ae (aa (af [] rfl ?_)))
 refine aC rfl (fun hlt=>aq ?_) (fun hge=>?_)
 ·rcases List.eq_nil_or_concat wt with h0|⟨wt0,x,rfl⟩
  ·rw[h0] at hlt;simp at hlt
  rw[List.concat_eq_append] at*
  have hlen:(wt0++[x]).length=wt0.length+1:=by simp
  have hxn:x≤P.n:=hwn x (by simp)
  refine bG (bp 9 rfl) fun ⟨_,hcw,hAw,_⟩=>?_
  obtain⟨gw,rfl⟩:=hAw (by omega)
  refine au (ae (aa ?_))
  refine ao (gs:=[999]) rfl ?_
  refine b6 (aH.re (A:=P.fo s3.fs++[P.sg,P.pc s3.k s3.w,P.rc s3.rm,P.lc s3.vals,P.uc s3.un,nz (some ⟨gw,0,none⟩) cw (wt0++[x])]) (R:=P.rows s3.un) [5,0,1,2,3,4,6,7,8,9] rfl (by decide)) ?_
  refine ay [999] (iJ P s3.k s3.w) rfl rfl rfl rfl (by kernel_rfl) aH.refl trivial (fun _=>rfl) ?_
  rintro v0 H' rfl
  refine⟨rfl,?_⟩
  refine b6 (aH.re (A:=[P.pc (s3.k+1) s3.w]++(P.fo s3.fs++[P.sg,P.rc s3.rm,P.lc s3.vals,P.uc s3.un,nz (some ⟨gw,0,none⟩) cw (wt0++[x])])) (R:=P.rows s3.un) [1,2,3,4,5,0,6,7,8,9] rfl (by decide)) ?_
  refine aj ?_
  obtain⟨s4,hs4⟩:∃ x:ES,x={ s3 with k:=s3.k+1 }:=⟨_,rfl⟩
  refine bN (K:=jB P s4 (nz (some ⟨gw,0,none⟩) cw (wt0++[x]))) (by rw[hs4];exact aH.refl) ?_
  have hI4:gM P L gv rm0 tr' pos1 par1 val1 s4:=by rw[hs4];exact⟨hC.ti.fa,hC.ti.ta,hC.ti.vo,hC.ti.tb⟩
  have hk4:s4.cost=s3.cost+1:=by rw[hs4];show s3.k+1+s3.fs.k=s3.k+s3.fs.k+1;omega
  have hw4:s4.w=s3.w:=by rw[hs4]
  clear hs4
  refine ae (aa ?_)
  (repeat' (first
   |refine ao (gs:=[999]) rfl ?_
   |refine ab [999] (ad 5 rfl rfl rfl rfl) rfl ?_))
  have hwl2:(wt0++[x]).length≤10002:=by omega
  refine av 59 (v':=.int .i64 (wt0.length:Int)) rfl (congrArg (Value.int .i64) ((bK (by omega)).trans (by omega))) ?_
  refine ab [999] (aI rfl rfl rfl rfl rfl (show wt0.length<(wt0++[x]).length by omega)) rfl ?_
  refine ab [999] (aF 9 rfl rfl rfl (dA (show (wt0++[x])[wt0.length]?=some x by simp))) rfl ?_
  (repeat' (first
   |refine ao (gs:=[999]) rfl ?_
   |refine ab [999] (ad 5 rfl rfl rfl rfl) rfl ?_))
  refine aj ?_
  obtain⟨row5,hF5⟩:=hI4.fa
  obtain⟨px,hpx⟩:=hF5.path x (by omega)
  have hpl:∀ z∈px,z≤P.n:=fun z hz=>by have:=aP.lt hF5.lt hpx (show x<P.n+1 by omega) z hz;omega
  refine ae (aa ?_)
  (repeat' (first
   |refine ao (gs:=[999]) rfl ?_
   |refine ab [999] (ad 5 rfl rfl rfl rfl) rfl ?_))
  refine ay [] (rY hF5 hN (show x<P.n+1 by omega) hpx) rfl rfl rfl rfl (by kernel_rfl) aH.refl trivial (fun _=>rfl) ?_
  rintro _ H' ⟨fs6,row6,v,rfl,rfl,hF6,hmin6,hvp,hk6⟩
  refine⟨rfl,?_⟩
  (repeat' (first
   |refine ao (gs:=[999]) rfl ?_
   |refine ab [999] (ad 5 rfl rfl rfl rfl) rfl ?_))
  refine aj ?_
  have hvn:=hpl v hvp
  refine ae (ae ?_)
  refine bq 11 [(0,true),(1,true),(2,true),(3,true),(4,true),(6,true),(7,true),(8,true),(9,true),(5,false),(10,true)] [5] (by kernel_rfl) (by decide) rfl ?_
  (repeat' (first
   |refine aL (gs:=[999]) rfl rfl ?_
   |refine ai [999] rfl (ad 0 rfl rfl rfl rfl) rfl ?_))
  refine bc rfl ?_
  refine ay [] (nH hF6 hN (show v<P.n+1 by omega)) rfl rfl rfl rfl (by kernel_rfl) aH.refl trivial (fun _=>rfl) ?_
  rintro _ H' ⟨fs7,rfl,rfl,hF7,hk7⟩
  refine⟨rfl,aj ⟨⟨[5],by decide,rfl⟩,?_⟩⟩
  refine aL (gs:=[999]) rfl rfl ?_
  refine bB ?_
  refine aj ?_
  obtain⟨s7,hs7⟩:∃ x:ES,x={ s4 with fs:=fs7 }:=⟨_,rfl⟩
  refine bN (K:=jB P s7 (nz (some ⟨gw,0,none⟩) cw (wt0++[x]))) (by rw[hs7];exact aH.refl) ?_
  have hI7:gM P L gv rm0 tr' pos1 par1 val1 s7:=by rw[hs7];exact⟨⟨_,hF7⟩,hI4.ta,hI4.vo,hI4.tb⟩
  have hk8:s7.cost≤s3.cost+K1:=by
   have h1:s4.cost=s4.k+s4.fs.k:=rfl
   have h2:s7.cost=s4.k+fs7.k:=by rw[hs7];rfl
   omega
  have hw7:s7.w=s3.w:=by rw[hs7];exact hw4
  clear hs7
  refine aC rfl (fun hge=>?_) (fun hlt7=>aq ?_)
  ·refine ae (aa ?_)
   refine ao (gs:=[999]) rfl ?_
   refine ao (gs:=[999]) rfl ?_
   refine ao (gs:=[999]) rfl ?_
   refine ao (gs:=[999]) rfl ?_
   refine av 82 (v':=.int .i64 (wt0.length:Int)) rfl (congrArg (Value.int .i64) ((bK (by omega)).trans (by omega))) ?_
   refine ab [999] (fR (i:=wt0.length) rfl rfl rfl rfl rfl (by omega)) rfl ?_
   refine af [] rfl ?_
   refine aO ?_
   have h1:(wt0.length+1)*K1=wt0.length*K1+K1:=by rw[Nat.add_mul,Nat.one_mul]
   rw[hlen,h1] at hco
   refine⟨⟨u,pos1,par1,val1,s7,wt0,some ⟨gw,0,none⟩,cw⟩,⟨rfl,rfl,trivial⟩,?_,⟨⟨hI7,hC.pi,hC.sub,hC.rem,hC.lk,by rw[hw7];exact hC.w⟩,hcv.pop hpx (fun z hz=>by have h1:=hmin6.le z hz;omega),fun z hz=>hwn z (by simp[hz]),hu0,by show wt0.length≤u+1;omega,?_⟩,?_⟩
   ·refine aH.trans (aH.shrink (m:=wt0.length) 9 rfl (by omega)) ?_
    show aH _ (jB P s7 (.own (.slice _ _ _) _ _ _ (List.take (wt0.length*1) (bs (wt0++[x]))))) _
    rw[Nat.mul_one,mf,List.take_left]
    exact aH.refl
   ·show s7.cost+wt0.length*K1≤s2.cost+u*KU+K1
    omega
   ·show 2*fD par1 P.n+wt0.length<2*fD par1 P.n+(wt0++[x]).length
    omega
  ·obtain⟨w,hw⟩:∃ w,par1 v=some w:=by
    cases hp1:par1 v with
    |some w=>exact⟨w,rfl⟩
    |none=>have:=hI7.ta.free v hvn hp1;omega
   obtain⟨q,r,hq,hr,hto,hval⟩:=hI7.ta.link v w hvn hw
   have hrm:=List.mem_of_getElem? hr
   have hwn7:w≤P.n:=by
    have:=(d6 hP.right (eO hP hrm).1).2.2
    omega
   obtain⟨row7,hF7'⟩:=hI7.fa
   refine ae (aa ?_)
   (repeat' (first
    |refine ao (gs:=[999]) rfl ?_
    |refine ab [999] (ad 5 rfl rfl rfl rfl) rfl ?_))
   refine ay [] (wC hF7' hN (show v<P.n+1 by omega)) rfl rfl rfl rfl (by kernel_rfl) aH.refl trivial (fun _=>rfl) ?_
   rintro _ H' ⟨fs8,row8,rfl,rfl,hF8,hk9⟩
   refine⟨rfl,?_⟩
   refine av 90 (v':=.int .i64 (w:Int)) rfl (congrArg (Value.int .i64) (dR hw)) ?_
   refine b8 rfl rfl rfl rfl rfl rfl rfl (fun _=>rfl) fun g3=>?_
   refine a9 (n:=(wt0++[x]).length) (m:=1) (off:=0) (news:=aw [(w:Int)]) 10 0 rfl rfl rfl rfl rfl rfl (by decide) rfl rfl (aR g3 _ _ (0,0)) (fun _=>rfl) rfl rfl (by omega) (by omega) (fun _ _=>rfl) fun A2 c2=>?_
   rw[show (wt0++[x]).length+1=((wt0++[x])++[w]).length by simp,kY]
   refine af [] rfl ?_
   obtain⟨s8,hs8⟩:∃ x:ES,x={ s7 with fs:=fs8 }:=⟨_,rfl⟩
   refine bN (K:=jB P s8 (nz A2 c2 ((wt0++[x])++[w]))) (by rw[hs8];exact aH.sub (List.sublist_cons_self _ _)) ?_
   have hI8:gM P L gv rm0 tr' pos1 par1 val1 s8:=by rw[hs8];exact⟨⟨_,hF8⟩,hI7.ta,hI7.vo,hI7.tb⟩
   have hk10:s8.cost≤s7.cost+cX (P.n+1)+5*(P.n+1):=by
    have h1:s7.cost=s7.k+s7.fs.k:=rfl
    have h2:s8.cost=s7.k+fs8.k:=by rw[hs8];rfl
    omega
   have hw8:s8.w=s3.w:=by rw[hs8];exact hw7
   clear hs8
   refine aa ?_
   (repeat' (first
    |refine ao (gs:=[999]) rfl ?_
    |refine ab [999] (ad 5 rfl rfl rfl rfl) rfl ?_))
   refine ay [] (nG hP s8 hI8 hvn hw hq hr hto hval) rfl rfl rfl rfl (by kernel_rfl) lU ⟨⟨0,_,by simp,rfl,ak _ _ _,ap⟩,trivial⟩ (fun _=>rfl) ?_
   rintro _ H' ⟨s9,rfl,hI9,hw9,hk11⟩
   refine⟨cT rfl (cJ _ _),?_⟩
   refine b6 mH ?_
   refine aj ?_
   have hrem:=eZ (L:=L) hq hvn (List.getElem?_eq_some_iff.1 hr).1
   have hlk:=od hvn hw
   have h1:=hC.rem
   have h2:(wt0.length+1)*K1=wt0.length*K1+K1:=by rw[Nat.add_mul,Nat.one_mul]
   have h3:(wt0.length+1+1)*K1=wt0.length*K1+K1+K1:=by rw[Nat.add_mul,Nat.add_mul,Nat.one_mul]
   have h4:(u+1)*KU=u*KU+KU:=by rw[Nat.add_mul,Nat.one_mul]
   rw[hlen,h2] at hco
   have hlen2:((wt0++[x])++[w]).length=wt0.length+1+1:=by simp
   refine⟨⟨u+1,pos1.set v (q+1),a8 par1 v none,eP val1 v (4611686018427387904-val1 v),s9,(wt0++[x])++[w],A2,c2⟩,⟨rfl,rfl,trivial⟩,aH.refl,⟨⟨hI9,hC.pi.bump (fun _ h=>by cases h) hq hr (.inl (by rw[← hval];omega)),hC.sub.cut,?_,?_,by rw[hw9,hw8];exact hC.w⟩,hcv.cut hw,fun z hz=>?_,fun h=>(by cases h),?_,?_⟩,?_⟩
   ·show cj L P.n (pos1.set v (q+1))+(u+1)=_
    omega
   ·show fD (a8 par1 v none) P.n+(u+1)=_
    omega
   ·rcases List.mem_append.1 hz with hz|hz
    ·exact hwn z hz
    ·rw[List.mem_singleton.1 hz];exact hwn7
   ·show ((wt0++[x])++[w]).length≤u+1+1
    omega
   ·show s9.cost+((wt0++[x])++[w]).length*K1≤s2.cost+(u+1)*KU+K1
    rw[hlen2,h3,h4]
    omega
   ·show 2*fD (a8 par1 v none) P.n+((wt0++[x])++[w]).length<2*fD par1 P.n+(wt0++[x]).length
    omega
 ·have h0:wt=[]:=List.length_eq_zero_iff.1 (by omega)
  subst h0
  refine bN ng (aO ?_)
  have hroom':pK P par1 val1:=fun z w hz hw=>Classical.byContradiction fun hlt=>by
   obtain⟨_,hx,_⟩:=hcv z w hz hw (by omega)
   cases hx
  have hupos:1≤u:=by
   rcases Nat.eq_zero_or_pos u with h0|h0
   ·obtain⟨e1,e2⟩:=hu0 h0
    obtain⟨w,hw,hlt⟩:=hbad
    have:=hroom' y w (hpn y hyp) (by rw[e1];exact hw)
    rw[e2] at this
    omega
   ·exact h0
  refine⟨_,rfl,u,pos1,par1,val1,s3,W,rfl,hupos,hPW,by rw[hend,hk0],by rw[← htr'];exact hC.ti,by rw[← htr'];exact hC.pi,hroom',hC.rem,hC.lk,hC.w.trans hw2,?_⟩
  simp only[List.length_nil,Nat.zero_mul,Nat.add_zero] at hco
  have h1:u*(9*cX (P.n+1)+65*(P.n+1)+4)=u*KU+u*(4*cX (P.n+1)+26*(P.n+1)+1):=by
   rw[← Nat.mul_add,hKU];congr 1;omega
  have h2:1*(4*cX (P.n+1)+26*(P.n+1)+1)≤u*(4*cX (P.n+1)+26*(P.n+1)+1):=Nat.mul_le_mul_right _ hupos
  omega
end
end Go.Proofs.YtpbmihpjgjbndaaGreat
