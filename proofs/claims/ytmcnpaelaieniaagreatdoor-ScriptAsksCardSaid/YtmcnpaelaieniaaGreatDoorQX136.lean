import Derived.Test.YtmcnpaelaieniaaGreatDoorQX137
import Derived.Test.YtmcnpaelaieniaaGreatDoorQX139
/- A part of the proof. -/
set_option linter.unusedVariables false
set_option linter.unusedSimpArgs false
set_option maxHeartbeats 8000000
namespace Go.Proofs.YtmcnpaelaieniaaGreatDoor
open Go.RowKit
section
variable {P:EP} {L:Nat->LN_} {lv:Nat->Int} {gv:Nat->Nat} {rm0 tr:LI_} {pos:LN_} {par:OV} {val:Nat->Int}
theorem C4(hP:mr P L lv gv){u r:Nat}(h:r∈L u):eL P.N r<=P.n:=by
 have a:=nA hP.right (i4 hP h).1;have b:=hP.nodes;omega
theorem TA.val_in{rm:LI_}(h:TA P L rm0 tr pos par val rm){v:Nat}(a:v<=P.n):0<=val v/\val v<=4611686018427387904/\((par v).isSome->val v<4611686018427387904):=by
 cases hp:par v with
 |none=>have:=h.free v a hp;exact⟨aa,aa,λ h=>by cases h⟩
 |some w=>
  obtain⟨q,r,_,_,_,b⟩:=h.link v w a hp;have:=h.trb r;exact⟨aa,aa,λ _=>by omega⟩
def yQ(P:EP)(par:OV)(val:Nat->Int):Prop:=∀ u w,u<=P.n->par u=some w->P.least<=val u
abbrev vH(Aw:OA_)(cw:Nat)(wt:LN_):aU:=.own (.slice Aw wt.length cw) 3 1 wt.length (cJ wt)
structure WS where
 u:Nat
 pos:LN_
 par:OV
 val:Nat->Int
 s:ES
 wt:LN_
 A:OA_
 c:Nat
def Ml(P:EP)(L:Nat->LN_)(gv:Nat->Nat)(rm0 tr:LI_)(pos:LN_)(par:OV)(s:ES)(H':Heap):Prop:=
 ∃ u pos' par' val' s' W,H'=g7 P s'/\1<=u/\PI P.N L P.least tr pos W/\dQ P.N W=P.N.snk.toNat/\lG P L gv rm0 (df (dx tr W) W tr) pos' par' val' s'/\PI P.N L P.least (df (dx tr W) W tr) pos' []/\yQ P par' val'/\
   dv L P.n pos'+u=dv L P.n pos/\kj par' P.n+u=kj par P.n/\s'.w=s.w+1/\s'.cost<=s.cost+u*(9*em (P.n+1)+65*(P.n+1)+4)
theorem FB(hP:mr P L lv gv)(hle:1<=P.least)(s:ES)(hI:lG P L gv rm0 tr pos par val s)(p4:PI P.N L P.least tr pos [])(O:yQ P par val){f:LI_}(hf:aD P.N f)(he:tr=a9 (P.N.arcs.zip f)){p:LN_}(hp:aX par P.N.src.toNat p)(hl:p.getLast?=some P.N.snk.toNat):
 Fn 241 [.pointer (some ⟨P.pe,0,none⟩)] (ay (g7 P s)) ([P.sg]++g7 P s) λ _ H'=>Ml P L gv rm0 tr pos par s H':=by
 have hN:=hP.small;have hsr:=hP.right.src;have hsk:=hP.right.snk;have hdf:=hP.right.diff;have hnn:=hP.nodes;obtain⟨s0,h5⟩:∃ x,x=P.N.src.toNat:=⟨_,rfl⟩;obtain⟨D,hd⟩:∃ x,x=P.N.snk.toNat:=⟨_,rfl⟩;rw[<- h5] at hp;rw[<- hd] at hl;have hs1:P.N.src=(s0:Int):=aa;have hk1:P.N.snk=(D:Int):=aa;have hG:s0<P.n+1:=aa;have hkN:D<P.n+1:=aa;obtain⟨W,hW⟩:=hI.ta.walk_of hP hp aa hl;obtain⟨hy,hk⟩:=hW.pi h5 p4 (λ _ _ h=>C4 hP h) O;obtain⟨hH,q2,p2,hWfl,hWlen,hma,⟨f',hf',p8⟩,ht,hmono,_⟩:=kx hP.right hP.graded hle hf he hy (by rw[hk,hd]);have ho:par D=none:=hp.root_last hl;have k4:D∈p:=Oz hl;have hj:PI P.N L P.least (df (dx tr W) W tr) pos []:=⟨ht.pl,⟨_,rfl⟩,λ _ h=>(by cases h),ht.pass⟩;have hb:=gJ hP.right hf'.toRanged;rw[<- p8] at hb
 have Q:∀ u r,r∈L u->(df (dx tr W) W tr).getD r 0=tr.getD r 0-if r∈W then dx tr W else 0:=by
  intro u r hr;rw[jp (a:=dx tr W) (by rw[he];exact ku hf.len) q2 p2 r]
  have:cF r∉W:=by
   intro hA;have g1:=(hP.graded.ok _ _ hr);have g2:=(hP.graded.ok _ _ (hy.mem _ hA)).2.2;have g3:=g1.2.2;rw[kP,iK] at g2;rw[<- g1.2.1] at g3;omega
  rw[if_neg this];omega
 have c1:∀ z∈p,z<=P.n:=by
  intro z B
  rcases hW.all z B with e|⟨r,hr,e⟩
  ·omega
  ·rw[<- e];exact C4 hP (hy.mem r hr)
 obtain⟨a,ha⟩:∃ x,x=dx tr W:=⟨_,rfl⟩;obtain⟨S,U⟩:∃ x,x=df (dx tr W) W tr:=⟨_,rfl⟩;rw[<- U] at hj hb Q;rw[<- ha] at Q hma
 have hab:1<=a/\a<=4611686018427387903:=by
  obtain⟨r,_,h1⟩:=nu (rm:=tr) hH;have:=hI.ta.trb r;omega
 obtain⟨row,hF⟩:=hI.fa
 generalize hM:ay _=M
 refine aT Tryz.func241 λ w0=>?_;refine bQ oR<|il ?_;refine ah<|bB 2 (v':=af (s0:Int)) rfl (M8 (Value.int .i64) hs1)<|cA ?_;refine bK 12 (dS [0,1,2,3,4,5,6,7,8]++[(9,false),(10,false)]++dS [11]) [5] aW ab rfl<|qZ ?_;refine cz ?_;refine dC (CY hF hN hG hp) rfl aw.refl be ?_;rintro _ H' ⟨fs1,row1,y,rfl,rfl,hF1,k2,hyp,hk1'⟩;refine⟨rfl,bZ [5] ?_⟩
 have hL:val y=a:=by
  rw[ha];exact hW.most hH hyp k2.le (λ r=>by rw[hI.ta.free D aa ho];have:=hI.ta.trb r;omega)
 refine cz ?_;refine dC (xl hF1 hN (show y<P.n+1 by have:=c1 y hyp;omega)) rfl aw.refl be ?_;rintro _ H' ⟨fs2,rfl,rfl,hF2,hk2'⟩;refine⟨rfl,bZ [5] ?_⟩;refine eI (gs:=[999]) rfl rfl<|gF ?_;refine bB 3 (v':=af a) rfl (M8 (Value.int .i64) hL)<|il ?_;have hna:IntKind.i64.wrap (0-a)=-a:=(cv aa).trans aa;refine aB 29 (v':=af (-a)) rfl (M8 (Value.int .i64) hna) ?_;refine dC (De hF2 hN hG hp (d:=-a) aa (by intro z B;have h1:=k2.le z B;have h2:=(hI.ta.val_in (c1 z B)).2.1;omega)) rfl aw.refl be ?_;rintro _ H' ⟨fs3,row3,rfl,hF3,hk3'⟩;refine dE ?_;refine ng ?_;refine fw ?_;refine bK 11 (dS [0,1,2,3,4,5,6,7,8,9]++[(10,false)]) [5] aW ab rfl<|qZ ?_;refine dG 39 (v':=af (D:Int)) rfl (M8 (Value.int .i64) hk1)<|cz ?_;have hkfr:=hI.ta.free D aa ho;refine dC (De hF3 hN hkN (p:=[D]) ⟨rfl,ho⟩ (d:=a) aa (by intro z B;rw[Nh.1 B];simp only[if_pos k4];omega)) rfl aw.refl be ?_;rintro _ H' ⟨b2,l2,rfl,hF4,hk4'⟩;refine⟨rfl,bZ [5] ?_⟩;refine gF ?_;refine il ?_;refine aB 46 (v':=af (ei ((s.w+1:Nat):Int))) rfl (M8 (Value.int .i64) (tk _ _))<|ng ?_;refine dz 5 ?_;refine ah ?_;obtain⟨s2,hs2⟩:∃ x:ES,x={ s with fs:=b2,w:=s.w+1 }:=⟨_,rfl⟩;refine Hx ?_
 have hI2:lG P L gv rm0 S pos par (n9 p a D val) s2:=by
  rw[hs2];exact⟨⟨l2,hF4⟩,hI.ta.push hp hl hW Q (λ u r h=>(i4 hP h).2.1) hb,hI.vo,hI.tb⟩
 have hk2:s2.cost<=s.cost+3*em (P.n+1)+15*(P.n+1):=by
  rw[hs2];show s.k+b2.k<=s.k+s.fs.k+_+_;omega
 have hw2:s2.w=s.w+1:=by rw[hs2]
 have r1:KT P.n P.least par (n9 p a D val) [s0]:=by
  intro u w hu hw I;refine⟨s0,ai,p,hp,NE λ hA=>?_⟩;have hne:u≠D:=λ e=>hA (e▸k4);simp only[n9,Nh,if_neg hne,if_neg hA] at I;have:=O u w hu hw;omega
 have l1:∃ w,par y=some w/\n9 p a D val y<P.least:=by
  have h6:y≠D:=λ e=>by rw[e] at hL;omega
  rcases hW.all y hyp with e|⟨r,hr,e⟩
  ·exact absurd e h6
  ·refine⟨_,by rw[<- e];exact (hW.at_ r hr).2.2.1,?_⟩;simp only[n9,Nh,if_neg h6,if_pos hyp];omega
 clear hs2
 refine gD ?_;refine dp λ g2=>?_;refine lH 1 1 rfl ab<|aN ?_;refine bQ yO ?_;obtain⟨C,hK1⟩:∃ x,x=em (P.n+1)+11*(P.n+1)+1:=⟨_,rfl⟩;obtain⟨KU,hKU⟩:∃ x,x=5*em (P.n+1)+39*(P.n+1)+3:=⟨_,rfl⟩;refine au ?_
 refine cN (σ:=WS) (λ t=>[(4,.slice t.A t.wt.length t.c),(0,ap P.pe 0)]) (λ t=>pv P t.s (vH t.A t.c t.wt))
  (λ t=>HM P L gv rm0 S pos par (n9 p a D val) s2 t.u t.pos t.par t.val t.s/\KT P.n P.least t.par t.val t.wt/\(∀ x∈t.wt,x<=P.n)/\(t.u=0->t.par=par/\t.val=n9 p a D val)/\t.wt.length<=t.u+1/\
   t.s.cost+t.wt.length*C<=s2.cost+t.u*KU+C) (λ t=>2*kj t.par P.n+t.wt.length)
  ⟨0,pos,par,n9 p a D val,s2,[s0],aJ g2 0,1⟩ a8 aw.refl
  ⟨⟨hI2,hj,Sub.refl,rfl,rfl,rfl⟩,r1,(by intro x hx;rw[Nh.1 hx];omega),λ _=>⟨rfl,rfl⟩,ai,ai⟩ ?_
 rintro⟨u,o,g,l,j,wt,Aw,cw⟩ ⟨hC,hv,hn,hS,hwl,hc⟩;simp only at hC hv hn hS hwl hc ⊢;have hlk1:=vr par P.n;have hlk2:=hC.lk;refine iN ?_;refine ak rfl (λ I=>ag ?_) (λ hge=>?_)
 ·rcases N9 wt with h0|⟨b,x,rfl⟩
  ·rw[h0] at I;simp at I
  rw[Oa] at*;have hlen:(b++[x]).length=b.length+1:=ai;have hxn:x<=P.n:=hn x ai;refine aP (aH 9 rfl) λ ⟨_,hcw,hAw,_⟩=>?_;obtain⟨gw,rfl⟩:=hAw aa;refine au<|gD ?_;refine cK (aw.re (A:=P.fo j.fs++[P.sg,P.pc j.k j.w,P.rc j.rm,P.lc j.vals,P.uc j.un,vH (aJ gw 0) cw (b++[x])]) (R:=P.rows j.un) [5,0,1,2,3,4,6,7,8,9] rfl ab)<|bJ [999] (m0 P j.k j.w) rfl rfl rfl rfl aW aw.refl be aE<|?_;rintro v0 H' rfl;refine dE ?_;refine cK (aw.re (A:=[P.pc (j.k+1) j.w]++(P.fo j.fs++[P.sg,P.rc j.rm,P.lc j.vals,P.uc j.un,vH (aJ gw 0) cw (b++[x])])) (R:=P.rows j.un) [1,2,3,4,5,0,6,7,8,9] rfl ab)<|ah<|?_;obtain⟨s4,V⟩:∃ x:ES,x={ j with k:=j.k+1 }:=⟨_,rfl⟩;refine bQ (K:=pv P s4 (vH (aJ gw 0) cw (b++[x]))) (by rw[V];exact aw.refl) ?_;have hs:lG P L gv rm0 S o g l s4:=by rw[V];exact⟨hC.ti.fa,hC.ti.ta,hC.ti.vo,hC.ti.tb⟩
  have hk4:s4.cost=j.cost+1:=by rw[V];show j.k+1+j.fs.k=j.k+j.fs.k+1;omega
  have hw4:s4.w=j.w:=by rw[V]
  clear V
  refine il ?_;have hwl2:(b++[x]).length<=10002:=aa;refine aB 59 (v':=af (b.length:Int)) rfl (M8 (Value.int .i64) ((cv aa).trans aa))<|ae [999] (bG rfl (show b.length<(b++[x]).length by omega)) rfl<|ae [999] (aA 9 rfl rfl rfl (eE (show (b++[x])[b.length]?=some x by simp))) rfl<|ng ?_;refine ah ?_;obtain⟨row5,k3⟩:=hs.fa;obtain⟨px,hB⟩:=k3.path x aa;have hpl:∀ z∈px,z<=P.n:=λ z B=>by have:=aX.lt k3.lt hB (show x<P.n+1 by omega) z B;omega
  refine il ?_;refine dC (CY k3 hN (show x<P.n+1 by omega) hB) rfl aw.refl be ?_;rintro _ H' ⟨fs6,row6,v,rfl,rfl,hF6,q1,hvp,hk6⟩;refine dE ?_;refine ng ?_;refine ah ?_;have X:=hpl v hvp;refine cA ?_;refine bK 11 (dS [0,1,2,3,4,6,7,8,9]++[(5,false)]++dS [10]) [5] aW ab rfl<|qZ ?_;refine cz ?_;refine dC (xl hF6 hN (show v<P.n+1 by omega)) rfl aw.refl be ?_;rintro _ H' ⟨r2,rfl,rfl,hF7,hk7⟩;refine⟨rfl,bZ [5] ?_⟩;refine eI (gs:=[999]) rfl rfl<|gF ?_;obtain⟨F,Y⟩:∃ x:ES,x={ s4 with fs:=r2 }:=⟨_,rfl⟩;refine bQ (K:=pv P F (vH (aJ gw 0) cw (b++[x]))) (by rw[Y];exact aw.refl) ?_;have E:lG P L gv rm0 S o g l F:=by rw[Y];exact⟨⟨_,hF7⟩,hs.ta,hs.vo,hs.tb⟩
  have hk8:F.cost<=j.cost+C:=by
   have h1:s4.cost=s4.k+s4.fs.k:=rfl;have h2:F.cost=s4.k+r2.k:=by rw[Y];rfl
   omega
  have b1:F.w=j.w:=by rw[Y];exact hw4
  clear Y
  refine cA ?_;refine ak rfl (λ hge=>?_) (λ hlt7=>ag ?_)
  ·refine bA ?_;refine lK ?_;refine lK ?_;refine aB 82 (v':=af (b.length:Int)) rfl (congrArg (Value.int .i64) ((cv aa).trans aa))<|ae [999] (jO (i:=b.length) rfl rfl rfl rfl rfl aa) rfl<|aN ?_;refine aO ?_;have h1:(b.length+1)*C=b.length*C+C:=by rw[Nat.add_mul,Nat.one_mul]
   rw[hlen,h1] at hc;refine⟨⟨u,o,g,l,F,b,aJ gw 0,cw⟩,a8,?_,⟨⟨E,hC.pi,hC.sub,hC.rem,hC.lk,by rw[b1];exact hC.w⟩,hv.pop hB (λ z B=>by have h1:=q1.le z B;omega),λ z B=>hn z (by simp[B]),hS,by show b.length<=u+1;omega,?_⟩,?_⟩
   ·refine aw.trans (aw.shrink (m:=b.length) 9 rfl aa) ?_;show aw _ (pv P F (.own (.slice _ _ _) _ _ _ (List.take (b.length*1) (cJ (b++[x]))))) _;rw[NR,uR,List.take_left];exact aw.refl
   ·show F.cost+b.length*C<=s2.cost+u*KU+C;omega
   ·show 2*kj g P.n+b.length<2*kj g P.n+(b++[x]).length;omega
  ·obtain⟨w,hw⟩:∃ w,g v=some w:=by
    cases hp1:g v with
    |some w=>exact⟨w,rfl⟩
    |none=>have:=E.ta.free v X hp1;omega
   obtain⟨q,r,hq,hr,hto,hg⟩:=E.ta.link v w X hw;have hrm:=M9 hr
   have hV:w<=P.n:=by
    have:=(j1 hP.right (i4 hP hrm).1).2.2;omega
   obtain⟨row7,a1⟩:=E.fa;refine il ?_;refine dC (Kg a1 hN (show v<P.n+1 by omega)) rfl aw.refl be ?_;rintro _ H' ⟨n2,row8,rfl,rfl,hF8,hk9⟩;refine dE ?_;refine aB 90 (v':=af (w:Int)) rfl (M8 (Value.int .i64) (gX hw))<|dp λ g3=>?_;refine bp (n:=(b++[x]).length) (m:=1) (off:=0) (news:=aj [(w:Int)]) 10 0 rfl rfl rfl rfl rfl rfl ab rfl rfl (aQ g3 _ _ (0,0)) aE rfl rfl aa aa (λ _ _=>rfl) λ A2 c2=>?_;rw[show (b++[x]).length+1=((b++[x])++[w]).length by simp,oz];refine aN ?_;obtain⟨s8,Z⟩:∃ x:ES,x={ F with fs:=n2 }:=⟨_,rfl⟩;refine bQ (K:=pv P s8 (vH A2 c2 ((b++[x])++[w]))) (by rw[Z];exact aw.sub (NU _ _)) ?_;have hI8:lG P L gv rm0 S o g l s8:=by rw[Z];exact⟨⟨_,hF8⟩,E.ta,E.vo,E.tb⟩
   have hk10:s8.cost<=F.cost+em (P.n+1)+5*(P.n+1):=by
    have h1:F.cost=F.k+F.fs.k:=rfl;have h2:s8.cost=F.k+n2.k:=by rw[Z];rfl
    omega
   have hw8:s8.w=j.w:=by rw[Z];exact b1
   clear Z
   refine il ?_;refine dC (vU hP s8 hI8 X hw hq hr hto hg) rfl uV ⟨bx 0 rfl,be⟩ ?_;rintro _ H' ⟨s9,rfl,hI9,hw9,hk11⟩;refine⟨dc rfl (dd _ _),?_⟩;refine cK tJ<|ah<|?_;have hrem:=jg (L:=L) hq X (Nb.1 hr).1;have hlk:=xQ X hw;have h1:=hC.rem;have h2:(b.length+1)*C=b.length*C+C:=by rw[ON,Nat.one_mul]
   have h3:(b.length+1+1)*C=b.length*C+C+C:=by rw[ON,ON,Nat.one_mul]
   have h4:(u+1)*KU=u*KU+KU:=by rw[ON,Nat.one_mul]
   rw[hlen,h2] at hc;have n1:((b++[x])++[w]).length=b.length+1+1:=ai;refine⟨⟨u+1,o.set v (q+1),bH g v none,iV l v (4611686018427387904-l v),s9,(b++[x])++[w],A2,c2⟩,a8,aw.refl,⟨⟨hI9,hC.pi.bump (λ _ h=>by cases h) hq hr (.inl (by rw[<- hg];omega)),hC.sub.cut,?_,?_,by rw[hw9,hw8];exact hC.w⟩,hv.cut hw,λ z B=>?_,λ h=>(by cases h),?_,?_⟩,?_⟩
   ·show dv L P.n (o.set v (q+1))+(u+1)=_;omega
   ·show kj (bH g v none) P.n+(u+1)=_;omega
   ·rcases Nm.1 B with B|B
    ·exact hn z B
    ·rw[Nh.1 B];exact hV
   ·show ((b++[x])++[w]).length<=u+1+1;omega
   ·show s9.cost+((b++[x])++[w]).length*C<=s2.cost+(u+1)*KU+C;rw[n1,h3,h4];omega
   ·show 2*kj (bH g v none) P.n+((b++[x])++[w]).length<2*kj g P.n+(b++[x]).length;omega
 ·have h0:wt=[]:=Nw.1 aa;subst h0;refine bQ wO (aO ?_)
  have H:yQ P g l:=λ z w B hw=>NE λ I=>by
   obtain⟨_,hx,_⟩:=hv z w B hw aa
   cases hx
  have hR:1<=u:=by
   rcases OW u with h0|h0
   ·obtain⟨e1,e2⟩:=hS h0;obtain⟨w,hw,I⟩:=l1;have:=H y w (c1 y hyp) (by rw[e1];exact hw);rw[e2] at this;omega
   ·exact h0
  refine⟨_,rfl,u,o,g,l,j,W,rfl,hR,hy,by rw[hk,hd],by rw[<- U];exact hC.ti,by rw[<- U];exact hC.pi,H,hC.rem,hC.lk,hC.w.trans hw2,?_⟩;simp only[NA,Nat.zero_mul,OZ] at hc
  have h1:u*(9*em (P.n+1)+65*(P.n+1)+4)=u*KU+u*(4*em (P.n+1)+26*(P.n+1)+1):=by
   rw[<- Ow,hKU];congr 1;omega
  have h2:1*(4*em (P.n+1)+26*(P.n+1)+1)<=u*(4*em (P.n+1)+26*(P.n+1)+1):=Ou _ hR;omega
end
inductive TR (N:aR) (L:Nat->LN_) (least:Int):LI_->List (LN_×Int)->LI_->Prop
 |stop {tr:LI_} {pos:LN_}:PI N L least tr pos []->qB L pos N.src.toNat->TR N L least tr [] tr
 |walk {tr tr':LI_} {pos W:LN_} {ws:List (LN_×Int)}:PI N L least tr pos W->dQ N W=N.snk.toNat->TR N L least (df (dx tr W) W tr) ws tr'->TR N L least tr ((W,dx tr W)::ws) tr'
def eM(n:Nat):Nat:=5*em (n+1)+17*(n+1)+2
def eG(n:Nat):Nat:=15*em (n+1)+87*(n+1)+7
section
variable {P:EP} {L:Nat->LN_} {lv:Nat->Int} {gv:Nat->Nat} {rm0 tr:LI_} {pos:LN_} {par:OV} {val:Nat->Int}
structure RS where
 ws:List (LN_×Int)
 f:LI_
 tr:LI_
 pos:LN_
 par:OV
 val:Nat->Int
 s:ES
def MY(P:EP)(L:Nat->LN_)(gv:Nat->Nat)(rm0 tr:LI_)(pos:LN_)(par:OV)(s:ES)(H':Heap):Prop:=
 ∃ t:RS,H'=g7 P t.s/\TR P.N L P.least tr t.ws t.tr/\lG P L gv rm0 t.tr t.pos t.par t.val t.s/\aD P.N t.f/\t.tr=a9 (P.N.arcs.zip t.f)/\t.s.w=s.w+t.ws.length/\
   t.s.cost+eG P.n*dv L P.n t.pos+eM P.n*kj par P.n<=s.cost+eG P.n*dv L P.n pos+eM P.n*kj t.par P.n+(em (P.n+1)+5*(P.n+1)+1)
structure MO (P:EP) (L:Nat->LN_) (gv:Nat->Nat) (rm0 tr:LI_) (pos:LN_) (par:OV) (s:ES) (t:RS):Prop where
 acc:∀ ws tr',TR P.N L P.least t.tr ws tr'->TR P.N L P.least tr (t.ws++ws) tr'
 ti:lG P L gv rm0 t.tr t.pos t.par t.val t.s
 pi:PI P.N L P.least t.tr t.pos []
 room:yQ P t.par t.val
 flow:aD P.N t.f
 tre:t.tr=a9 (P.N.arcs.zip t.f)
 w:t.s.w=s.w+t.ws.length
 cost:t.s.cost+eG P.n*dv L P.n t.pos+eM P.n*kj par P.n<=s.cost+eG P.n*dv L P.n pos+eM P.n*kj t.par P.n
theorem Ld(hP:mr P L lv gv)(hle:1<=P.least)(s:ES)(hI:lG P L gv rm0 tr pos par val s)(c1:PI P.N L P.least tr pos [])(X:yQ P par val){f:LI_}(hf:aD P.N f)(he:tr=a9 (P.N.arcs.zip f)):
 Fn 234 [.pointer (some ⟨P.pe,0,none⟩)] (ay (g7 P s)) ([P.sg]++g7 P s) λ _ H'=>MY P L gv rm0 tr pos par s H':=by
 have hN:=hP.small;have l2:=hP.right.src;have r1:=hP.right.snk;have l1:=hP.right.diff;have h6:=hP.nodes;obtain⟨s0,h0⟩:∃ x,x=P.N.src.toNat:=⟨_,rfl⟩;obtain⟨k0,hc⟩:∃ x,x=P.N.snk.toNat:=⟨_,rfl⟩;have hs:P.N.src=(s0:Int):=aa;have hS:P.N.snk=(k0:Int):=aa;have Y:s0<P.n+1:=aa;have r2:k0<P.n+1:=aa
 generalize hM:ay _=M
 refine aT Tryz.func234 λ w0=>?_;refine bQ oR<|au<|?_
 refine cN (σ:=RS) (λ _=>[(0,ap P.pe 0)]) (λ t=>rQ P t.s) (λ t=>MO P L gv rm0 tr pos par s t) (λ t=>2*dv L P.n t.pos+(P.n+2-kj t.par P.n))
  ⟨[],f,tr,pos,par,val,s⟩ ⟨rfl,be⟩ aw.refl ⟨λ _ _ h=>h,hI,c1,X,hf,he,rfl,Np _⟩ ?_
 rintro⟨ws,f1,i,g,a,F,s1⟩ l;have D:=l.ti;have Z:=l.pi;have S:=l.room;have k3:=l.w;have hB:=l.cost;simp only at D Z S k3 hB ⊢;have b1:=vr a P.n;refine au<|il ?_;refine cK (aw.re (A:=P.fo s1.fs++[P.sg,P.pc s1.k s1.w,P.rc s1.rm,P.lc s1.vals,P.uc s1.un]) (R:=P.rows s1.un) [5,0,1,2,3,4,6,7,8] rfl ab)<|bJ [999] (m0 P s1.k s1.w) rfl rfl rfl rfl aW aw.refl be aE<|?_;rintro v0 H' rfl;refine⟨rfl,?_⟩;refine cK (aw.re (A:=[P.pc (s1.k+1) s1.w]++(P.fo s1.fs++[P.sg,P.rc s1.rm,P.lc s1.vals,P.uc s1.un])) (R:=P.rows s1.un) [1,2,3,4,5,0,6,7,8] rfl ab)<|ah<|?_;obtain⟨row,hF⟩:=D.fa;obtain⟨p,hp⟩:=hF.path s0 Y
 (repeat' (first|refine am ?_|refine ag ?_|refine bD rfl ?_|refine bu rfl ?_))
 refine bK 11 (dS [0,1,2,3,4,5,6,7,8]++[(9,false)]++dS [10]) [5] aW ab rfl<|qZ ?_;refine dG 13 (v':=af (s0:Int)) rfl (M8 (Value.int .i64) hs)<|cz ?_;refine dC (K8 hF hN Y hp) rfl aw.refl be ?_;rintro _ H' ⟨ha,k4,y,rfl,rfl,q1,E,hV⟩;refine⟨rfl,bZ [5] ?_⟩;refine eI (gs:=[999]) rfl rfl<|gF ?_;obtain⟨s2,hs2⟩:∃ x:ES,x={ s1 with k:=s1.k+1,fs:=ha }:=⟨_,rfl⟩;refine Hx ?_;have hk:lG P L gv rm0 i g a F s2:=by rw[hs2];exact⟨⟨_,q1⟩,D.ta,D.vo,D.tb⟩
 have a1:s2.cost<=s1.cost+em (P.n+1)+5*(P.n+1)+1:=by
  rw[hs2];show s1.k+1+ha.k<=s1.k+s1.fs.k+_+_+1;omega
 have n2:s2.w=s1.w:=by rw[hs2]
 clear hs2
 have hx:a y=none:=hp.root_last E;have hyp:y∈p:=Oz E;have h4:∀ z∈p,z<=P.n:=λ z hz=>by have:=aX.lt hF.lt hp Y z hz;omega
 have h3:=h4 y hyp;refine au<|il ?_;refine aB 24 (v':=af (k0:Int)) rfl (M8 (Value.int .i64) hS)<|ng ?_;refine fw ?_;refine ak rfl (λ heq=>?_) (λ hL=>?_)
 ·have hy:y=k0:=by omega
  subst hy;refine il ?_;refine dC (FB hP hle s2 hk Z S l.flow l.tre (p:=p) (by rw[<- h0];exact hp) (by rw[<- hc];exact E)) rfl oQ ⟨bx 0 rfl,be⟩ ?_;rintro _ H' ⟨u,c,o,hH,H,W,rfl,hu,ht,U,j,m,hj,hA,I,n1,k2⟩;refine⟨dc rfl (dd _ _),?_⟩;refine cK oU<|ah<|?_;obtain⟨_,_,_,_,_,_,⟨f2,h5,hg⟩,_⟩:=kx hP.right hP.graded hle l.flow l.tre ht U;have g1:eG P.n*dv L P.n g=eG P.n*dv L P.n c+eG P.n*u:=by rw[<- hA,Ow]
  have g2:eM P.n*kj a P.n=eM P.n*kj o P.n+eM P.n*u:=by rw[<- I,Ow]
  have g3:eG P.n*u=eM P.n*u+u*(10*em (P.n+1)+70*(P.n+1)+5):=by
   rw[Nat.mul_comm u,<- ON];congr 1;unfold eG eM;omega
  have g4:u*(10*em (P.n+1)+70*(P.n+1)+5)=u*(9*em (P.n+1)+65*(P.n+1)+4)+u*(em (P.n+1)+5*(P.n+1)+1):=by
   rw[<- Ow];congr 1;omega
  have g5:1*(em (P.n+1)+5*(P.n+1)+1)<=u*(em (P.n+1)+5*(P.n+1)+1):=Ou _ hu;refine⟨⟨ws++[(W,dx i W)],f2,df (dx i W) W i,c,o,hH,H⟩,⟨rfl,be⟩,aw.refl,⟨λ hG q2 h=>?_,j,m,hj,h5,hg,?_,?_⟩,?_⟩
  ·show TR P.N L P.least tr ((ws++[(W,dx i W)])++hG) q2;rw[NI];exact l.acc _ _ (TR.walk ht U h)
  ·show H.w=s.w+(ws++[(W,dx i W)]).length;rw[Ng,NF];omega
  ·show H.cost+eG P.n*dv L P.n c+eM P.n*kj par P.n<=s.cost+eG P.n*dv L P.n pos+eM P.n*kj o P.n;omega
  ·show 2*dv L P.n c+(P.n+2-kj o P.n)<2*dv L P.n g+(P.n+2-kj a P.n);omega
 ·have hy:y≠k0:=by omega
  refine cA ?_;refine il ?_;refine dC (Kd hP s2 hk Z h3 hx) rfl oQ ⟨bx 0 rfl,be⟩ ?_;rintro _ H' ⟨b,H,rfl,rfl,c,m,n1,p2,hb⟩;refine⟨dc rfl (dd _ _),?_⟩;refine cK oU<|ng ?_;refine fw ?_;obtain⟨d,hd⟩:∃ d,dv L P.n g=dv L P.n c+d:=⟨dv L P.n g-dv L P.n c,aa⟩;have g1:eG P.n*dv L P.n g=eG P.n*dv L P.n c+eG P.n*d:=by rw[hd,Ow]
  have g2:d<=eG P.n*d:=Nat.le_mul_of_pos_left d (by unfold eG;omega)
  rcases hb with ⟨rfl,q,r,hq,hr,p4,j,k2⟩|⟨rfl,O,j,k2⟩
  ·refine bD rfl (ag ?_);have I:=GZ (w:=gQ P.N r) h3 hx;have g3:eM P.n*(kj a P.n+1)=eM P.n*kj a P.n+eM P.n:=by rw[Nat.mul_add,Nat.mul_one]
   have g4:eM P.n=5*em (P.n+1)+17*(P.n+1)+2:=rfl;have b2:=vr (bH a y (some (gQ P.N r))) P.n;refine⟨⟨ws,f1,i,c,bH a y (some (gQ P.N r)),iV F y (i.getD r 0-4611686018427387904),H⟩,⟨rfl,be⟩,aw.refl,⟨l.acc,j,m,λ u w hu hw=>?_,l.flow,l.tre,?_,?_⟩,?_⟩
   ·simp only[iV,Nh];by_cases e:u=y
    ·subst e;rw[if_pos rfl,D.ta.free u hu hx];omega
    ·rw[if_neg e];exact S u w hu (by simpa [bH,e] using hw)
   ·show H.w=s.w+ws.length;omega
   ·show H.cost+eG P.n*dv L P.n c+eM P.n*kj par P.n<=s.cost+eG P.n*dv L P.n pos+eM P.n*kj (bH a y (some (gQ P.N r))) P.n;rw[I,g3];omega
   ·show 2*dv L P.n c+(P.n+2-kj (bH a y (some (gQ P.N r))) P.n)<2*dv L P.n g+(P.n+2-kj a P.n);omega
  ·refine bu rfl<|cA ?_;refine il ?_;refine aB 38 (v':=af (s0:Int)) rfl (M8 (Value.int .i64) hs)<|ng ?_;refine fw ?_;refine ak rfl (λ heq=>?_) (λ hns=>?_)
   ·have hv:y=s0:=by omega
    refine bQ qX (bM ⟨_,rfl,⟨ws,f1,i,c,a,F,H⟩,rfl,?_,j,l.flow,l.tre,?_,?_⟩)
    ·have:=l.acc [] i (TR.stop m (by rw[← h0,← hv];exact O))
     rwa [NL] at this
    ·show H.w=s.w+ws.length;omega
    ·show H.cost+eG P.n*dv L P.n c+eM P.n*kj par P.n<=s.cost+eG P.n*dv L P.n pos+eM P.n*kj a P.n+_;omega
   ·have hv:y≠s0:=by omega
    obtain⟨v0,hW,p8⟩:∃ v0,v0<=P.n/\a v0=some y:=by
     obtain⟨A,z,Q⟩:=hp.ne;rw[Q,N0] at E;simp only[List.getLast?_singleton,Option.some_or,Na] at E;subst E
     rcases N9 A with rfl|⟨B,b,rfl⟩
     ·rw[Q] at hp;exact absurd hp.1.symm hv
     ·rw[Oa] at Q;refine⟨b,h4 b (by rw[Q];simp),aX.next (A:=B) (B:=[]) (x:=s0) (by rw[Q] at hp;simpa using hp)⟩
    refine il ?_;refine dC (Kl hP H j m h3 O (by rw[<- hc];exact hy) hW p8) rfl oQ ⟨bx 0 rfl,be⟩ ?_;rintro _ H' ⟨u,v,C,V,s4,rfl,hu,hC,hc4⟩;refine⟨dc rfl (dd _ _),?_⟩;refine cK oU<|ah<|?_;have hn:=hC.rem;have ho:=hC.lk;have hw4:=hC.w;have e1:eG P.n*dv L P.n c=eG P.n*dv L P.n v+eG P.n*u:=by rw[<- hn,Ow]
    have e2:eM P.n*kj a P.n=eM P.n*kj C P.n+eM P.n*u:=by rw[<- ho,Ow]
    have e3:eG P.n*u=eM P.n*u+u*(10*em (P.n+1)+70*(P.n+1)+5):=by
     rw[Nat.mul_comm u,<- ON];congr 1;unfold eG eM;omega
    have e4:u*(10*em (P.n+1)+70*(P.n+1)+5)=u*(2*em (P.n+1)+12*(P.n+1)+1)+u*(8*em (P.n+1)+58*(P.n+1)+4):=by
     rw[<- Ow];congr 1;omega
    have e5:1*(8*em (P.n+1)+58*(P.n+1)+4)<=u*(8*em (P.n+1)+58*(P.n+1)+4):=Ou _ hu;refine⟨⟨ws,f1,i,v,C,V,s4⟩,⟨rfl,be⟩,aw.refl,⟨l.acc,hC.ti,hC.pi,λ z w hz hw=>?_,l.flow,l.tre,?_,?_⟩,?_⟩
    ·obtain⟨h1,h2⟩:=hC.sub z w hw;show P.least<=V z;rw[h2];exact S z w hz h1
    ·show s4.w=s.w+ws.length;omega
    ·show s4.cost+eG P.n*dv L P.n v+eM P.n*kj par P.n<=s.cost+eG P.n*dv L P.n pos+eM P.n*kj C P.n;omega
    ·show 2*dv L P.n v+(P.n+2-kj C P.n)<2*dv L P.n g+(P.n+2-kj a P.n);omega
end
section
variable {P:EP} {L:Nat->LN_} {lv:Nat->Int} {gv:Nat->Nat} {rm0 tr:LI_} {pos:LN_} {par:OV} {val:Nat->Int}
structure M0 where
 i:Nat
 par:OV
 val:Nat->Int
 s:ES
structure MK (P:EP) (L:Nat->LN_) (gv:Nat->Nat) (rm0 tr:LI_) (pos:LN_) (par:OV) (s:ES) (ok:Nat->Nat->Prop) (par':OV) (val':Nat->Int) (s':ES) (i:Nat):Prop where
 fa:∃ row,iW (P.n+1) s'.fs par' val' row
 ta:TA P L rm0 tr pos par' val' s'.rm
 vals:s'.vals=s.vals
 un:s'.un=s.un
 w:s'.w=s.w
 sub:∀ u w,u<=P.n->(par' u=some w↔par u=some w/\ok u w)
 cost:s'.cost+(2*em (P.n+1)+11*(P.n+1)+1)*kj par' P.n<=s.cost+(2*em (P.n+1)+11*(P.n+1)+1)*kj par P.n+i
theorem Hz(hP:mr P L lv gv)(s:ES)(U:lG P L gv rm0 tr pos par val s):
 Fn 235 [.pointer (some ⟨P.pe,0,none⟩)] (ay (g7 P s)) ([P.sg]++g7 P s) λ _ H'=>∃ par' V s',H'=g7 P s'/\TA P L rm0 tr pos par' V s'.rm/\(∀ u,u<=P.n->par' u=none)/\s'.w=s.w/\s'.cost<=s.cost+(2*em (P.n+1)+11*(P.n+1)+1)*(P.n+1)+(P.n+1):=by
 have hN:=hP.small;have hH:=U.tb.len;obtain⟨KS,hv⟩:∃ x,x=2*em (P.n+1)+11*(P.n+1)+1:=⟨_,rfl⟩
 generalize hM:ay _=M
 refine aT Tryz.func235 λ w0=>?_;refine bQ oR<|il ?_;refine ah<|au<|?_
 refine cN (σ:=M0) (λ t=>[(11,af (t.i:Int)),(10,af ((P.n+1:Nat):Int)),(9,ax P.gu 0 (P.n+1) (P.n+1)),(0,ap P.pe 0)]) (λ t=>rQ P t.s)
  (λ t=>t.i<=P.n+1/\MK P L gv rm0 tr pos par s (λ _ w=>t.i<=w) t.par t.val t.s t.i) (λ t=>P.n+1-t.i) ⟨0,par,val,s⟩ a8 aw.refl
  ⟨Nk _,⟨U.fa,U.ta,rfl,rfl,rfl,λ u w _=>⟨λ h=>⟨h,Nk _⟩,λ h=>h.1⟩,Np _⟩⟩ ?_
 rintro⟨i,o,B,s1⟩ ⟨hi,b⟩;simp only at hi b ⊢;refine iN ?_;refine ak rfl (λ ht=>ag ?_) (λ k2=>?_)
 ·have hb:i≤P.n:=by omega
  obtain⟨A,c,W,X,hf,Y,hg⟩:=U.tb.get hb;have Z:s1.un[i]?=some ⟨A,c,kT W⟩:=by rw[b.un];exact X
  refine am (au ?_);refine bA ?_;refine ae [999] (bG rfl (show i<P.n+1 by omega)) rfl<|ae [999] (aA (v:=.slice A (kT W).length c) 8 rfl rfl rfl (show (s1.un.map cT)[i]?=_ by rw[Ni,Z];rfl)) rfl ?_;rw[eU];refine aN ?_
  (repeat' (first|refine am ?_|refine ag ?_|refine bD rfl ?_|refine bu rfl ?_))
  refine aC<|cD (gs:=[999]) rfl<|cK (aw.re (A:=P.fo s1.fs++[P.sg,P.pc s1.k s1.w,P.rc s1.rm,P.lc s1.vals,P.uc s1.un]) (R:=P.rows s1.un) [5,0,1,2,3,4,6,7,8] rfl ab)<|bJ [999] (m0 P s1.k s1.w) rfl rfl rfl rfl aW aw.refl be aE<|?_;rintro v0 H' rfl;refine⟨rfl,?_⟩;refine cK (aw.re (A:=[P.pc (s1.k+1) s1.w]++(P.fo s1.fs++[P.sg,P.rc s1.rm,P.lc s1.vals,P.uc s1.un])) (R:=P.rows s1.un) [1,2,3,4,5,0,6,7,8] rfl ab)<|ah<|?_;obtain⟨s2,N⟩:∃ x:ES,x={ s1 with k:=s1.k+1 }:=⟨_,rfl⟩;refine bQ (K:=rQ P s2) (by rw[N];exact aw.refl) ?_
  have hx:MK P L gv rm0 tr pos par s (λ u w=>i<w\/w=i/\∃ j,0<=j/\W[j]?=some u) o B s2 (i+1):=by
   rw[N];refine⟨b.fa,b.ta,b.vals,b.un,b.w,λ u w hu=>?_,?_⟩
   ·rw[b.sub u w hu];refine⟨fun ⟨l,d⟩=>⟨l,?_⟩,fun ⟨l,d⟩=>⟨l,by rcases d with d|d<;>omega⟩⟩
    rcases PZ i w with h3|h3
    ·exact .inl h3
    ·have:w=i:=by omega
     subst this;obtain⟨j,hj,hn⟩:=NT.1 ((Y u).2 ⟨hu,l⟩);exact .inr ⟨rfl,j,Nk _,by rw[an hj,hn]⟩
   ·have:=b.cost;show s1.k+1+s1.fs.k+_<=_;have d:s1.cost=s1.k+s1.fs.k:=rfl;omega
  clear N
  (repeat' (first|refine am ?_|refine ag ?_|refine bD rfl ?_|refine bu rfl ?_))
  refine aC<|cX [] ?_
  (repeat' (first|refine am ?_|refine ag ?_|refine bD rfl ?_|refine bu rfl ?_))
  refine au ?_
  refine cN (σ:=M0) (λ t=>[(19,af (t.i:Int)),(18,af (W.length:Int)),(17,.slice A W.length c),(11,af (i:Int)),(10,af ((P.n+1:Nat):Int)),(9,ax P.gu 0 (P.n+1) (P.n+1)),(0,ap P.pe 0)]) (λ t=>rQ P t.s)
   (λ t=>t.i<=W.length/\MK P L gv rm0 tr pos par s (λ u w=>i<w\/w=i/\∃ j,t.i<=j/\W[j]?=some u) t.par t.val t.s (i+1)) (λ t=>W.length-t.i) ⟨0,o,B,s2⟩ a8 aw.refl
   ⟨Nk _,hx⟩ ?_
  clear b hx
  rintro⟨j,p,y,D⟩ ⟨hj,a⟩;simp only at hj a ⊢;refine iN ?_;refine ak rfl (λ hs=>ag ?_) (λ ha=>aO ?_)
  ·have O:j<W.length:=by omega
   obtain⟨u,hu⟩:∃ u,W[j]?=some u:=⟨W[j],an O⟩;have m:=(Y u).1 (M9 hu);have E:p u=some i:=(a.sub u i m.1).2 ⟨m.2,.inr ⟨rfl,j,Np _,hu⟩⟩;obtain⟨hk,h0⟩:=a.fa;obtain⟨q,r,hq,hr,hd,F⟩:=a.ta.link u i m.1 E;have H:D.un[i]?=some ⟨A,c,kT W⟩:=by rw[a.un];exact X
   refine aP (aH (9+(P.rowsL.length+i)) (CZ H)) λ ⟨_,_,hA,_⟩=>?_;obtain⟨g,rfl⟩:=hA (by rw[eU];omega);refine am (au ?_);refine bA ?_;refine aG (bG rfl O) ?_;refine aG (aA (9+(P.rowsL.length+i)) rfl rfl (CZ H) (eE hu)) ?_;refine fR ?_;refine ng ?_;refine dC (vJ hP D a.ta h0 (by rw[a.vals];exact U.vo) m.1 E hq hr F) rfl oQ ⟨bx 0 rfl,be⟩ ?_;rintro _ H' ⟨hR,hy,rfl,hc,hW⟩;refine⟨dc rfl (dd _ _),?_⟩;refine cK oU<|dw ?_;have Q:=xQ m.1 E;have S:=a.cost;refine⟨⟨j+1,bH p u none,iV y u (4611686018427387904-y u),{ D with fs:=hR,rm:=D.rm.set r (y u),k:=D.k+1 }⟩,⟨?_,rfl,rfl,rfl,rfl,rfl,rfl,be⟩,aw.refl,⟨O,⟨⟨hy,hc⟩,a.ta.settle hP m.1 E hq hr F,a.vals,a.un,a.w,λ z w hz=>?_,?_⟩⟩,?_⟩
   ·show some (af (IntKind.i64.wrap ((j:Int)+1)))=_;rw[cv aa];rfl
   ·by_cases e:z=u
    ·subst e;simp only[bH,if_true];refine⟨fun h=>(by cases h),fun ⟨l,d⟩=>?_⟩;rw[m.2] at l;simp only[Option.some.injEq] at l
     rcases d with d|⟨_,I,C,f⟩
     ·omega
     ·have e1:=(Nb.1 hu);have e2:=(Nb.1 f);have:=(List.getElem_inj hf).1 (e1.2.trans e2.2.symm);have ho:j+1<=I:=C;omega
    ·simp only[bH,if_neg e];rw[a.sub z w hz];refine⟨λ ⟨l,d⟩=>⟨l,?_⟩,λ ⟨l,d⟩=>⟨l,?_⟩⟩
     ·rcases d with d|⟨d,I,C,f⟩
      ·exact .inl d
      ·refine .inr ⟨d,I,?_,f⟩
       rcases PZ j I with h3|h3
       ·exact h3
       ·have:I=j:=by omega
        subst this;rw[hu] at f;simp only[Na] at f;exact absurd f.symm e
     ·rcases d with d|⟨d,I,C,f⟩
      ·exact .inl d
      ·exact .inr ⟨d,I,Nat.le_of_succ_le C,f⟩
   ·rw[<- Q,Ow,NR] at S;have l:D.cost=D.k+D.fs.k:=rfl;show D.k+1+hR.k+_*kj (bH p u none) P.n<=_;omega
   ·show W.length-(j+1)<W.length-j;omega
  ·obtain rfl:j=W.length:=by omega
   refine ao ?_;refine⟨⟨i+1,p,y,D⟩,⟨?_,rfl,rfl,rfl,be⟩,aw.refl,⟨by show i+1<=P.n+1;omega,⟨a.fa,a.ta,a.vals,a.un,a.w,λ u w hu=>?_,a.cost⟩⟩,?_⟩
   ·refine nb ?_;rw[cv aa];rfl
   ·rw[a.sub u w hu];refine⟨λ ⟨l,d⟩=>⟨l,?_⟩,λ ⟨l,d⟩=>⟨l,.inl d⟩⟩
    rcases d with d|⟨_,I,C,f⟩
    ·exact d
    ·have:=(Nb.1 f).1;omega
   ·show P.n+1-(i+1)<P.n+1-i;omega
 ·have c1:i=P.n+1:=by omega
  refine bQ qX (aO ?_);have Q:=vr par P.n;have S:=b.cost;refine⟨_,rfl,o,B,s1,rfl,b.ta,λ u hu=>?_,b.w,?_⟩
  ·cases hp:o u with
   |none=>rfl
   |some w=>
    obtain⟨l,d⟩:=(b.sub u w hu).1 hp;obtain⟨q,r,_,h4,h5,_⟩:=U.ta.link u w hu l;have h6:=j1 hP.right (i4 hP (M9 h4)).1;have h7:=hP.nodes;have h8:i<=w:=d;omega
  ·rw[<- hv] at S ⊢;have l:KS*kj par P.n<=KS*(P.n+1):=O7 _ Q;omega
end
theorem BI{X:Cx}{E:Env}{H:Heap}{o:Oper}{t n e s g s1 k:Nat}{z:Value}{v:Option Value}{uk:UK}{fs:List (Nat×Nat×Nat)}{zs cs:LV_}{ps:Array (Nat×Operand)}{vs:List (Nat×Value)}(y:o.op=.build t ps)(u:tab t=some ⟨.arr n e,s,g,some z⟩)(he:tab e=some ⟨uk,s1,k,v⟩)(A:z.cells=zs.toArray)
 (l:∀ i off sz m,fs[i]?=some (off,sz,m)->off=i*s1/\sz=s1) (hp:rA E ps.toList=some vs) (B:sq fs zs vs=some cs):i7 X o E H (.agg cs.toArray):=by
 intro a w C L;obtain⟨j,hi,p,_,_⟩:=kv u
 have hu:Tryz.prog.underlying t=some (.array n e):=by
  obtain⟨d,j,D,_,hu,_⟩:=eR u;rw[D];cases d<;>simp[qp] at hu ⊢;exact hu
 have F:=C.valsP _ _ hp;have G:(ps.map λ (i,x)=>(i,a.eval x)).toList=vs:=by rw[<- F];simp
 have b:=qm (pl:=λ i=>some (i*s1,s1)) (λ i off sz m h=>by obtain⟨I,K⟩:=l i off sz m h;rw[I,K]) vs zs cs B;have q:(sizeOf e).run Tryz.prog w=.ok s1 w:=dT he w
 have f:(Instr.build t (ps.map λ (i,x)=>(i,a.eval x))).run Tryz.prog w=.ok (.agg cs.toArray) w:=by
  unfold Instr.build;rw[G];have r:(zeroValue t).run Tryz.prog w=.ok z w:=by simp[zeroValue,typeInfo,hi,p]
  simp only[Sem.run_bind,r,run_underlying hu,Result.andThen_ok,q,A];rw[b];rfl
 have c:(Instr.build t (ps.map λ x=>match x with|(i,x)=>(i,a.eval x))).run Tryz.prog w=.ok (.agg cs.toArray) w:=f;simp[execOp,y,c]
theorem ME{n:Nat}(h:n<18446744073709551616):IntKind.u64.wrap (n:Int)=n:=by rw[IntKind.wrap_u64];omega
theorem HN{n:Nat}(h:n<4294967296):IntKind.u64.wrap (((BitVec.ofInt IntKind.u64.bits (n:Int)&&& BitVec.ofInt IntKind.u64.bits 4294967295).toNat:Nat):Int)=n:=by
 have a:(BitVec.ofInt IntKind.u64.bits (n:Int)).toNat=n:=by
  show (BitVec.ofInt 64 (n:Int)).toNat=n;rw[BitVec.toNat_ofInt];omega
 have b:(BitVec.ofInt IntKind.u64.bits 4294967295).toNat=4294967295:=ab;rw[BitVec.toNat_and,a,b,show (4294967295:Nat)=2^32-1 by decide,Nat.and_two_pow_sub_one_eq_mod,ME aa];omega
theorem zz{n:Nat}(h:n<4294967296):((n:Int)).fdiv (2^(min 32 IntKind.u64.bits))=0:=by
 show ((n:Int)).fdiv 4294967296=0;rw[PO _ aa];omega
theorem FH(n:Nat)(a:n<4294967296):Fn 260 [.int .u64 ((1:Nat):Int),.int .u64 (n:Int)] [] [] λ v H'=>v=.tuple #[.int .u64 ((0:Nat):Int),.int .u64 (n:Int)]/\H'=[]:=by
 refine aT Tryz.func260 λ w0=>?_;refine i6 ?_;refine bB 6 (v':=.int .u64 ((1:Nat):Int)) rfl (M8 (Value.int .u64) (HN ab))<|ao ?_;refine bB 7 (v':=.int .u64 ((0:Nat):Int)) rfl (M8 (Value.int .u64) (zz (n:=1) ab))<|ao ?_;refine bB 8 (v':=.int .u64 (n:Int)) rfl (M8 (Value.int .u64) (HN a))<|ao ?_;refine bB 9 (v':=.int .u64 ((0:Nat):Int)) rfl (M8 (Value.int .u64) (zz a))<|ao ?_;refine bB 10 (v':=.int .u64 (n:Int)) rfl (M8 (Value.int .u64) ((M8 _ (Int.one_mul _)).trans (ME aa)))<|ao ?_
 refine bB 11 (v':=.int .u64 ((0:Nat):Int)) rfl (M8 (Value.int .u64) (by
  show IntKind.u64.wrap (IntKind.u64.wrap (0*(n:Int))+((n:Int)).fdiv (2^(min 32 IntKind.u64.bits)))=0;rw[Int.zero_mul,zz a];decide)) ?_
 refine ao ?_;refine bB 12 (v':=.int .u64 ((0:Nat):Int)) rfl (M8 (Value.int .u64) (HN (n:=0) ab))<|ao ?_;refine bB 13 (v':=.int .u64 ((0:Nat):Int)) rfl (M8 (Value.int .u64) (zz (n:=0) ab))<|ao ?_
 refine bB 12 (v':=.int .u64 ((0:Nat):Int)) rfl (M8 (Value.int .u64) (by
  show IntKind.u64.wrap (0+IntKind.u64.wrap (1*0))=0
  decide)) ?_
 refine ao ?_
 refine bB 4 (v':=.int .u64 ((0:Nat):Int)) rfl (M8 (Value.int .u64) (by
  show IntKind.u64.wrap (IntKind.u64.wrap (IntKind.u64.wrap (0*0)+0)+((0:Nat):Int).fdiv (2^(min 32 IntKind.u64.bits)))=0;rw[zz (n:=0) ab];decide)) ?_
 refine ao ?_;exact bB 5 (v':=.int .u64 (n:Int)) rfl (M8 (Value.int .u64) ((M8 _ (Int.one_mul _)).trans (ME aa)))<|j7
theorem Jc(n:Nat)(a:n<4294967296):Fn 248 [.int .u64 ((1:Nat):Int),.int .u64 (n:Int)] [] [] λ v H'=>v=.tuple #[.int .u64 ((0:Nat):Int),.int .u64 (n:Int)]/\H'=[]:=by
 refine aT Tryz.func248 λ w0=>?_;refine cW ?_;refine cH (FH n a) rfl be ?_;refine cS ?_;exact j7
def lW(k N:Nat)(v z:Value):LV_:=List.replicate k v++List.replicate (N-k) z
theorem nS{k N:Nat}{v z:Value}(h:k<=N):(lW k N v z).length=N:=by simp[lW];omega
theorem Aj{k m N:Nat}{v z:Value}(h:k+m<=N):wr (lW k N v z) k (List.replicate m v)=lW (k+m) N v z:=by
 induction m generalizing k with
 |zero=>rfl
 |succ m a=>
  rw[Ol];show wr ((lW k N v z).set k v) (k+1) (List.replicate m v)=_
  have:(lW k N v z).set k v=lW (k+1) N v z:=by
   unfold lW;rw[OC _ _ ai,NN,OB,show N-k=(N-(k+1))+1 by omega,Ol,OT,List.replicate_succ'];simp
  rw[this,a aa,show k+1+m=k+(m+1) by omega]
theorem I0(x:Int)(g c n:Nat)(h1:1<=n)(r:n<=100000):
 Fn 247 [.slice (some ⟨g,0,none⟩) 1 c,.int .i64 (n:Int)] [] [.seg g 0 (aj [x])] λ v H'=>∃ a,v=.slice (some ⟨a,0,none⟩) n n/\H'=[.own (.slice (some ⟨a,0,none⟩) n n) 3 1 n (aj (List.replicate n x))]:=by
 refine aT Tryz.func247 λ w0=>?_;refine i6 ?_;refine cA ?_;refine ak rfl (λ h=>absurd h aa) (λ _=>ag ?_);refine Kx ?_;refine iH ?_;refine ak rfl (λ h=>absurd h aa) (λ _=>ag ?_);refine bA ?_;refine lK ?_;refine aB 29 (v':=af (n:Int)) rfl (M8 (Value.int .i64) (cv aa))<|cY (n:=n) (c:=n) rfl rfl rfl rfl rfl rfl (Np _) aa aa aE λ a=>?_;have hmk:made [af 0] (n*1)=lW 0 n (af x) (af 0):=by rw[db,NR];simp[lW]
 refine KY ?_;refine bS (σ:=Nat) (λ k=>[(8,af (k:Int)),(7,ax a 0 n n)]) (λ k=>[.own (ax a 0 n n) 3 1 n (lW k n (af x) (af 0))]) (λ k=>1<=k/\k<=n) (λ k=>n-k) 1 [0] a8 ab rfl ⟨Np _,h1⟩ ?_;rintro k ⟨f,hk2⟩;refine iN ?_;refine ak rfl (λ j=>ag ?_) (λ p=>aO ?_)
 ·have d:k<n:=by omega
  obtain⟨m,hm⟩:∃ m,m=min k (n-k):=⟨_,rfl⟩;refine K2 ?_;refine dG 41 (v':=ax a k (n-k) (n-k)) rfl ?_ ?_
  ·have:=e8 (A:=aJ a 0) (c:=n) (l:=k) (n:=n) (sz:=1) (b:=a) (o:=0) aE (Np _) d;rw[NR,NO] at this;show Value.slice (fT _ _ _ 1) _ _=_;rw[this]
  refine zC ?_;refine aF [999] rfl (jO (i:=k) rfl rfl rfl rfl rfl hk2) rfl<|cz ?_;refine xE (i:=k) (vs:=List.replicate m (af x)) 0 0 rfl rfl rfl rfl rfl (λ w hw i v hi=>b8 w hw i v (?_)) rfl rfl (by rw[NN];exact hm) (?_) (by rw[nS hk2,NN];omega) [] rfl ?_
  ·have e:=(Nb.1 hi).1;rw[NN] at e;rw[Nt,if_pos e] at hi;unfold lW;rw[NY (by rw[NN];omega),Nt,if_pos aa];exact hi
  ·clear hm
   induction m with
   |zero=>rfl
   |succ m q=>rw[Ol];exact q
  rw[Aj aa,NN];refine bZ []<|zC ?_;refine gF ?_;refine⟨k+m,[0],⟨?_,rfl,be⟩,ab,rfl,⟨aa,aa⟩,aa⟩;show some (af (IntKind.i64.wrap ((k:Int)+(m:Int))))=_;rw[cv aa];rfl
 ·obtain rfl:k=n:=by omega
  refine ao ?_;refine bM ⟨_,rfl,a,rfl,?_⟩;rw[show lW k k (af x) (af 0)=aj (List.replicate k x) by simp[lW,aj]]
theorem I6(x:Int)(g c n:Nat)(h1:1<=n)(r:n<=100000):
 Fn 239 [.slice (some ⟨g,0,none⟩) 1 c,.int .i64 (n:Int)] [] [.seg g 0 (aj [x])] λ v H'=>∃ a,v=.slice (some ⟨a,0,none⟩) n n/\H'=[.own (.slice (some ⟨a,0,none⟩) n n) 2 1 n (aj (List.replicate n x))]:=by
 refine aT Tryz.func239 λ w0=>?_;refine i6 ?_;refine cA ?_;refine ak rfl (λ h=>absurd h aa) (λ _=>ag ?_);refine Kx ?_;refine iH ?_;refine ak rfl (λ h=>absurd h aa) (λ _=>ag ?_);refine bA ?_;refine lK ?_;refine aB 29 (v':=af (n:Int)) rfl (M8 (Value.int .i64) (cv aa))<|cY (n:=n) (c:=n) rfl rfl rfl rfl rfl rfl (Np _) aa aa aE λ a=>?_;have hmk:made [af 0] (n*1)=lW 0 n (af x) (af 0):=by rw[db,NR];simp[lW]
 refine KY ?_;refine bS (σ:=Nat) (λ k=>[(8,af (k:Int)),(7,ax a 0 n n)]) (λ k=>[.own (ax a 0 n n) 2 1 n (lW k n (af x) (af 0))]) (λ k=>1<=k/\k<=n) (λ k=>n-k) 1 [0] a8 ab rfl ⟨Np _,h1⟩ ?_;rintro k ⟨f,hk2⟩;refine iN ?_;refine ak rfl (λ j=>ag ?_) (λ p=>aO ?_)
 ·have d:k<n:=by omega
  obtain⟨m,hm⟩:∃ m,m=min k (n-k):=⟨_,rfl⟩;refine K2 ?_;refine dG 41 (v':=ax a k (n-k) (n-k)) rfl ?_ ?_
  ·have:=e8 (A:=aJ a 0) (c:=n) (l:=k) (n:=n) (sz:=1) (b:=a) (o:=0) aE (Np _) d;rw[NR,NO] at this;show Value.slice (fT _ _ _ 1) _ _=_;rw[this]
  refine zC ?_;refine aF [999] rfl (jO (i:=k) rfl rfl rfl rfl rfl hk2) rfl<|cz ?_;refine xE (i:=k) (vs:=List.replicate m (af x)) 0 0 rfl rfl rfl rfl rfl (λ w hw i v hi=>b8 w hw i v (?_)) rfl rfl (by rw[NN];exact hm) (?_) (by rw[nS hk2,NN];omega) [] rfl ?_
  ·have e:=(Nb.1 hi).1;rw[NN] at e;rw[Nt,if_pos e] at hi;unfold lW;rw[NY (by rw[NN];omega),Nt,if_pos aa];exact hi
  ·clear hm
   induction m with
   |zero=>rfl
   |succ m q=>rw[Ol];exact q
  rw[Aj aa,NN];refine bZ []<|zC ?_;refine gF ?_;refine⟨k+m,[0],⟨?_,rfl,be⟩,ab,rfl,⟨aa,aa⟩,aa⟩;show some (af (IntKind.i64.wrap ((k:Int)+(m:Int))))=_;rw[cv aa];rfl
 ·obtain rfl:k=n:=by omega
  refine ao ?_;refine bM ⟨_,rfl,a,rfl,?_⟩;rw[show lW k k (af x) (af 0)=aj (List.replicate k x) by simp[lW,aj]]
def lX(v:Int):Nd:=⟨none,none,none,1,v,v,v,0,false⟩
def Mx(A:OA_)(cap k:Nat)(pf:Nat)(v:Int):Heap:=
 [blk pf 331 [.slice A k cap,.int .i64 0],.own (.slice A k cap) 334 9 k (iI k λ _=>lX v)]
theorem JJ(v:Int)(l:-4611686018427387904<=v/\v<=4611686018427387904)(N:Nat)(o:1<=N)(p:N<=3000)(g c:Nat):
 Fn 246 [.slice (some ⟨g,0,none⟩) N c] [] [.seg g 0 (aj (List.replicate N v))] λ r H'=>∃ ps gn cap,r=.tuple #[.pointer (some ⟨ps,0,none⟩),.int .i64 0]/\H'=Mx (some ⟨gn,0,none⟩) cap N ps v:=by
 refine aT Tryz.func246 λ w0=>?_;refine i6 ?_;refine cA ?_;refine ak rfl (λ h=>absurd h aa) (λ _=>ag ?_);refine bA ?_;refine fv ?_;refine dh λ ps=>?_;refine cS ?_;refine au<|b6 334 9<|?_
 refine cN (σ:=Nat×OA_×Nat) (λ t=>[(14,af (t.1:Int)),(13,af (N:Int)),(12,ax g 0 N c),(4,ap ps 0)]) (λ t=>Mx t.2.1 t.2.2 t.1 ps v++[.seg g 0 (aj (List.replicate N v))])
  (λ t=>t.1<=N) (λ t=>N-t.1) (0,none,0) a8 ?_ (Nk _) ?_
 ·exact aw.re (A:=[.own (.slice none 0 0) 334 9 0 [],blk ps 331 [.slice none 0 0,af 0],.seg g 0 (aj (List.replicate N v))]) (R:=[]) [1,0,2] rfl ab
 rintro⟨k,A,cap⟩ d;simp only at d ⊢;refine iN ?_;refine ak rfl (λ e=>ag ?_) (λ f=>?_)
 ·have a:k<N:=by omega
  refine am (au ?_);refine bA ?_;refine aG (bG rfl a) ?_;refine aG (fA (v:=af v) 2 rfl rfl rfl (NO _).symm (ep (by rw[Nt,if_pos a]))) ?_;refine fR ?_;refine oa ?_;refine dD 20 rfl aa<|ic ?_;refine iH ?_;refine ak rfl (λ h=>absurd h aa) (λ _=>ag ?_);refine bA ?_;refine lK ?_;refine lK ?_;refine bh (v:=.slice A k cap) 0 ?_
  refine ae [] (BI (fs:=[(0,1,0),(1,1,0)]) rfl rfl rfl rfl (λ i off sz q h=>by
   match i with
   |0=>simp at h;omega
   |1=>simp at h;omega
   |i+2=>simp at h) rfl rfl) rfl ?_
  refine oa ?_;refine fv ?_;refine dp λ g2=>?_;refine bp (n:=k) (m:=1) (off:=0) (news:=fE (lX v)) 2 0 rfl rfl rfl rfl rfl rfl ab rfl rfl (aQ g2 _ _ (0,0)) aE rfl rfl aa aa (λ _ _=>rfl) λ b c2=>lK ?_;refine dz 1 ?_;refine dw ?_;refine⟨(k+1,b,c2),⟨?_,rfl,rfl,rfl,be⟩,?_,a,by show N-(k+1)<N-k;omega⟩
  ·refine fJ ?_;rw[cv aa];rfl
  ·refine aw.trans (aw.sub (NU _ _)) ?_;show aw _ ([blk ps 331 [.slice b (k+1) c2,af 0],.own (.slice b (k+1) c2) 334 9 (k+1) (iI k (λ _=>lX v)++fE (lX v))]++[.seg g 0 (aj (List.replicate N v))]) _;rw[show iI k (λ _=>lX v)++fE (lX v)=iI (k+1) λ _=>lX v from (vX k _).symm];exact aw.refl
 ·obtain rfl:k=N:=by omega
  refine aP (aH 1 rfl) λ ⟨_,_,j,_⟩=>?_;obtain⟨gn,rfl⟩:=j aa;refine aO<|ao ?_;exact aL [0,1] ⟨_,rfl,ps,gn,cap,rfl,rfl⟩
theorem JV(v:Int)(b:-4611686018427387904<=v/\v<=4611686018427387904)(N:Nat)(a:1<=N)(d:N<=3000)(g c:Nat):
 Fn 238 [.slice (some ⟨g,0,none⟩) N c] [] [.seg g 0 (aj (List.replicate N v))] λ r H'=>∃ pt ps gn go co cap,r=.tuple #[.pointer (some ⟨pt,0,none⟩),.int .i64 0]/\H'=l8 pt ps go gn co cap N ⟨λ _=>lX v,λ _=>none,0⟩:=by
 refine aT Tryz.func238 λ w0=>?_;refine ao ?_;refine gD ?_;refine fh (JJ v b N a d g c) rfl ⟨bx 0 rfl,be⟩ ?_;rintro _ H' ⟨ps,gn,cap,rfl,rfl⟩;refine cS ?_;refine cA ?_;refine ak rfl (λ h=>absurd rfl h) (λ _=>ag ?_);refine gD ?_;refine dp λ g2=>?_;refine lK ?_;refine fh (I0 (-1) g2 1 N a aa) rfl ⟨en 0 rfl,be⟩ ?_;rintro _ H' ⟨go,rfl,rfl⟩;refine fv ?_;refine lK ?_;refine fv ?_;refine dh λ pt=>?_;refine iH ?_;refine aL [3,4,0,1] ⟨_,rfl,pt,ps,gn,go,N,cap,rfl,?_⟩
 have e:aj (List.replicate N (-1))=Ix N (λ _=>none):=by
  unfold Ix
  congr 1
  apply O3
  intro i;rw[Nt,Ni];by_cases h:i<N
  ·rw[if_pos h,PR h];rfl
  ·rw[if_neg h,NX (by rw[Om];omega)];rfl
 rw[e];rfl
theorem iW.new{N:Nat}{v:Int}(c:-4611686018427387904<=v/\v<=4611686018427387904):iW N ⟨λ _=>lX v,λ _=>none,0⟩ (λ _=>none) (λ _=>v) (λ x=>[x]):=by
 refine⟨⟨λ x b=>?_,λ x _=>by simp,λ x b y a=>?_,λ x _ y a=>?_,λ x _=>by simp,λ x _=>c⟩,?_,?_,?_,?_,?_,?_⟩
 ·exact⟨.node .nil x v 0 false .nil,⟨⟨rfl,rfl,rfl,(cv (n:=v) aa).symm,rfl,rfl,rfl,⟨v,⟨⟨(x,v),by simp[T.flat],rfl⟩,λ e he=>by simp[T.flat,sh] at he;rw[he];exact Ov _⟩,(cv (n:=v) aa).symm⟩,⟨v,⟨⟨(x,v),by simp[T.flat],rfl⟩,λ e he=>by simp[T.flat,sh] at he;rw[he];exact Ov _⟩,(cv (n:=v) aa).symm⟩⟩,be,be⟩,rfl⟩
 ·rw[Nh.1 a];exact b
 ·rw[Nh.1 a]
 ·exact⟨λ _ _=>trivial,λ _ _=>trivial,λ _ _=>trivial⟩
 ·intro x _ A u w B h;have:=M8 List.length h;simp at this;omega
 ·exact λ _ _ _ _ _=>rfl
 ·exact λ _ _ _ _ _ _ _=>rfl
 ·exact λ x _=>⟨[x],rfl,rfl⟩
 ·exact λ _ _=>trivial
def zt(N:aR)(A:OA_)(c:Nat)(Ar:OA_)(cr:Nat)(least:Int)(n gl gu:Nat)(fp:Value)(k w:Nat):LV_:=[.int .i64 N.nodes,.int .i64 N.src,.int .i64 N.snk,.slice A N.arcs.length c,.slice Ar (2*N.arcs.length) cr,.int .i64 least,.slice (some ⟨gl,0,none⟩) (n+1) (n+1),.slice (some ⟨gu,0,none⟩) (n+1) (n+1),fp,.int .i64 (ei k),.int .i64 (ei w)]
theorem FA(N:aR)(A:OA_)(c:Nat)(Ar:OA_)(cr:Nat)(least:Int)(n gl gu:Nat)(a:Value)(k w pe:Nat):Fn 236 [.pointer (some ⟨pe,0,none⟩)] (ay [blk pe 310 (zt N A c Ar cr least n gl gu a k w)]) ([]++[blk pe 310 (zt N A c Ar cr least n gl gu a k w)]) λ _ H'=>H'=[blk pe 310 (zt N A c Ar cr least n gl gu a (k+1) w)]:=by
 generalize hM:ay _=M
 refine aT Tryz.func236 λ w0=>?_;exact Kw
theorem Le(N:aR)(D:N.Right)(A:OA_)(c b o:Nat)(S:N.arcs≠[]->A=some ⟨b,o,none⟩)(Ar:OA_)(cr:Nat)(ls:LN_)(E:∀ r∈ls,r<2*N.arcs.length)(U:ls.length<=4000)(B:OA_)(F x y:Nat)(V:ls≠[]->B=some ⟨x,y,none⟩)(least:Int)(n:Nat)(hn:N.nodes=n):
 Fn 233 [cd N A c,.slice Ar (2*N.arcs.length) cr,.slice B ls.length F,.int .i64 least] [] [.seg b o (arcs N.arcs),.seg x y (cJ ls)]
  λ r H'=>∃ (pe gl gu pt ps gn go co cap:Nat) (rows:List ff),r=.pointer (some ⟨pe,0,none⟩)/\rows.length=n+1/\(∀ (v:Nat) (row:ff),rows[v]?=some row->row.l=(fC N ls v).map λ (i:Nat)=>(i:Int))/\
   H'=(l8 pt ps go gn co cap (n+1) ⟨λ _=>lX 4611686018427387904,λ _=>none,0⟩++[blk pe 310 (zt N A c Ar cr least n gl gu (.pointer (some ⟨pt,0,none⟩)) ls.length 0),.own (.slice (some ⟨gl,0,none⟩) (n+1) (n+1)) 23 1 (n+1) (rows.map cT),.own (.slice (some ⟨gu,0,none⟩) (n+1) (n+1)) 23 1 (n+1) ((List.replicate (n+1) ek).map cT)])++(rows++List.replicate (n+1) ek).map (bg 3):=by
 have X:=D.nodes;have H:=D.len;refine aT Tryz.func233 λ w0=>?_;refine bA ?_;refine dh (cs:=bY N A c) λ p=>?_;refine aN ?_;refine iB (σ:=Nat×Nat×Nat) (λ t=>[(9,ap t.1 0),(21,ax t.2.1 0 (n+1) (n+1)),(25,ax t.2.2 0 (n+1) (n+1)),(2,.slice B ls.length F),(4,ap p 0)]) (λ t=>[blk t.1 310 (zt N A c Ar cr least n t.2.1 t.2.2 (.pointer none) 0 0),.own (ax t.2.1 0 (n+1) (n+1)) 23 1 (n+1) ((List.replicate (n+1) ek).map cT),.own (ax t.2.2 0 (n+1) (n+1)) 23 1 (n+1) ((List.replicate (n+1) ek).map cT),blk p 33 (bY N A c),.seg b o (arcs N.arcs),.seg x y (cJ ls)]) ?_ ?_
 ·refine lz (Sf:=[blk p 33 (bY N A c)])<|jY [0,1,2,3,4,5,7,8,9] bC [0] ab rfl<|qZ ?_;refine cP<|mw 20 (v':=af ((n+1:Nat):Int)) rfl (M8 (Value.int .i64) ((cv (n:=N.nodes+1) aa).trans aa))<|mw 24 (v':=af ((n+1:Nat):Int)) rfl (M8 (Value.int .i64) ((cv (n:=N.nodes+1) aa).trans aa))<|av 6 [10] bC ab<|?_
  (repeat' (first|exact be|refine av 10 [] (by decide+kernel) (by decide) ?_|refine av 6 [] (by decide+kernel) (by decide) ?_|refine av 11 [] (by decide+kernel) (by decide) ?_|refine av 12 [] (by decide+kernel) (by decide) ?_|refine av 13 [] (by decide+kernel) (by decide) ?_|refine⟨⟨_,rfl,?_⟩,?_⟩|refine cY (n:=n+1) (c:=n+1) rfl rfl rfl rfl rfl rfl (by omega) (by omega) (by omega) (λ _=>rfl) λ go=>?_|refine A8 rfl rfl rfl (λ _=>rfl) λ pe=>?_|refine ae [] (eF rfl rfl rfl rfl rfl rfl) rfl ?_|refine ah ⟨⟨[1],by decide,rfl⟩,?_⟩|refine ah ⟨⟨[2],by decide,rfl⟩,?_⟩|refine ah ⟨⟨[3],by decide,rfl⟩,?_⟩|refine c8 [] rfl ⟨⟨[3],by decide,rfl⟩,?_⟩))
  all_goals refine fb (by decide+kernel) ⟨(_,_,_),⟨rfl,rfl,rfl,rfl,rfl,be⟩,?_⟩
  all_goals rw[show made [Value.slice none 0 0] ((n+1)*1)=(List.replicate (n+1) ek).map cT by rw[db,NR,OH];rfl]
  all_goals (first|exact aw.re (A:=[_,_,_,_,_,_]) (R:=[]) [0,2,1,3,4,5] rfl ab|exact aw.re (A:=[_,_,_,_,_,_]) (R:=[]) [0,1,2,3,4,5] rfl ab)
 rintro⟨pe,gl,gu⟩;simp only;refine i6 ?_;refine au<|bQ (aw.nils 3 (n+1))<|?_
 refine cN (σ:=Nat×List ff) (λ s=>[(32,af (s.1:Int)),(31,af (ls.length:Int)),(30,.slice B ls.length F),(10,.func (.func 236) #[ap pe 0] #[]),(9,ap pe 0),(4,ap p 0)])
  (λ s=>[blk pe 310 (zt N A c Ar cr least n gl gu (.pointer none) s.1 0),.own (ax gl 0 (n+1) (n+1)) 23 1 (n+1) (s.2.map cT),.own (ax gu 0 (n+1) (n+1)) 23 1 (n+1) ((List.replicate (n+1) ek).map cT),blk p 33 (bY N A c),.seg b o (arcs N.arcs),.seg x y (cJ ls)]++s.2.map (bg 3))
  (λ s=>s.1<=ls.length/\s.2.length=n+1/\∀ (v:Nat) (r:ff),s.2[v]?=some r->r.l=(fC N (ls.take s.1) v).map λ (i:Nat)=>(i:Int)) (λ s=>ls.length-s.1)
  (0,List.replicate (n+1) ek) a8 aw.refl ⟨Nk _,ai,λ v r h=>?_⟩ ?_
 ·rw[Nt] at h;split at h
  ·simp only[Na] at h;subst h;rfl
  ·cases h
 rintro⟨k,rows⟩ ⟨Y,a,d⟩;simp only at Y a d ⊢;refine ao ?_;refine am (ak rfl (λ hlt=>ag ?_) (λ Z=>aO ?_))
 ·have hlt:k<ls.length:=by omega
  obtain⟨r,I⟩:∃ r,ls[k]?=some r:=⟨ls[k],an hlt⟩;have z:=E r (M9 I);obtain⟨he,K,L⟩:=nA D z;obtain⟨v,M⟩:∃ v,eL N r=v:=⟨_,rfl⟩;rw[M] at he K L;obtain rfl:=V (by rintro rfl;simp at hlt);have j:v<rows.length:=aa;obtain⟨row,f⟩:∃ r,rows[v]?=some r:=⟨rows[v],an j⟩;have g:=d v row f;have hlen:=lg N (ls.take k) v;have O:(ls.take k).length<=ls.length:=by rw[ND];omega
  have P:row.l.length=(fC N (ls.take k) v).length:=by rw[g,Nj]
  have Q:ls.take (k+1)=ls.take k++[r]:=by rw[Nv,I];rfl
  refine am (au ?_);refine jc ?_;refine aG (a7 5 rfl rfl (eE I)) ?_;refine aN ?_;refine gD ?_;refine bJ (fst:=[ap pe 0]) (cap:=[]) [999] (FA N A c Ar cr least n gl gu (.pointer none) k 0 pe) rfl rfl rfl rfl aW aw.refl be aE ?_;rintro v0 H' rfl;refine dE ?_;refine ah<|bA ?_;refine sy ?_;refine cH (jw N A c b o S H r z) rfl ⟨bx 4 rfl,be⟩ ?_;refine aN ?_;refine bB 13 (v':=af (v:Int)) rfl (M8 (Value.int .i64) he) ?_;show J _ _ _ _ ([_,_,_,_,_,_]++rows.map (bg 3));refine bQ (aw.front (i:=v) (c:=bg 3 row) (by rw[Ni,f];rfl)) ?_;refine HX ?_;refine bc rfl (aA (v:=cT row) 1 rfl rfl rfl (show (rows.map cT)[v]?=some (cT row) by rw[Ni,f];rfl)) ?_;refine jM ?_;refine dp λ g2=>?_;refine bZ [2,3]<|cz ?_;refine bp (n:=row.l.length) (m:=1) (off:=0) (news:=aj [(r:Int)]) 1 0 rfl rfl rfl rfl rfl rfl ab rfl rfl (aQ g2 _ _ (0,0)) aE rfl rfl aa aa (λ _ _=>rfl) λ A2 c2=>KN ?_;refine⟨(k+1,rows.set v ⟨A2,c2,row.l++[(r:Int)]⟩),⟨?_,rfl,rfl,rfl,rfl,rfl,be⟩,?_,⟨by simp only;omega,by simp only[NQ];omega,λ u q hu=>?_⟩,by simp only;omega⟩
  ·refine fJ ?_;rw[cv aa];rfl
  ·simp only[O1];refine aw.trans (aw.sub (NU _ _)) (aw.back (A:=[_,_,_,_,_,_]) (by rw[Nj];exact j))
  ·simp only at hu ⊢;rw[Q,zg,NJ];by_cases w:v=u
   ·subst w;rw[No j] at hu;simp only[Na] at hu;rw[<- hu,if_pos M,g];rfl
   ·rw[Nq w] at hu;rw[if_neg (λ e=>w (M.symm.trans e)),Oi,NL];exact d u q hu
 ·obtain rfl:k=ls.length:=by omega
  rw[NH] at d;refine bQ (aw.nils 3 (n+1)) ?_;rw[NI,<- NJ];obtain⟨R,C⟩:∃ R,R=(rows++List.replicate (n+1) ek).map (bg 3):=⟨_,rfl⟩;rw[<- C];refine gD ?_;refine dp λ g2=>?_;refine cD (gs:=[999]) rfl<|bh (v:=af N.nodes) 4 ?_;refine cD (gs:=[999]) rfl<|aB 66 (v':=af ((n+1:Nat):Int)) rfl (M8 (Value.int .i64) ((cv (n:=N.nodes+1) aa).trans aa))<|fh (I6 4611686018427387904 g2 1 (n+1) aa aa) rfl ⟨en 0 rfl,be⟩ ?_;rintro _ H' ⟨g3,rfl,rfl⟩;refine fh (JV 4611686018427387904 ab (n+1) aa aa g3 (n+1)) rfl ⟨gC 0 rfl b8 (.inr rfl),be⟩ ?_;rintro _ H' ⟨pt,ps,gn,go,co,cap,rfl,rfl⟩;refine lK ?_;refine oa ?_;refine dz 6 ?_;refine dw ?_
  refine bQ (aw.re (A:=l8 pt ps go gn co cap (n+1) ⟨λ _=>lX 4611686018427387904,λ _=>none,0⟩++[.own (ax g3 0 (n+1) (n+1)) 2 1 (n+1) (aj (List.replicate (n+1) 4611686018427387904)),blk g2 2 [af 4611686018427387904],blk pe 310 (zt N A c Ar cr least n gl gu (ap pt 0) ls.length 0),
   .own (ax gl 0 (n+1) (n+1)) 23 1 (n+1) (rows.map cT),.own (ax gu 0 (n+1) (n+1)) 23 1 (n+1) ((List.replicate (n+1) ek).map cT),blk p 33 (bY N A c),.seg b o (arcs N.arcs),.seg x y (cJ ls)]) (R:=R) [0,1,2,3,6,7,8] rfl ab) ?_
  exact bM ⟨_,rfl,pe,gl,gu,pt,ps,gn,go,co,cap,rows,rfl,a,d,by rw[C];rfl⟩
section
variable {N:aR} {L:Nat->LN_} {lv:Nat->Int} {least:Int} {tr:LI_}
def Kf(L:Nat->LN_)(N:aR)(least:Int)(tr:LI_)(V:LN_):Prop:=∀ r∈V,r∈L (eL N r)/\least<=tr.getD r 0
theorem PI.free{pos W:LN_}(h:PI N L least tr pos W):Kf L N least tr W:=λ r a=>⟨h.mem r a,by obtain⟨_,_,_,h⟩:=h.head r a;exact h⟩
theorem PI.stuck(d:N.Right)(e:gh N L lv){pos W:LN_}(h:PI N L least tr pos W):∀ {V:LN_} {u z:Nat},Tr N u V z->Kf L N least tr V->qB L pos u->u≠N.snk.toNat->z≠N.snk.toNat
 |[],u,z,l,_,_,hu=>by rw[<- (show u=z from l)];exact hu
 |r::V,u,z,⟨a,m⟩,f,n,hu=>by
  obtain⟨g,hl⟩:=f r ai;obtain⟨j,i,b⟩:=NT.1 g;have c:=(e.ok _ _ g).1;have q:=nA d c;have hlen:eL N r<pos.length:=by rw[h.pl];omega
  obtain⟨p,hp⟩:∃ p,pos[eL N r]?=some p:=⟨pos[eL N r],an hlen⟩;have t:=n p (by rw[<- a];exact hp);rw[a] at i
  rcases h.pass _ p hp j r aa (by rw[an (by rw[a];exact i),b]) with k|k
  ·omega
  ·exact PI.stuck d e h m (λ s o=>f s (by simp[o])) k.2 k.1
def GA(L:Nat->LN_)(N:aR)(pos V:LN_):Prop:=∀ r∈V,∃ p,pos[eL N r]?=some p/\(L (eL N r))[p]?=some r
theorem PI.heads{pos W:LN_}(h:PI N L least tr pos W):GA L N pos W:=λ r a=>by obtain⟨p,b,c,_⟩:=h.head r a;exact⟨p,b,c⟩
theorem zW(l:N.Right)(f:gh N L lv){pos pos' W C:LN_}(h:PI N L least tr pos W)(m:PI N L least tr pos' C):∀ {V d:LN_} {u:Nat},Tr N u V N.snk.toNat->Tr N u d N.snk.toNat->Kf L N least tr V->Kf L N least tr d->GA L N pos V->GA L N pos' d->V=d
 |[],d,u,n,c,_,a,_,_=>by
  have e:=(qP f c λ r o=>(a r o).1).1;rw[<- (show u=N.snk.toNat from n)] at e;exact (Nw.1 aa).symm
 |r::V,[],u,n,c,g,_,_,_=>by
  have e:=(qP f n λ r o=>(g r o).1).1;rw[<- (show u=N.snk.toNat from c)] at e;simp only[Nf] at e;omega
 |r::V,p::d,u,⟨e,x⟩,⟨k1,y⟩,g,a,z,i=>by
  obtain⟨q,A,a2⟩:=z r ai;obtain⟨t,B,j⟩:=i p ai;obtain⟨_,D⟩:=g r ai;obtain⟨_,c2⟩:=a p ai;rw[e] at A a2;rw[k1] at B j
  rcases Nat.lt_trichotomy q t with v|heq|w
  ·rcases m.pass u t B q r v a2 with k|k
   ·omega
   ·exact absurd rfl (m.stuck l f x (λ s b=>g s (by simp[b])) k.2 k.1)
  ·subst heq;rw[a2] at j;simp only[Na] at j;subst j;rw[zW l f h m x y (λ s b=>g s (by simp[b])) (λ s b=>a s (by simp[b])) (λ s b=>z s (by simp[b])) (λ s b=>i s (by simp[b]))]
  ·rcases h.pass u q A t p w j with k|k
   ·omega
   ·exact absurd rfl (h.stuck l f y (λ s b=>a s (by simp[b])) k.2 k.1)
theorem PI.one(f:N.Right)(g:gh N L lv){pos pos' W b:LN_}(h:PI N L least tr pos W)(a:PI N L least tr pos' b)(he:dQ N W=N.snk.toNat)(c:dQ N b=N.snk.toNat):W=b:=by
 have d:=h.on;have e:=a.on;rw[he] at d;rw[c] at e;exact zW f g h a d e h.free a.free h.heads a.heads
theorem zV(j:N.Right)(d:gh N L lv):∀ (k:Nat) {pos W:LN_},PI N L least tr pos W->(N.nodes.toNat+2)*dv L N.nodes.toNat pos+(N.nodes.toNat+1-W.length)<=k->∃ b pos' e,Nx N L least tr pos W b pos' e:=by
 intro k;have y:=j.nodes;have z:=j.src;have A:=j.snk;have B:=j.diff
 have a:∀ {pos W:LN_},PI N L least tr pos W->dQ N W<=N.nodes.toNat/\W.length<=N.nodes.toNat:=by
  intro pos W h;have C:=(qP d h.on h.mem).1;have D:=d.hi (dQ N W);have E:=d.hi N.src.toNat;refine⟨?_,aa⟩
  rcases N9 W with rfl|⟨v,r,rfl⟩
  ·show N.src.toNat<=_;omega
  ·rw[Oa,qY];have:=(j1 j ((d.ok _ _ (h.mem r ai)).1)).2.2;omega
 induction k with
 |zero=>
  intro pos W h w;have:=a h;omega
 |succ k n=>
  intro pos W h w;have x:=a h;by_cases g:dQ N W=N.snk.toNat
  ·exact⟨_,_,_,.hit g⟩
  ·have hlen:dQ N W<pos.length:=by rw[h.pl];omega
   obtain⟨p,hp⟩:∃ p,pos[dQ N W]?=some p:=⟨pos[dQ N W],an hlen⟩;by_cases f:p<(L (dQ N W)).length
   ·obtain⟨r,m⟩:∃ r,(L (dQ N W))[p]?=some r:=⟨(L (dQ N W))[p],an f⟩;by_cases hl:least<=tr.getD r 0
    ·have i:=h.go d hp m hl;have o:=a i;rw[Ng,NF] at o;obtain⟨b,pos',e,l⟩:=n i (by rw[Ng,NF];omega);exact⟨b,pos',e,.go g hp m hl l⟩
    ·have i:=h.skip d hp m aa;have c:=jg (L:=L) hp x.1 f;have:(N.nodes.toNat+2)*dv L N.nodes.toNat pos=(N.nodes.toNat+2)*dv L N.nodes.toNat (pos.set (dQ N W) (p+1))+(N.nodes.toNat+2):=by rw[← c,Nat.mul_add,Nat.mul_one]
     obtain⟨b,pos',e,l⟩:=n i aa;exact⟨b,pos',e,.skip g hp m aa l⟩
   ·rcases N9 W with rfl|⟨v,r,rfl⟩
    ·exact⟨_,_,_,.stop g hp (Nat.le_of_not_lt f)⟩
    ·rw[List.concat_eq_append] at*;obtain⟨q,s,t,_⟩:=h.back_at;have i:=h.back d g hp aa s;have u:=a h.drop;have c:=jg (L:=L) s u.1 (List.getElem?_eq_some_iff.1 t).1;have:(N.nodes.toNat+2)*dv L N.nodes.toNat pos=(N.nodes.toNat+2)*dv L N.nodes.toNat (pos.set (dQ N v) (q+1))+(N.nodes.toNat+2):=by rw[← c,Nat.mul_add,Nat.mul_one]
     rw[Ng,NF] at w x;obtain⟨b,pos',e,l⟩:=n i aa;exact⟨b,pos',e,.back g hp aa s l⟩
theorem TR.bl(c:N.Right)(d:gh N L lv)(hle:1<=least){ws:List (LN_×Int)}{e:LI_}(h:TR N L least tr ws e):∀ {f:LI_} {pos W:LN_},aD N f->tr=a9 (N.arcs.zip f)->PI N L least tr pos W->Bl N L least tr pos W ws e:=by
 have t:=c.src;have u:=c.snk;have v:=c.diff
 induction h with
 |@stop tr g hP n=>
  intro f pos W q he i;obtain⟨b,pos',r,j⟩:=zV c d _ i (Np _);obtain⟨k1,o,s⟩:=j.keeps d i
  cases b with
  |false=>exact .stop j
  |true=>
   have k:=k1.on;rw[o rfl] at k;exact absurd rfl (hP.stuck c d k k1.free n aa)
 |@walk tr e g w ws hP a _ x=>
  intro f pos W q he i;obtain⟨b,pos',r,j⟩:=zV c d _ i (Np _);obtain⟨k1,o,s⟩:=j.keeps d i
  cases b with
  |false=>
   obtain⟨rfl,n⟩:=s rfl;have k:=hP.on;rw[a] at k;exact absurd rfl (k1.stuck c d k hP.free n aa)
  |true=>
   obtain rfl:w=r:=hP.one c d k1 a (o rfl);obtain⟨_,_,_,_,_,_,⟨f',p,l⟩,m,_⟩:=kx c d hle q he k1 a;exact .walk j (x p l m)
end
theorem AM(N:aR)(rm:LI_)(least:Int)(lv:LI_)(m:Nat):(dj N rm least lv (2*m)).length<=m:=by
 have n:((dj N rm least lv (2*m)).map (·/2)).Nodup:=by
  have d:(dj N rm least lv (2*m)).Nodup:=List.Pairwise.filter _ OS
  have c:∀ a∈dj N rm least lv (2*m),∀ b∈dj N rm least lv (2*m),a/2=b/2->a=b:=by
   intro a g b h o;by_cases e:a=b
   ·exact e
   ·have k:=(fI.1 g).2.2.2;have i:=(fI.1 h).2.2.2;have:b=cF a:=by unfold cF;split<;>omega
    rw[this,kP,iK] at i;omega
  revert d c
  generalize dj N rm least lv (2*m)=l
  intro d c
  induction l with
  |nil=>exact PG
  |cons x l p=>
   obtain⟨k,i⟩:=NG.1 d;rw[Ns,NG];refine⟨λ j=>?_,p i λ a g b h=>c a (by simp[g]) b (by simp[h])⟩;obtain⟨y,f,he⟩:=NB.1 j;exact k (c x ai y (by simp[f]) he.symm▸f)
 have q:=pV _ (List.range m) n λ x r=>by
  obtain⟨y,f,rfl⟩:=NB.1 r;have:=(fI.1 f).1;rw[N4];omega
 rwa [Nj,Om] at q
theorem DD(N:aR)(ls:LN_)(n:Nat):dv (fC N ls) n (List.replicate (n+1) 0)<=ls.length:=by
 unfold dv
 have f:∀ v∈List.range (n+1),(fC N ls v).length-(List.replicate (n+1) 0).getD v 0=(fC N ls v).length:=by
  intro v g;rw[Nc,Nt,if_pos (N4.1 g)];rfl
 rw[Oq f]
 have:∀ (vs:LN_) (ls:LN_),vs.Nodup->(vs.map λ v=>(fC N ls v).length).sum<=ls.length:=by
  intro vs ls a
  induction ls with
  |nil=>
   have:(vs.map λ v=>(fC N [] v).length)=vs.map λ _=>0:=Oq λ v _=>rfl;rw[this]
   clear this a
   induction vs with
   |nil=>exact Np _
   |cons v vs c=>simpa using c
  |cons r ls c=>
   have i:∀ v,(fC N (r::ls) v).length=(fC N ls v).length+if eL N r=v then 1 else 0:=by
    intro v;unfold fC;rw[OJ];by_cases e:eL N r=v<;>simp[e]
   have j:∀ vs:LN_,vs.Nodup->(vs.map λ v=>(fC N (r::ls) v).length).sum<=(vs.map λ v=>(fC N ls v).length).sum+1/\(eL N r∉vs->(vs.map λ v=>(fC N (r::ls) v).length).sum=(vs.map λ v=>(fC N ls v).length).sum):=by
    intro vs k
    induction vs with
    |nil=>exact⟨ai,λ _=>rfl⟩
    |cons v vs b=>
     obtain⟨l,a2⟩:=NG.1 k;obtain⟨o,d⟩:=b a2;simp only[Ns,NC,i v];by_cases e:eL N r=v
     ·have:=d (e▸l);rw[if_pos e];exact⟨aa,λ h=>absurd (by rw[e];simp) h⟩
     ·rw[if_neg e];exact⟨aa,λ h=>by have:=d (λ m=>h (by simp[m]));omega⟩
   have:=(j vs a).1;rw[Nf];omega
 exact this _ _ OS
section
variable {N:aR} {L:Nat->LN_} {lv:Nat->Int} {least:Int} {tr:LI_}
theorem TR.count(s:N.Right)(t:gh N L lv)(hle:1<=least){ls:LN_}(i:∀ v r,r∈L v↔r∈ls/\eL N r=v){ws:List (LN_×Int)}{b:LI_}(h:TR N L least tr ws b):∀ {f:LI_},aD N f->tr=a9 (N.arcs.zip f)->ws.length<=qU ls least tr/\(∀ r,r∉ls->cF r∉ls->b.getD r 0=tr.getD r 0)/\∃ f',aD N f'/\b=a9 (N.arcs.zip f'):=by
 induction h with
 |stop hP y=>exact λ j he=>⟨Nk _,λ _ _ _=>rfl,_,j,he⟩
 |@walk tr b p l ws hP d _ u=>
  intro f j he;obtain⟨_,m,n,_,_,_,⟨f',o,e⟩,_,c,r,v,k1,w,x⟩:=kx s t hle j he hP d;obtain⟨z,i2,i3⟩:=u o e;refine⟨?_,λ q k g=>?_,i3⟩
  ·have:=xf (ls:=ls) (least:=least) (rm:=tr) (rm':=df (dx tr l) l tr) (λ q k=>c _ q ((i _ q).2 ⟨k,rfl⟩)) r ((i v r).1 k1).1 w x;rw[Nf];omega
  ·rw[i2 q k g,jp (a:=dx tr l) (by rw[he];exact ku j.len) m n q,if_neg (λ h=>g ((i _ _).1 (hP.mem _ h)).1),if_neg (λ h=>k ((i _ _).1 (hP.mem _ h)).1)];omega
end
noncomputable def mi(f f':LI_)(ls:LN_)(k i:Nat):Int:=if 2*i+2<=k then f'.getD i 0 else if 2*i+1<=k/\2*i∈ls then f'.getD i 0 else f.getD i 0
noncomputable def pm(f f':LI_)(ls:LN_)(m k:Nat):LI_:=(List.range m).map (mi f f' ls k)
theorem od{f f':LI_}{ls:LN_}{m k i:Nat}(h:i<m):(pm f f' ls m k)[i]?=some (mi f f' ls k i):=by simp[pm,h]
theorem fN(f f':LI_)(ls:LN_)(m k:Nat):(pm f f' ls m k).length=m:=by simp[pm]
theorem FF{f f':LI_}{ls:LN_}{m k:Nat}(l:k<2*m){x:Int}(i:x=mi f f' ls (k+1) (k/2)):(pm f f' ls m k).set (k/2) x=pm f f' ls m (k+1):=by
 apply O3
 intro j;by_cases c:j<m
 ·rw[od c];by_cases e:k/2=j
  ·subst e;rw[No (by rw[fN];exact c),i]
  ·rw[Nq e,od c]
   congr 1
   unfold mi;have d:(2*j+2<=k)↔(2*j+2<=k+1):=aa;by_cases b:2*j+2<=k
   ·rw[if_pos b,if_pos (d.1 b)]
   ·rw[if_neg b,if_neg (λ h=>b (d.2 h))];have g:(2*j+1<=k)↔(2*j+1<=k+1):=aa;by_cases a:2*j+1<=k/\2*j∈ls
    ·rw[if_pos a,if_pos ⟨g.1 a.1,a.2⟩]
    ·rw[if_neg a,if_neg (λ h=>a ⟨g.2 h.1,h.2⟩)]
 ·rw[NX (by rw[NQ,fN];omega),NX (by rw[fN];omega)]
theorem yB{l a:LI_}(hl:l.length=a.length)(h:∀ i,i<l.length->l.getD i 0=a.getD i 0):l=a:=by
 apply O3
 intro i;by_cases hi:i<l.length
 ·have:=h i hi;rw[Nc,Nc,an hi,an aa] at this;rw[an hi,an aa]
  simpa using this
 ·rw[NX aa,NX aa]
theorem B6{f f':LI_}{ls:LN_}:pm f f' ls f.length 0=f:=by
 refine yB (fN _ _ _ _ _) λ i hi=>?_;rw[fN] at hi;rw[Nc,od hi,NK];unfold mi;rw[if_neg aa,if_neg aa]
theorem FZ{f f':LI_}{ls:LN_}(h:f'.length=f.length):pm f f' ls f.length (2*f.length)=f':=by
 refine yB (by rw[fN];exact h.symm) λ i hi=>?_;rw[fN] at hi;rw[Nc,od hi,NK];unfold mi;rw[if_pos aa]
theorem tj{N:aR}{f:LI_}(hl:f.length=N.arcs.length){i:Nat}(hi:i<N.arcs.length):∃ a,N.arcs[i]?=some a/\(a9 (N.arcs.zip f)).getD (2*i) 0=a.cap-f.getD i 0/\(a9 (N.arcs.zip f)).getD (2*i+1) 0=f.getD i 0:=by
 obtain⟨a,b⟩:∃ x,N.arcs[i]?=some x:=⟨N.arcs[i],an hi⟩;have c:f[i]?=some (f.getD i 0):=by rw[Nc,an aa];rfl
 obtain⟨g1,g2⟩:=eh (f6 b c);exact⟨a,b,by rw[Nc,g1];rfl,by rw[Nc,g2];rfl⟩
theorem E0{N:aR}{f f':LI_}{ls:LN_}{c:LI_}(hl:f.length=N.arcs.length)(o:f'.length=N.arcs.length)(l:∀ r∈ls,c.getD r 0=(a9 (N.arcs.zip f')).getD r 0)(b:∀ r,r∉ls->c.getD r 0=(a9 (N.arcs.zip f)).getD r 0)
 (d:∀ r,r∉ls->cF r∉ls->(a9 (N.arcs.zip f')).getD r 0=(a9 (N.arcs.zip f)).getD r 0) (g:∀ r∈ls,cF r∉ls) {k:Nat} (t:k<2*N.arcs.length):
 (k%2=0->mi f f' ls k (k/2)+((a9 (N.arcs.zip f)).getD k 0-c.getD k 0)=mi f f' ls (k+1) (k/2))/\(k%2=1->mi f f' ls k (k/2)-((a9 (N.arcs.zip f)).getD k 0-c.getD k 0)=mi f f' ls (k+1) (k/2)):=by
 obtain⟨i,hi⟩:∃ i,k/2=i:=⟨_,rfl⟩;have m:i<N.arcs.length:=aa;obtain⟨a,s,g1,g2⟩:=tj hl m;obtain⟨u,j,g3,g4⟩:=tj o m;rw[s] at j;simp only[Na] at j;subst j;rw[hi];refine⟨λ v=>?_,λ w=>?_⟩
 ·obtain rfl:k=2*i:=by omega
  unfold mi;rw[if_neg aa,if_neg aa,if_neg aa];by_cases e:2*i∈ls
  ·rw[if_pos ⟨aa,e⟩,l _ e,g1,g3];omega
  ·rw[if_neg (λ h=>e h.2),b _ e];omega
 ·obtain rfl:k=2*i+1:=by omega
  unfold mi;rw[if_neg aa,if_pos (show 2*i+2<=2*i+1+1 by omega)];have p:cF (2*i+1)=2*i:=by unfold cF;rw[if_pos aa];omega
  have n:cF (2*i)=2*i+1:=by unfold cF;rw[if_neg aa]
  by_cases e:2*i∈ls
  ·rw[if_pos ⟨aa,e⟩,b _ (by rw[<- n];exact g _ e)];omega
  ·rw[if_neg (λ h=>e h.2)];by_cases q:2*i+1∈ls
   ·rw[l _ q,g2,g4];omega
   ·have:=d _ q (by rw[p];exact e);rw[b _ q];rw[g2,g4] at this;omega
theorem CI{N:aR}(c:N.Right){f f':LI_}(d:Ranged N f)(a:Ranged N f'){ls:LN_}{k i:Nat}(hi:i<N.arcs.length):0<=mi f f' ls k i/\mi f f' ls k i<=4611686018427387903:=by
 obtain⟨_,_,_,g2⟩:=tj d.len hi;obtain⟨_,_,_,g4⟩:=tj a.len hi;have e:=gJ c d (2*i+1);have b:=gJ c a (2*i+1);rw[g2] at e;rw[g4] at b;unfold mi;split
 ·exact b
 ·split
  ·exact b
  ·exact e
def i8(n m:Nat):Nat:=(eG n+3)*m+eM n*(n+1)+(em (n+1)+5*(n+1)+1)+(2*em (n+1)+11*(n+1)+1)*(n+1)+(n+1)
end Go.Proofs.YtmcnpaelaieniaaGreatDoor
