import Derived.Test.YtmcnpaelaieniaaGreatDoorQX138
import Derived.Test.YtmcnpaelaieniaaGreatDoorQX140
/- A part of the proof. -/
set_option linter.unusedVariables false
set_option linter.unusedSimpArgs false
set_option maxHeartbeats 8000000
namespace Go.Proofs.YtmcnpaelaieniaaGreatDoor
open Go.RowKit
section
variable {P:EP} {L:Nat->LN_} {lv:Nat->Int} {gv:Nat->Nat} {rm0 tr:LI_} {pos:LN_} {par:OV} {val:Nat->Int}
theorem Cj(hP:mX P L lv gv){u r:Nat}(h:r∈L u):eN P.N r<=P.n:=by
 have a:=ow hP.right (iQ hP h).1;have b:=hP.nodes;omega
theorem TA.val_in{rm:LI_}(h:TA P L rm0 tr pos par val rm){v:Nat}(a:v<=P.n):0<=val v/\val v<=4611686018427387904/\((par v).isSome->val v<4611686018427387904):=by
 cases hp:par v with
 |none=>have:=h.free v a hp;exact⟨aa,aa,λ h=>by cases h⟩
 |some w=>
  obtain⟨q,r,_,_,_,b⟩:=h.link v w a hp;have:=h.trb r;exact⟨aa,aa,λ _=>by omega⟩
def zD(P:EP)(par:OV)(val:Nat->Int):Prop:=∀ u w,u<=P.n->par u=some w->P.least<=val u
abbrev wJ(Aw:OA_)(cw:Nat)(wt:LN_):aY:=.own (.slice Aw wt.length cw) 3 1 wt.length (cJ wt)
structure WS where
 u:Nat
 pos:LN_
 par:OV
 val:Nat->Int
 s:ES
 wt:LN_
 A:OA_
 c:Nat
def Mt(P:EP)(L:Nat->LN_)(gv:Nat->Nat)(rm0 tr:LI_)(pos:LN_)(par:OV)(s:ES)(H':Heap):Prop:=
 ∃ u pos' par' val' s' W,H'=gZ P s'/\1<=u/\PI P.N L P.least tr pos W/\dZ P.N W=P.N.snk.toNat/\lJ P L gv rm0 (dg (dC tr W) W tr) pos' par' val' s'/\PI P.N L P.least (dg (dC tr W) W tr) pos' []/\zD P par' val'/\
   dy L P.n pos'+u=dy L P.n pos/\kb par' P.n+u=kb par P.n/\s'.w=s.w+1/\s'.cost<=s.cost+u*(9*em (P.n+1)+65*(P.n+1)+4)
theorem FR(hP:mX P L lv gv)(hle:1<=P.least)(s:ES)(hI:lJ P L gv rm0 tr pos par val s)(p4:PI P.N L P.least tr pos [])(O:zD P par val){f:LI_}(hf:aD P.N f)(he:tr=bc (P.N.arcs.zip f)){p:LN_}(hp:a6 par P.N.src.toNat p)(hl:p.getLast?=some P.N.snk.toNat):
 Fn 241 [.pointer (some ⟨P.pe,0,none⟩)] (aC (gZ P s)) ([P.sg]++gZ P s) λ _ H'=>Mt P L gv rm0 tr pos par s H':=by
 have hN:=hP.small;have hsr:=hP.right.src;have hsk:=hP.right.snk;have hdf:=hP.right.diff;have hnn:=hP.nodes;obtain⟨s0,h5⟩:∃ x,x=P.N.src.toNat:=⟨_,rfl⟩;obtain⟨D,hd⟩:∃ x,x=P.N.snk.toNat:=⟨_,rfl⟩;rw[<- h5] at hp;rw[<- hd] at hl;have hs1:P.N.src=(s0:Int):=aa;have hk1:P.N.snk=(D:Int):=aa;have hG:s0<P.n+1:=aa;have hkN:D<P.n+1:=aa;obtain⟨W,hW⟩:=hI.ta.walk_of hP hp aa hl;obtain⟨hy,hk⟩:=hW.pi h5 p4 (λ _ _ h=>Cj hP h) O;obtain⟨hH,q2,p2,hWfl,hWlen,hma,⟨f',hf',p8⟩,ht,hmono,_⟩:=kH hP.right hP.graded hle hf he hy (by rw[hk,hd]);have ho:par D=none:=hp.root_last hl;have k4:D∈p:=OC hl;have hj:PI P.N L P.least (dg (dC tr W) W tr) pos []:=⟨ht.pl,⟨_,rfl⟩,λ _ h=>(by cases h),ht.pass⟩;have hb:=gC hP.right hf'.toRanged;rw[<- p8] at hb
 have Q:∀ u r,r∈L u->(dg (dC tr W) W tr).getD r 0=tr.getD r 0-if r∈W then dC tr W else 0:=by
  intro u r hr;rw[jj (a:=dC tr W) (by rw[he];exact kg hf.len) q2 p2 r]
  have:cI r∉W:=by
   intro hA;have g1:=(hP.graded.ok _ _ hr);have g2:=(hP.graded.ok _ _ (hy.mem _ hA)).2.2;have g3:=g1.2.2;rw[ky,iK] at g2;rw[<- g1.2.1] at g3;omega
  rw[if_neg this];omega
 have c1:∀ z∈p,z<=P.n:=by
  intro z B
  rcases hW.all z B with e|⟨r,hr,e⟩
  ·omega
  ·rw[<- e];exact Cj hP (hy.mem r hr)
 obtain⟨a,ha⟩:∃ x,x=dC tr W:=⟨_,rfl⟩;obtain⟨S,U⟩:∃ x,x=dg (dC tr W) W tr:=⟨_,rfl⟩;rw[<- U] at hj hb Q;rw[<- ha] at Q hma
 have hab:1<=a/\a<=4611686018427387903:=by
  obtain⟨r,_,h1⟩:=ny (rm:=tr) hH;have:=hI.ta.trb r;omega
 obtain⟨row,hF⟩:=hI.fa
 generalize hM:aC _=M
 refine aT Tryz.func241 λ w0=>?_;refine bS oB<|ig ?_;refine ah<|bD 2 (v':=af (s0:Int)) rfl (Na (Value.int .i64) hs1)<|cq ?_;refine bM 12 (dT [0,1,2,3,4,5,6,7,8]++[(9,false),(10,false)]++dT [11]) [5] aX ab rfl<|q6 ?_;refine cz ?_;refine dI (Cq hF hN hG hp) rfl ay.refl an ?_;rintro _ H' ⟨fs1,row1,y,rfl,rfl,hF1,k2,hyp,hk1'⟩;refine⟨rfl,b6 [5] ?_⟩
 have hL:val y=a:=by
  rw[ha];exact hW.most hH hyp k2.le (λ r=>by rw[hI.ta.free D aa ho];have:=hI.ta.trb r;omega)
 refine cz ?_;refine dI (xa hF1 hN (show y<P.n+1 by have:=c1 y hyp;omega)) rfl ay.refl an ?_;rintro _ H' ⟨fs2,rfl,rfl,hF2,hk2'⟩;refine⟨rfl,b6 [5] ?_⟩;refine eJ (gs:=[999]) rfl rfl<|gA ?_;refine bD 3 (v':=af a) rfl (Na (Value.int .i64) hL)<|ig ?_;have hna:IntKind.i64.wrap (0-a)=-a:=(cp aa).trans aa;refine aA 29 (v':=af (-a)) rfl (Na (Value.int .i64) hna) ?_;refine dI (CD hF2 hN hG hp (d:=-a) aa (by intro z B;have h1:=k2.le z B;have h2:=(hI.ta.val_in (c1 z B)).2.1;omega)) rfl ay.refl an ?_;rintro _ H' ⟨fs3,row3,rfl,hF3,hk3'⟩;refine dw ?_;refine ng ?_;refine fC ?_;refine bM 11 (dT [0,1,2,3,4,5,6,7,8,9]++[(10,false)]) [5] aX ab rfl<|q6 ?_;refine dK 39 (v':=af (D:Int)) rfl (Na (Value.int .i64) hk1)<|cz ?_;have hkfr:=hI.ta.free D aa ho;refine dI (CD hF3 hN hkN (p:=[D]) ⟨rfl,ho⟩ (d:=a) aa (by intro z B;rw[Ni.1 B];simp only[if_pos k4];omega)) rfl ay.refl an ?_;rintro _ H' ⟨b2,l2,rfl,hF4,hk4'⟩;refine⟨rfl,b6 [5] ?_⟩;refine gA ?_;refine ig ?_;refine aA 46 (v':=af (ei ((s.w+1:Nat):Int))) rfl (Na (Value.int .i64) (tF _ _))<|ng ?_;refine dE 5 ?_;refine ah ?_;obtain⟨s2,hs2⟩:∃ x:ES,x={ s with fs:=b2,w:=s.w+1 }:=⟨_,rfl⟩;refine GO ?_
 have hI2:lJ P L gv rm0 S pos par (nO p a D val) s2:=by
  rw[hs2];exact⟨⟨l2,hF4⟩,hI.ta.push hp hl hW Q (λ u r h=>(iQ hP h).2.1) hb,hI.vo,hI.tb⟩
 have hk2:s2.cost<=s.cost+3*em (P.n+1)+15*(P.n+1):=by
  rw[hs2];show s.k+b2.k<=s.k+s.fs.k+_+_;omega
 have hw2:s2.w=s.w+1:=by rw[hs2]
 have r1:KI P.n P.least par (nO p a D val) [s0]:=by
  intro u w hu hw I;refine⟨s0,ai,p,hp,NG λ hA=>?_⟩;have hne:u≠D:=λ e=>hA (e▸k4);simp only[nO,Ni,if_neg hne,if_neg hA] at I;have:=O u w hu hw;omega
 have l1:∃ w,par y=some w/\nO p a D val y<P.least:=by
  have h6:y≠D:=λ e=>by rw[e] at hL;omega
  rcases hW.all y hyp with e|⟨r,hr,e⟩
  ·exact absurd e h6
  ·refine⟨_,by rw[<- e];exact (hW.at_ r hr).2.2.1,?_⟩;simp only[nO,Ni,if_neg h6,if_pos hyp];omega
 clear hs2
 refine gN ?_;refine dp λ g2=>?_;refine lx 1 1 rfl ab<|aN ?_;refine bS yH ?_;obtain⟨C,hK1⟩:∃ x,x=em (P.n+1)+11*(P.n+1)+1:=⟨_,rfl⟩;obtain⟨KU,hKU⟩:∃ x,x=5*em (P.n+1)+39*(P.n+1)+3:=⟨_,rfl⟩;refine aq ?_
 refine cA (σ:=WS) (λ t=>[(4,.slice t.A t.wt.length t.c),(0,ap P.pe 0)]) (λ t=>pz P t.s (wJ t.A t.c t.wt))
  (λ t=>FV P L gv rm0 S pos par (nO p a D val) s2 t.u t.pos t.par t.val t.s/\KI P.n P.least t.par t.val t.wt/\(∀ x∈t.wt,x<=P.n)/\(t.u=0->t.par=par/\t.val=nO p a D val)/\t.wt.length<=t.u+1/\
   t.s.cost+t.wt.length*C<=s2.cost+t.u*KU+C) (λ t=>2*kb t.par P.n+t.wt.length)
  ⟨0,pos,par,nO p a D val,s2,[s0],aL g2 0,1⟩ a7 ay.refl
  ⟨⟨hI2,hj,Sub.refl,rfl,rfl,rfl⟩,r1,(by intro x hx;rw[Ni.1 hx];omega),λ _=>⟨rfl,rfl⟩,ai,ai⟩ ?_
 rintro⟨u,o,g,l,j,wt,Aw,cw⟩ ⟨hC,hv,hn,hS,hwl,hc⟩;simp only at hC hv hn hS hwl hc ⊢;have hlk1:=u6 par P.n;have hlk2:=hC.lk;refine iL ?_;refine ak rfl (λ I=>ag ?_) (λ hge=>?_)
 ·rcases Ob wt with h0|⟨b,x,rfl⟩
  ·rw[h0] at I;simp at I
  rw[Oc] at*;have hlen:(b++[x]).length=b.length+1:=ai;have hxn:x<=P.n:=hn x ai;refine aR (aH 9 rfl) λ ⟨_,hcw,hAw,_⟩=>?_;obtain⟨gw,rfl⟩:=hAw aa;refine aq<|gN ?_;refine cD (ay.re (A:=P.fo j.fs++[P.sg,P.pc j.k j.w,P.rc j.rm,P.lc j.vals,P.uc j.un,wJ (aL gw 0) cw (b++[x])]) (R:=P.rows j.un) [5,0,1,2,3,4,6,7,8,9] rfl ab)<|bK [999] (mS P j.k j.w) rfl rfl rfl rfl aX ay.refl an aK<|?_;rintro v0 H' rfl;refine dw ?_;refine cD (ay.re (A:=[P.pc (j.k+1) j.w]++(P.fo j.fs++[P.sg,P.rc j.rm,P.lc j.vals,P.uc j.un,wJ (aL gw 0) cw (b++[x])])) (R:=P.rows j.un) [1,2,3,4,5,0,6,7,8,9] rfl ab)<|ah<|?_;obtain⟨s4,V⟩:∃ x:ES,x={ j with k:=j.k+1 }:=⟨_,rfl⟩;refine bS (K:=pz P s4 (wJ (aL gw 0) cw (b++[x]))) (by rw[V];exact ay.refl) ?_;have hs:lJ P L gv rm0 S o g l s4:=by rw[V];exact⟨hC.ti.fa,hC.ti.ta,hC.ti.vo,hC.ti.tb⟩
  have hk4:s4.cost=j.cost+1:=by rw[V];show j.k+1+j.fs.k=j.k+j.fs.k+1;omega
  have hw4:s4.w=j.w:=by rw[V]
  clear V
  refine ig ?_;have hwl2:(b++[x]).length<=10002:=aa;refine aA 59 (v':=af (b.length:Int)) rfl (Na (Value.int .i64) ((cp aa).trans aa))<|ae [999] (bn rfl (show b.length<(b++[x]).length by omega)) rfl<|ae [999] (aw 9 rfl rfl rfl (eH (show (b++[x])[b.length]?=some x by simp))) rfl<|ng ?_;refine ah ?_;obtain⟨row5,k3⟩:=hs.fa;obtain⟨px,hB⟩:=k3.path x aa;have hpl:∀ z∈px,z<=P.n:=λ z B=>by have:=a6.lt k3.lt hB (show x<P.n+1 by omega) z B;omega
  refine ig ?_;refine dI (Cq k3 hN (show x<P.n+1 by omega) hB) rfl ay.refl an ?_;rintro _ H' ⟨fs6,row6,v,rfl,rfl,hF6,q1,hvp,hk6⟩;refine dw ?_;refine ng ?_;refine ah ?_;have X:=hpl v hvp;refine cq ?_;refine bM 11 (dT [0,1,2,3,4,6,7,8,9]++[(5,false)]++dT [10]) [5] aX ab rfl<|q6 ?_;refine cz ?_;refine dI (xa hF6 hN (show v<P.n+1 by omega)) rfl ay.refl an ?_;rintro _ H' ⟨r2,rfl,rfl,hF7,hk7⟩;refine⟨rfl,b6 [5] ?_⟩;refine eJ (gs:=[999]) rfl rfl<|gA ?_;obtain⟨F,Y⟩:∃ x:ES,x={ s4 with fs:=r2 }:=⟨_,rfl⟩;refine bS (K:=pz P F (wJ (aL gw 0) cw (b++[x]))) (by rw[Y];exact ay.refl) ?_;have E:lJ P L gv rm0 S o g l F:=by rw[Y];exact⟨⟨_,hF7⟩,hs.ta,hs.vo,hs.tb⟩
  have hk8:F.cost<=j.cost+C:=by
   have h1:s4.cost=s4.k+s4.fs.k:=rfl;have h2:F.cost=s4.k+r2.k:=by rw[Y];rfl
   omega
  have b1:F.w=j.w:=by rw[Y];exact hw4
  clear Y
  refine cq ?_;refine ak rfl (λ hge=>?_) (λ hlt7=>ag ?_)
  ·refine bu ?_;refine lB ?_;refine lB ?_;refine aA 82 (v':=af (b.length:Int)) rfl (congrArg (Value.int .i64) ((cp aa).trans aa))<|ae [999] (jG (i:=b.length) rfl rfl rfl rfl rfl aa) rfl<|aN ?_;refine aO ?_;have h1:(b.length+1)*C=b.length*C+C:=by rw[Nat.add_mul,Nat.one_mul]
   rw[hlen,h1] at hc;refine⟨⟨u,o,g,l,F,b,aL gw 0,cw⟩,a7,?_,⟨⟨E,hC.pi,hC.sub,hC.rem,hC.lk,by rw[b1];exact hC.w⟩,hv.pop hB (λ z B=>by have h1:=q1.le z B;omega),λ z B=>hn z (by simp[B]),hS,by show b.length<=u+1;omega,?_⟩,?_⟩
   ·refine ay.trans (ay.shrink (m:=b.length) 9 rfl aa) ?_;show ay _ (pz P F (.own (.slice _ _ _) _ _ _ (List.take (b.length*1) (cJ (b++[x]))))) _;rw[NT,vj,List.take_left];exact ay.refl
   ·show F.cost+b.length*C<=s2.cost+u*KU+C;omega
   ·show 2*kb g P.n+b.length<2*kb g P.n+(b++[x]).length;omega
  ·obtain⟨w,hw⟩:∃ w,g v=some w:=by
    cases hp1:g v with
    |some w=>exact⟨w,rfl⟩
    |none=>have:=E.ta.free v X hp1;omega
   obtain⟨q,r,hq,hr,hto,hg⟩:=E.ta.link v w X hw;have hrm:=Nb hr
   have hV:w<=P.n:=by
    have:=(jM hP.right (iQ hP hrm).1).2.2;omega
   obtain⟨row7,a1⟩:=E.fa;refine ig ?_;refine dI (I0 a1 hN (show v<P.n+1 by omega)) rfl ay.refl an ?_;rintro _ H' ⟨n2,row8,rfl,rfl,hF8,hk9⟩;refine dw ?_;refine aA 90 (v':=af (w:Int)) rfl (Na (Value.int .i64) (gT hw))<|dp λ g3=>?_;refine bx (n:=(b++[x]).length) (m:=1) (off:=0) (news:=aj [(w:Int)]) 10 0 rfl rfl rfl rfl rfl rfl ab rfl rfl (aS g3 _ _ (0,0)) aK rfl rfl aa aa (λ _ _=>rfl) λ A2 c2=>?_;rw[show (b++[x]).length+1=((b++[x])++[w]).length by simp,oz];refine aN ?_;obtain⟨s8,Z⟩:∃ x:ES,x={ F with fs:=n2 }:=⟨_,rfl⟩;refine bS (K:=pz P s8 (wJ A2 c2 ((b++[x])++[w]))) (by rw[Z];exact ay.sub (NW _ _)) ?_;have hI8:lJ P L gv rm0 S o g l s8:=by rw[Z];exact⟨⟨_,hF8⟩,E.ta,E.vo,E.tb⟩
   have hk10:s8.cost<=F.cost+em (P.n+1)+5*(P.n+1):=by
    have h1:F.cost=F.k+F.fs.k:=rfl;have h2:s8.cost=F.k+n2.k:=by rw[Z];rfl
    omega
   have hw8:s8.w=j.w:=by rw[Z];exact b1
   clear Z
   refine ig ?_;refine dI (wx hP s8 hI8 X hw hq hr hto hg) rfl uy ⟨bz 0 rfl,an⟩ ?_;rintro _ H' ⟨s9,rfl,hI9,hw9,hk11⟩;refine⟨dl rfl (dd _ _),?_⟩;refine cD uF<|ah<|?_;have hrem:=jr (L:=L) hq X (Ng.1 hr).1;have hlk:=xp X hw;have h1:=hC.rem;have h2:(b.length+1)*C=b.length*C+C:=by rw[OQ,Nat.one_mul]
   have h3:(b.length+1+1)*C=b.length*C+C+C:=by rw[OQ,OQ,Nat.one_mul]
   have h4:(u+1)*KU=u*KU+KU:=by rw[OQ,Nat.one_mul]
   rw[hlen,h2] at hc;have n1:((b++[x])++[w]).length=b.length+1+1:=ai;refine⟨⟨u+1,o.set v (q+1),bJ g v none,iN l v (4611686018427387904-l v),s9,(b++[x])++[w],A2,c2⟩,a7,ay.refl,⟨⟨hI9,hC.pi.bump (λ _ h=>by cases h) hq hr (.inl (by rw[<- hg];omega)),hC.sub.cut,?_,?_,by rw[hw9,hw8];exact hC.w⟩,hv.cut hw,λ z B=>?_,λ h=>(by cases h),?_,?_⟩,?_⟩
   ·show dy L P.n (o.set v (q+1))+(u+1)=_;omega
   ·show kb (bJ g v none) P.n+(u+1)=_;omega
   ·rcases Np.1 B with B|B
    ·exact hn z B
    ·rw[Ni.1 B];exact hV
   ·show ((b++[x])++[w]).length<=u+1+1;omega
   ·show s9.cost+((b++[x])++[w]).length*C<=s2.cost+(u+1)*KU+C;rw[n1,h3,h4];omega
   ·show 2*kb (bJ g v none) P.n+((b++[x])++[w]).length<2*kb g P.n+(b++[x]).length;omega
 ·have h0:wt=[]:=Ny.1 aa;subst h0;refine bS vK (aO ?_)
  have H:zD P g l:=λ z w B hw=>NG λ I=>by
   obtain⟨_,hx,_⟩:=hv z w B hw aa
   cases hx
  have hR:1<=u:=by
   rcases Pa u with h0|h0
   ·obtain⟨e1,e2⟩:=hS h0;obtain⟨w,hw,I⟩:=l1;have:=H y w (c1 y hyp) (by rw[e1];exact hw);rw[e2] at this;omega
   ·exact h0
  refine⟨_,rfl,u,o,g,l,j,W,rfl,hR,hy,by rw[hk,hd],by rw[<- U];exact hC.ti,by rw[<- U];exact hC.pi,H,hC.rem,hC.lk,hC.w.trans hw2,?_⟩;simp only[NC,Nat.zero_mul,OZ] at hc
  have h1:u*(9*em (P.n+1)+65*(P.n+1)+4)=u*KU+u*(4*em (P.n+1)+26*(P.n+1)+1):=by
   rw[<- Oy,hKU];congr 1;omega
  have h2:1*(4*em (P.n+1)+26*(P.n+1)+1)<=u*(4*em (P.n+1)+26*(P.n+1)+1):=Ow _ hR;omega
end
inductive TR (N:aV) (L:Nat->LN_) (least:Int):LI_->List (LN_×Int)->LI_->Prop
 |stop {tr:LI_} {pos:LN_}:PI N L least tr pos []->rh L pos N.src.toNat->TR N L least tr [] tr
 |walk {tr tr':LI_} {pos W:LN_} {ws:List (LN_×Int)}:PI N L least tr pos W->dZ N W=N.snk.toNat->TR N L least (dg (dC tr W) W tr) ws tr'->TR N L least tr ((W,dC tr W)::ws) tr'
def eO(n:Nat):Nat:=5*em (n+1)+17*(n+1)+2
def eG(n:Nat):Nat:=15*em (n+1)+87*(n+1)+7
section
variable {P:EP} {L:Nat->LN_} {lv:Nat->Int} {gv:Nat->Nat} {rm0 tr:LI_} {pos:LN_} {par:OV} {val:Nat->Int}
structure RS where
 ws:List (LN_×Int)
 f:LI_
 tr:LI_
 pos:LN_
 par:OV
 val:Nat->Int
 s:ES
def M1(P:EP)(L:Nat->LN_)(gv:Nat->Nat)(rm0 tr:LI_)(pos:LN_)(par:OV)(s:ES)(H':Heap):Prop:=
 ∃ t:RS,H'=gZ P t.s/\TR P.N L P.least tr t.ws t.tr/\lJ P L gv rm0 t.tr t.pos t.par t.val t.s/\aD P.N t.f/\t.tr=bc (P.N.arcs.zip t.f)/\t.s.w=s.w+t.ws.length/\
   t.s.cost+eG P.n*dy L P.n t.pos+eO P.n*kb par P.n<=s.cost+eG P.n*dy L P.n pos+eO P.n*kb t.par P.n+(em (P.n+1)+5*(P.n+1)+1)
structure MQ (P:EP) (L:Nat->LN_) (gv:Nat->Nat) (rm0 tr:LI_) (pos:LN_) (par:OV) (s:ES) (t:RS):Prop where
 acc:∀ ws tr',TR P.N L P.least t.tr ws tr'->TR P.N L P.least tr (t.ws++ws) tr'
 ti:lJ P L gv rm0 t.tr t.pos t.par t.val t.s
 pi:PI P.N L P.least t.tr t.pos []
 room:zD P t.par t.val
 flow:aD P.N t.f
 tre:t.tr=bc (P.N.arcs.zip t.f)
 w:t.s.w=s.w+t.ws.length
 cost:t.s.cost+eG P.n*dy L P.n t.pos+eO P.n*kb par P.n<=s.cost+eG P.n*dy L P.n pos+eO P.n*kb t.par P.n
theorem Lg(hP:mX P L lv gv)(hle:1<=P.least)(s:ES)(hI:lJ P L gv rm0 tr pos par val s)(c1:PI P.N L P.least tr pos [])(X:zD P par val){f:LI_}(hf:aD P.N f)(he:tr=bc (P.N.arcs.zip f)):
 Fn 234 [.pointer (some ⟨P.pe,0,none⟩)] (aC (gZ P s)) ([P.sg]++gZ P s) λ _ H'=>M1 P L gv rm0 tr pos par s H':=by
 have hN:=hP.small;have l2:=hP.right.src;have r1:=hP.right.snk;have l1:=hP.right.diff;have h6:=hP.nodes;obtain⟨s0,h0⟩:∃ x,x=P.N.src.toNat:=⟨_,rfl⟩;obtain⟨k0,hc⟩:∃ x,x=P.N.snk.toNat:=⟨_,rfl⟩;have hs:P.N.src=(s0:Int):=aa;have hS:P.N.snk=(k0:Int):=aa;have Y:s0<P.n+1:=aa;have r2:k0<P.n+1:=aa
 generalize hM:aC _=M
 refine aT Tryz.func234 λ w0=>?_;refine bS oB<|aq<|?_
 refine cA (σ:=RS) (λ _=>[(0,ap P.pe 0)]) (λ t=>sv P t.s) (λ t=>MQ P L gv rm0 tr pos par s t) (λ t=>2*dy L P.n t.pos+(P.n+2-kb t.par P.n))
  ⟨[],f,tr,pos,par,val,s⟩ ⟨rfl,an⟩ ay.refl ⟨λ _ _ h=>h,hI,c1,X,hf,he,rfl,Nr _⟩ ?_
 rintro⟨ws,f1,i,g,a,F,s1⟩ l;have D:=l.ti;have Z:=l.pi;have S:=l.room;have k3:=l.w;have hB:=l.cost;simp only at D Z S k3 hB ⊢;have b1:=u6 a P.n;refine aq<|ig ?_;refine cD (ay.re (A:=P.fo s1.fs++[P.sg,P.pc s1.k s1.w,P.rc s1.rm,P.lc s1.vals,P.uc s1.un]) (R:=P.rows s1.un) [5,0,1,2,3,4,6,7,8] rfl ab)<|bK [999] (mS P s1.k s1.w) rfl rfl rfl rfl aX ay.refl an aK<|?_;rintro v0 H' rfl;refine⟨rfl,?_⟩;refine cD (ay.re (A:=[P.pc (s1.k+1) s1.w]++(P.fo s1.fs++[P.sg,P.rc s1.rm,P.lc s1.vals,P.uc s1.un])) (R:=P.rows s1.un) [1,2,3,4,5,0,6,7,8] rfl ab)<|ah<|?_;obtain⟨row,hF⟩:=D.fa;obtain⟨p,hp⟩:=hF.path s0 Y
 (repeat' (first|refine am ?_|refine ag ?_|refine bF rfl ?_|refine bo rfl ?_))
 refine bM 11 (dT [0,1,2,3,4,5,6,7,8]++[(9,false)]++dT [10]) [5] aX ab rfl<|q6 ?_;refine dK 13 (v':=af (s0:Int)) rfl (Na (Value.int .i64) hs)<|cz ?_;refine dI (Lh hF hN Y hp) rfl ay.refl an ?_;rintro _ H' ⟨ha,k4,y,rfl,rfl,q1,E,hV⟩;refine⟨rfl,b6 [5] ?_⟩;refine eJ (gs:=[999]) rfl rfl<|gA ?_;obtain⟨s2,hs2⟩:∃ x:ES,x={ s1 with k:=s1.k+1,fs:=ha }:=⟨_,rfl⟩;refine GO ?_;have hk:lJ P L gv rm0 i g a F s2:=by rw[hs2];exact⟨⟨_,q1⟩,D.ta,D.vo,D.tb⟩
 have a1:s2.cost<=s1.cost+em (P.n+1)+5*(P.n+1)+1:=by
  rw[hs2];show s1.k+1+ha.k<=s1.k+s1.fs.k+_+_+1;omega
 have n2:s2.w=s1.w:=by rw[hs2]
 clear hs2
 have hx:a y=none:=hp.root_last E;have hyp:y∈p:=OC E;have h4:∀ z∈p,z<=P.n:=λ z hz=>by have:=a6.lt hF.lt hp Y z hz;omega
 have h3:=h4 y hyp;refine aq<|ig ?_;refine aA 24 (v':=af (k0:Int)) rfl (Na (Value.int .i64) hS)<|ng ?_;refine fC ?_;refine ak rfl (λ heq=>?_) (λ hL=>?_)
 ·have hy:y=k0:=by omega
  subst hy;refine ig ?_;refine dI (FR hP hle s2 hk Z S l.flow l.tre (p:=p) (by rw[<- h0];exact hp) (by rw[<- hc];exact E)) rfl oD ⟨bz 0 rfl,an⟩ ?_;rintro _ H' ⟨u,c,o,hH,H,W,rfl,hu,ht,U,j,m,hj,hA,I,n1,k2⟩;refine⟨dl rfl (dd _ _),?_⟩;refine cD oX<|ah<|?_;obtain⟨_,_,_,_,_,_,⟨f2,h5,hg⟩,_⟩:=kH hP.right hP.graded hle l.flow l.tre ht U;have g1:eG P.n*dy L P.n g=eG P.n*dy L P.n c+eG P.n*u:=by rw[<- hA,Oy]
  have g2:eO P.n*kb a P.n=eO P.n*kb o P.n+eO P.n*u:=by rw[<- I,Oy]
  have g3:eG P.n*u=eO P.n*u+u*(10*em (P.n+1)+70*(P.n+1)+5):=by
   rw[Nat.mul_comm u,<- OQ];congr 1;unfold eG eO;omega
  have g4:u*(10*em (P.n+1)+70*(P.n+1)+5)=u*(9*em (P.n+1)+65*(P.n+1)+4)+u*(em (P.n+1)+5*(P.n+1)+1):=by
   rw[<- Oy];congr 1;omega
  have g5:1*(em (P.n+1)+5*(P.n+1)+1)<=u*(em (P.n+1)+5*(P.n+1)+1):=Ow _ hu;refine⟨⟨ws++[(W,dC i W)],f2,dg (dC i W) W i,c,o,hH,H⟩,⟨rfl,an⟩,ay.refl,⟨λ hG q2 h=>?_,j,m,hj,h5,hg,?_,?_⟩,?_⟩
  ·show TR P.N L P.least tr ((ws++[(W,dC i W)])++hG) q2;rw[NQ];exact l.acc _ _ (TR.walk ht U h)
  ·show H.w=s.w+(ws++[(W,dC i W)]).length;rw[Nj,NU];omega
  ·show H.cost+eG P.n*dy L P.n c+eO P.n*kb par P.n<=s.cost+eG P.n*dy L P.n pos+eO P.n*kb o P.n;omega
  ·show 2*dy L P.n c+(P.n+2-kb o P.n)<2*dy L P.n g+(P.n+2-kb a P.n);omega
 ·have hy:y≠k0:=by omega
  refine cq ?_;refine ig ?_;refine dI (J9 hP s2 hk Z h3 hx) rfl oD ⟨bz 0 rfl,an⟩ ?_;rintro _ H' ⟨b,H,rfl,rfl,c,m,n1,p2,hb⟩;refine⟨dl rfl (dd _ _),?_⟩;refine cD oX<|ng ?_;refine fC ?_;obtain⟨d,hd⟩:∃ d,dy L P.n g=dy L P.n c+d:=⟨dy L P.n g-dy L P.n c,aa⟩;have g1:eG P.n*dy L P.n g=eG P.n*dy L P.n c+eG P.n*d:=by rw[hd,Oy]
  have g2:d<=eG P.n*d:=Nat.le_mul_of_pos_left d (by unfold eG;omega)
  rcases hb with ⟨rfl,q,r,hq,hr,p4,j,k2⟩|⟨rfl,O,j,k2⟩
  ·refine bF rfl (ag ?_);have I:=Hm (w:=gR P.N r) h3 hx;have g3:eO P.n*(kb a P.n+1)=eO P.n*kb a P.n+eO P.n:=by rw[Nat.mul_add,Nat.mul_one]
   have g4:eO P.n=5*em (P.n+1)+17*(P.n+1)+2:=rfl;have b2:=u6 (bJ a y (some (gR P.N r))) P.n;refine⟨⟨ws,f1,i,c,bJ a y (some (gR P.N r)),iN F y (i.getD r 0-4611686018427387904),H⟩,⟨rfl,an⟩,ay.refl,⟨l.acc,j,m,λ u w hu hw=>?_,l.flow,l.tre,?_,?_⟩,?_⟩
   ·simp only[iN,Ni];by_cases e:u=y
    ·subst e;rw[if_pos rfl,D.ta.free u hu hx];omega
    ·rw[if_neg e];exact S u w hu (by simpa [bJ,e] using hw)
   ·show H.w=s.w+ws.length;omega
   ·show H.cost+eG P.n*dy L P.n c+eO P.n*kb par P.n<=s.cost+eG P.n*dy L P.n pos+eO P.n*kb (bJ a y (some (gR P.N r))) P.n;rw[I,g3];omega
   ·show 2*dy L P.n c+(P.n+2-kb (bJ a y (some (gR P.N r))) P.n)<2*dy L P.n g+(P.n+2-kb a P.n);omega
  ·refine bo rfl<|cq ?_;refine ig ?_;refine aA 38 (v':=af (s0:Int)) rfl (Na (Value.int .i64) hs)<|ng ?_;refine fC ?_;refine ak rfl (λ heq=>?_) (λ hns=>?_)
   ·have hv:y=s0:=by omega
    refine bS qR (bN ⟨_,rfl,⟨ws,f1,i,c,a,F,H⟩,rfl,?_,j,l.flow,l.tre,?_,?_⟩)
    ·have:=l.acc [] i (TR.stop m (by rw[← h0,← hv];exact O))
     rwa [NN] at this
    ·show H.w=s.w+ws.length;omega
    ·show H.cost+eG P.n*dy L P.n c+eO P.n*kb par P.n<=s.cost+eG P.n*dy L P.n pos+eO P.n*kb a P.n+_;omega
   ·have hv:y≠s0:=by omega
    obtain⟨v0,hW,p8⟩:∃ v0,v0<=P.n/\a v0=some y:=by
     obtain⟨A,z,Q⟩:=hp.ne;rw[Q,N1] at E;simp only[List.getLast?_singleton,Option.some_or,Nc] at E;subst E
     rcases Ob A with rfl|⟨B,b,rfl⟩
     ·rw[Q] at hp;exact absurd hp.1.symm hv
     ·rw[Oc] at Q;refine⟨b,h4 b (by rw[Q];simp),a6.next (A:=B) (B:=[]) (x:=s0) (by rw[Q] at hp;simpa using hp)⟩
    refine ig ?_;refine dI (Kk hP H j m h3 O (by rw[<- hc];exact hy) hW p8) rfl oD ⟨bz 0 rfl,an⟩ ?_;rintro _ H' ⟨u,v,C,V,s4,rfl,hu,hC,hc4⟩;refine⟨dl rfl (dd _ _),?_⟩;refine cD oX<|ah<|?_;have hn:=hC.rem;have ho:=hC.lk;have hw4:=hC.w;have e1:eG P.n*dy L P.n c=eG P.n*dy L P.n v+eG P.n*u:=by rw[<- hn,Oy]
    have e2:eO P.n*kb a P.n=eO P.n*kb C P.n+eO P.n*u:=by rw[<- ho,Oy]
    have e3:eG P.n*u=eO P.n*u+u*(10*em (P.n+1)+70*(P.n+1)+5):=by
     rw[Nat.mul_comm u,<- OQ];congr 1;unfold eG eO;omega
    have e4:u*(10*em (P.n+1)+70*(P.n+1)+5)=u*(2*em (P.n+1)+12*(P.n+1)+1)+u*(8*em (P.n+1)+58*(P.n+1)+4):=by
     rw[<- Oy];congr 1;omega
    have e5:1*(8*em (P.n+1)+58*(P.n+1)+4)<=u*(8*em (P.n+1)+58*(P.n+1)+4):=Ow _ hu;refine⟨⟨ws,f1,i,v,C,V,s4⟩,⟨rfl,an⟩,ay.refl,⟨l.acc,hC.ti,hC.pi,λ z w hz hw=>?_,l.flow,l.tre,?_,?_⟩,?_⟩
    ·obtain⟨h1,h2⟩:=hC.sub z w hw;show P.least<=V z;rw[h2];exact S z w hz h1
    ·show s4.w=s.w+ws.length;omega
    ·show s4.cost+eG P.n*dy L P.n v+eO P.n*kb par P.n<=s.cost+eG P.n*dy L P.n pos+eO P.n*kb C P.n;omega
    ·show 2*dy L P.n v+(P.n+2-kb C P.n)<2*dy L P.n g+(P.n+2-kb a P.n);omega
end
section
variable {P:EP} {L:Nat->LN_} {lv:Nat->Int} {gv:Nat->Nat} {rm0 tr:LI_} {pos:LN_} {par:OV} {val:Nat->Int}
structure M3 where
 i:Nat
 par:OV
 val:Nat->Int
 s:ES
structure MP (P:EP) (L:Nat->LN_) (gv:Nat->Nat) (rm0 tr:LI_) (pos:LN_) (par:OV) (s:ES) (ok:Nat->Nat->Prop) (par':OV) (val':Nat->Int) (s':ES) (i:Nat):Prop where
 fa:∃ row,iJ (P.n+1) s'.fs par' val' row
 ta:TA P L rm0 tr pos par' val' s'.rm
 vals:s'.vals=s.vals
 un:s'.un=s.un
 w:s'.w=s.w
 sub:∀ u w,u<=P.n->(par' u=some w↔par u=some w/\ok u w)
 cost:s'.cost+(2*em (P.n+1)+11*(P.n+1)+1)*kb par' P.n<=s.cost+(2*em (P.n+1)+11*(P.n+1)+1)*kb par P.n+i
theorem GU(hP:mX P L lv gv)(s:ES)(U:lJ P L gv rm0 tr pos par val s):
 Fn 235 [.pointer (some ⟨P.pe,0,none⟩)] (aC (gZ P s)) ([P.sg]++gZ P s) λ _ H'=>∃ par' V s',H'=gZ P s'/\TA P L rm0 tr pos par' V s'.rm/\(∀ u,u<=P.n->par' u=none)/\s'.w=s.w/\s'.cost<=s.cost+(2*em (P.n+1)+11*(P.n+1)+1)*(P.n+1)+(P.n+1):=by
 have hN:=hP.small;have hH:=U.tb.len;obtain⟨KS,hv⟩:∃ x,x=2*em (P.n+1)+11*(P.n+1)+1:=⟨_,rfl⟩
 generalize hM:aC _=M
 refine aT Tryz.func235 λ w0=>?_;refine bS oB<|ig ?_;refine ah<|aq<|?_
 refine cA (σ:=M3) (λ t=>[(11,af (t.i:Int)),(10,af ((P.n+1:Nat):Int)),(9,ax P.gu 0 (P.n+1) (P.n+1)),(0,ap P.pe 0)]) (λ t=>sv P t.s)
  (λ t=>t.i<=P.n+1/\MP P L gv rm0 tr pos par s (λ _ w=>t.i<=w) t.par t.val t.s t.i) (λ t=>P.n+1-t.i) ⟨0,par,val,s⟩ a7 ay.refl
  ⟨Nl _,⟨U.fa,U.ta,rfl,rfl,rfl,λ u w _=>⟨λ h=>⟨h,Nl _⟩,λ h=>h.1⟩,Nr _⟩⟩ ?_
 rintro⟨i,o,B,s1⟩ ⟨hi,b⟩;simp only at hi b ⊢;refine iL ?_;refine ak rfl (λ ht=>ag ?_) (λ k2=>?_)
 ·have hb:i≤P.n:=by omega
  obtain⟨A,c,W,X,hf,Y,hg⟩:=U.tb.get hb;have Z:s1.un[i]?=some ⟨A,c,kQ W⟩:=by rw[b.un];exact X
  refine am (aq ?_);refine bu ?_;refine ae [999] (bn rfl (show i<P.n+1 by omega)) rfl<|ae [999] (aw (v:=.slice A (kQ W).length c) 8 rfl rfl rfl (show (s1.un.map cT)[i]?=_ by rw[Nk,Z];rfl)) rfl ?_;rw[eV];refine aN ?_
  (repeat' (first|refine am ?_|refine ag ?_|refine bF rfl ?_|refine bo rfl ?_))
  refine aE<|cE (gs:=[999]) rfl<|cD (ay.re (A:=P.fo s1.fs++[P.sg,P.pc s1.k s1.w,P.rc s1.rm,P.lc s1.vals,P.uc s1.un]) (R:=P.rows s1.un) [5,0,1,2,3,4,6,7,8] rfl ab)<|bK [999] (mS P s1.k s1.w) rfl rfl rfl rfl aX ay.refl an aK<|?_;rintro v0 H' rfl;refine⟨rfl,?_⟩;refine cD (ay.re (A:=[P.pc (s1.k+1) s1.w]++(P.fo s1.fs++[P.sg,P.rc s1.rm,P.lc s1.vals,P.uc s1.un])) (R:=P.rows s1.un) [1,2,3,4,5,0,6,7,8] rfl ab)<|ah<|?_;obtain⟨s2,N⟩:∃ x:ES,x={ s1 with k:=s1.k+1 }:=⟨_,rfl⟩;refine bS (K:=sv P s2) (by rw[N];exact ay.refl) ?_
  have hx:MP P L gv rm0 tr pos par s (λ u w=>i<w\/w=i/\∃ j,0<=j/\W[j]?=some u) o B s2 (i+1):=by
   rw[N];refine⟨b.fa,b.ta,b.vals,b.un,b.w,λ u w hu=>?_,?_⟩
   ·rw[b.sub u w hu];refine⟨fun ⟨l,d⟩=>⟨l,?_⟩,fun ⟨l,d⟩=>⟨l,by rcases d with d|d<;>omega⟩⟩
    rcases P1 i w with h3|h3
    ·exact .inl h3
    ·have:w=i:=by omega
     subst this;obtain⟨j,hj,hn⟩:=NV.1 ((Y u).2 ⟨hu,l⟩);exact .inr ⟨rfl,j,Nl _,by rw[be hj,hn]⟩
   ·have:=b.cost;show s1.k+1+s1.fs.k+_<=_;have d:s1.cost=s1.k+s1.fs.k:=rfl;omega
  clear N
  (repeat' (first|refine am ?_|refine ag ?_|refine bF rfl ?_|refine bo rfl ?_))
  refine aE<|cW [] ?_
  (repeat' (first|refine am ?_|refine ag ?_|refine bF rfl ?_|refine bo rfl ?_))
  refine aq ?_
  refine cA (σ:=M3) (λ t=>[(19,af (t.i:Int)),(18,af (W.length:Int)),(17,.slice A W.length c),(11,af (i:Int)),(10,af ((P.n+1:Nat):Int)),(9,ax P.gu 0 (P.n+1) (P.n+1)),(0,ap P.pe 0)]) (λ t=>sv P t.s)
   (λ t=>t.i<=W.length/\MP P L gv rm0 tr pos par s (λ u w=>i<w\/w=i/\∃ j,t.i<=j/\W[j]?=some u) t.par t.val t.s (i+1)) (λ t=>W.length-t.i) ⟨0,o,B,s2⟩ a7 ay.refl
   ⟨Nl _,hx⟩ ?_
  clear b hx
  rintro⟨j,p,y,D⟩ ⟨hj,a⟩;simp only at hj a ⊢;refine iL ?_;refine ak rfl (λ hs=>ag ?_) (λ ha=>aO ?_)
  ·have O:j<W.length:=by omega
   obtain⟨u,hu⟩:∃ u,W[j]?=some u:=⟨W[j],be O⟩;have m:=(Y u).1 (Nb hu);have E:p u=some i:=(a.sub u i m.1).2 ⟨m.2,.inr ⟨rfl,j,Nr _,hu⟩⟩;obtain⟨hk,h0⟩:=a.fa;obtain⟨q,r,hq,hr,hd,F⟩:=a.ta.link u i m.1 E;have H:D.un[i]?=some ⟨A,c,kQ W⟩:=by rw[a.un];exact X
   refine aR (aH (9+(P.rowsL.length+i)) (CO H)) λ ⟨_,_,hA,_⟩=>?_;obtain⟨g,rfl⟩:=hA (by rw[eV];omega);refine am (aq ?_);refine bu ?_;refine aF (bn rfl O) ?_;refine aF (aw (9+(P.rowsL.length+i)) rfl rfl (CO H) (eH hu)) ?_;refine fP ?_;refine ng ?_;refine dI (wy hP D a.ta h0 (by rw[a.vals];exact U.vo) m.1 E hq hr F) rfl oD ⟨bz 0 rfl,an⟩ ?_;rintro _ H' ⟨hR,hy,rfl,hc,hW⟩;refine⟨dl rfl (dd _ _),?_⟩;refine cD oX<|dv ?_;have Q:=xp m.1 E;have S:=a.cost;refine⟨⟨j+1,bJ p u none,iN y u (4611686018427387904-y u),{ D with fs:=hR,rm:=D.rm.set r (y u),k:=D.k+1 }⟩,⟨?_,rfl,rfl,rfl,rfl,rfl,rfl,an⟩,ay.refl,⟨O,⟨⟨hy,hc⟩,a.ta.settle hP m.1 E hq hr F,a.vals,a.un,a.w,λ z w hz=>?_,?_⟩⟩,?_⟩
   ·show some (af (IntKind.i64.wrap ((j:Int)+1)))=_;rw[cp aa];rfl
   ·by_cases e:z=u
    ·subst e;simp only[bJ,if_true];refine⟨fun h=>(by cases h),fun ⟨l,d⟩=>?_⟩;rw[m.2] at l;simp only[Option.some.injEq] at l
     rcases d with d|⟨_,I,C,f⟩
     ·omega
     ·have e1:=(Ng.1 hu);have e2:=(Ng.1 f);have:=(List.getElem_inj hf).1 (e1.2.trans e2.2.symm);have ho:j+1<=I:=C;omega
    ·simp only[bJ,if_neg e];rw[a.sub z w hz];refine⟨λ ⟨l,d⟩=>⟨l,?_⟩,λ ⟨l,d⟩=>⟨l,?_⟩⟩
     ·rcases d with d|⟨d,I,C,f⟩
      ·exact .inl d
      ·refine .inr ⟨d,I,?_,f⟩
       rcases P1 j I with h3|h3
       ·exact h3
       ·have:I=j:=by omega
        subst this;rw[hu] at f;simp only[Nc] at f;exact absurd f.symm e
     ·rcases d with d|⟨d,I,C,f⟩
      ·exact .inl d
      ·exact .inr ⟨d,I,Nat.le_of_succ_le C,f⟩
   ·rw[<- Q,Oy,NT] at S;have l:D.cost=D.k+D.fs.k:=rfl;show D.k+1+hR.k+_*kb (bJ p u none) P.n<=_;omega
   ·show W.length-(j+1)<W.length-j;omega
  ·obtain rfl:j=W.length:=by omega
   refine ao ?_;refine⟨⟨i+1,p,y,D⟩,⟨?_,rfl,rfl,rfl,an⟩,ay.refl,⟨by show i+1<=P.n+1;omega,⟨a.fa,a.ta,a.vals,a.un,a.w,λ u w hu=>?_,a.cost⟩⟩,?_⟩
   ·refine m0 ?_;rw[cp aa];rfl
   ·rw[a.sub u w hu];refine⟨λ ⟨l,d⟩=>⟨l,?_⟩,λ ⟨l,d⟩=>⟨l,.inl d⟩⟩
    rcases d with d|⟨_,I,C,f⟩
    ·exact d
    ·have:=(Ng.1 f).1;omega
   ·show P.n+1-(i+1)<P.n+1-i;omega
 ·have c1:i=P.n+1:=by omega
  refine bS qR (aO ?_);have Q:=u6 par P.n;have S:=b.cost;refine⟨_,rfl,o,B,s1,rfl,b.ta,λ u hu=>?_,b.w,?_⟩
  ·cases hp:o u with
   |none=>rfl
   |some w=>
    obtain⟨l,d⟩:=(b.sub u w hu).1 hp;obtain⟨q,r,_,h4,h5,_⟩:=U.ta.link u w hu l;have h6:=jM hP.right (iQ hP (Nb h4)).1;have h7:=hP.nodes;have h8:i<=w:=d;omega
  ·rw[<- hv] at S ⊢;have l:KS*kb par P.n<=KS*(P.n+1):=O6 _ Q;omega
end
theorem BJ{X:Cx}{E:Env}{H:Heap}{o:Oper}{t n e s g s1 k:Nat}{z:Value}{v:Option Value}{uk:UK}{fs:List (Nat×Nat×Nat)}{zs cs:LV_}{ps:Array (Nat×Operand)}{vs:List (Nat×Value)}(y:o.op=.build t ps)(u:tab t=some ⟨.arr n e,s,g,some z⟩)(he:tab e=some ⟨uk,s1,k,v⟩)(A:z.cells=zs.toArray)
 (l:∀ i off sz m,fs[i]?=some (off,sz,m)->off=i*s1/\sz=s1) (hp:rg E ps.toList=some vs) (B:rX fs zs vs=some cs):i8 X o E H (.agg cs.toArray):=by
 intro a w C L;obtain⟨j,hi,p,_,_⟩:=ki u
 have hu:Tryz.prog.underlying t=some (.array n e):=by
  obtain⟨d,j,D,_,hu,_⟩:=eU u;rw[D];cases d<;>simp[qd] at hu ⊢;exact hu
 have F:=C.valsP _ _ hp;have G:(ps.map λ (i,x)=>(i,a.eval x)).toList=vs:=by rw[<- F];simp
 have b:=pS (pl:=λ i=>some (i*s1,s1)) (λ i off sz m h=>by obtain⟨I,K⟩:=l i off sz m h;rw[I,K]) vs zs cs B;have q:(sizeOf e).run Tryz.prog w=.ok s1 w:=dW he w
 have f:(Instr.build t (ps.map λ (i,x)=>(i,a.eval x))).run Tryz.prog w=.ok (.agg cs.toArray) w:=by
  unfold Instr.build;rw[G];have r:(zeroValue t).run Tryz.prog w=.ok z w:=by simp[zeroValue,typeInfo,hi,p]
  simp only[Sem.run_bind,r,run_underlying hu,Result.andThen_ok,q,A];rw[b];rfl
 have c:(Instr.build t (ps.map λ x=>match x with|(i,x)=>(i,a.eval x))).run Tryz.prog w=.ok (.agg cs.toArray) w:=f;simp[execOp,y,c]
theorem MI{n:Nat}(h:n<18446744073709551616):IntKind.u64.wrap (n:Int)=n:=by rw[IntKind.wrap_u64];omega
theorem GR{n:Nat}(h:n<4294967296):IntKind.u64.wrap (((BitVec.ofInt IntKind.u64.bits (n:Int)&&& BitVec.ofInt IntKind.u64.bits 4294967295).toNat:Nat):Int)=n:=by
 have a:(BitVec.ofInt IntKind.u64.bits (n:Int)).toNat=n:=by
  show (BitVec.ofInt 64 (n:Int)).toNat=n;rw[BitVec.toNat_ofInt];omega
 have b:(BitVec.ofInt IntKind.u64.bits 4294967295).toNat=4294967295:=ab;rw[BitVec.toNat_and,a,b,show (4294967295:Nat)=2^32-1 by decide,Nat.and_two_pow_sub_one_eq_mod,MI aa];omega
theorem zK{n:Nat}(h:n<4294967296):((n:Int)).fdiv (2^(min 32 IntKind.u64.bits))=0:=by
 show ((n:Int)).fdiv 4294967296=0;rw[PQ _ aa];omega
theorem Ix(n:Nat)(a:n<4294967296):Fn 260 [.int .u64 ((1:Nat):Int),.int .u64 (n:Int)] [] [] λ v H'=>v=.tuple #[.int .u64 ((0:Nat):Int),.int .u64 (n:Int)]/\H'=[]:=by
 refine aT Tryz.func260 λ w0=>?_;refine ja ?_;refine bD 6 (v':=.int .u64 ((1:Nat):Int)) rfl (Na (Value.int .u64) (GR ab))<|ao ?_;refine bD 7 (v':=.int .u64 ((0:Nat):Int)) rfl (Na (Value.int .u64) (zK (n:=1) ab))<|ao ?_;refine bD 8 (v':=.int .u64 (n:Int)) rfl (Na (Value.int .u64) (GR a))<|ao ?_;refine bD 9 (v':=.int .u64 ((0:Nat):Int)) rfl (Na (Value.int .u64) (zK a))<|ao ?_;refine bD 10 (v':=.int .u64 (n:Int)) rfl (Na (Value.int .u64) ((Na _ (Int.one_mul _)).trans (MI aa)))<|ao ?_
 refine bD 11 (v':=.int .u64 ((0:Nat):Int)) rfl (Na (Value.int .u64) (by
  show IntKind.u64.wrap (IntKind.u64.wrap (0*(n:Int))+((n:Int)).fdiv (2^(min 32 IntKind.u64.bits)))=0;rw[Int.zero_mul,zK a];decide)) ?_
 refine ao ?_;refine bD 12 (v':=.int .u64 ((0:Nat):Int)) rfl (Na (Value.int .u64) (GR (n:=0) ab))<|ao ?_;refine bD 13 (v':=.int .u64 ((0:Nat):Int)) rfl (Na (Value.int .u64) (zK (n:=0) ab))<|ao ?_
 refine bD 12 (v':=.int .u64 ((0:Nat):Int)) rfl (Na (Value.int .u64) (by
  show IntKind.u64.wrap (0+IntKind.u64.wrap (1*0))=0
  decide)) ?_
 refine ao ?_
 refine bD 4 (v':=.int .u64 ((0:Nat):Int)) rfl (Na (Value.int .u64) (by
  show IntKind.u64.wrap (IntKind.u64.wrap (IntKind.u64.wrap (0*0)+0)+((0:Nat):Int).fdiv (2^(min 32 IntKind.u64.bits)))=0;rw[zK (n:=0) ab];decide)) ?_
 refine ao ?_;exact bD 5 (v':=.int .u64 (n:Int)) rfl (Na (Value.int .u64) ((Na _ (Int.one_mul _)).trans (MI aa)))<|j0
theorem IY(n:Nat)(a:n<4294967296):Fn 248 [.int .u64 ((1:Nat):Int),.int .u64 (n:Int)] [] [] λ v H'=>v=.tuple #[.int .u64 ((0:Nat):Int),.int .u64 (n:Int)]/\H'=[]:=by
 refine aT Tryz.func248 λ w0=>?_;refine c9 ?_;refine cj (Ix n a) rfl an ?_;refine cR ?_;exact j0
def l8(k N:Nat)(v z:Value):LV_:=List.replicate k v++List.replicate (N-k) z
theorem nF{k N:Nat}{v z:Value}(h:k<=N):(l8 k N v z).length=N:=by simp[l8];omega
theorem Bu{k m N:Nat}{v z:Value}(h:k+m<=N):wr (l8 k N v z) k (List.replicate m v)=l8 (k+m) N v z:=by
 induction m generalizing k with
 |zero=>rfl
 |succ m a=>
  rw[Oo];show wr ((l8 k N v z).set k v) (k+1) (List.replicate m v)=_
  have:(l8 k N v z).set k v=l8 (k+1) N v z:=by
   unfold l8;rw[OF _ _ ai,NP,OE,show N-k=(N-(k+1))+1 by omega,Oo,OW,List.replicate_succ'];simp
  rw[this,a aa,show k+1+m=k+(m+1) by omega]
theorem IR(x:Int)(g c n:Nat)(h1:1<=n)(r:n<=100000):
 Fn 247 [.slice (some ⟨g,0,none⟩) 1 c,.int .i64 (n:Int)] [] [.seg g 0 (aj [x])] λ v H'=>∃ a,v=.slice (some ⟨a,0,none⟩) n n/\H'=[.own (.slice (some ⟨a,0,none⟩) n n) 3 1 n (aj (List.replicate n x))]:=by
 refine aT Tryz.func247 λ w0=>?_;refine ja ?_;refine cq ?_;refine ak rfl (λ h=>absurd h aa) (λ _=>ag ?_);refine KZ ?_;refine ii ?_;refine ak rfl (λ h=>absurd h aa) (λ _=>ag ?_);refine bu ?_;refine lB ?_;refine aA 29 (v':=af (n:Int)) rfl (Na (Value.int .i64) (cp aa))<|cX (n:=n) (c:=n) rfl rfl rfl rfl rfl rfl (Nr _) aa aa aK λ a=>?_;have hmk:made [af 0] (n*1)=l8 0 n (af x) (af 0):=by rw[c8,NT];simp[l8]
 refine K0 ?_;refine bP (σ:=Nat) (λ k=>[(8,af (k:Int)),(7,ax a 0 n n)]) (λ k=>[.own (ax a 0 n n) 3 1 n (l8 k n (af x) (af 0))]) (λ k=>1<=k/\k<=n) (λ k=>n-k) 1 [0] a7 ab rfl ⟨Nr _,h1⟩ ?_;rintro k ⟨f,hk2⟩;refine iL ?_;refine ak rfl (λ j=>ag ?_) (λ p=>aO ?_)
 ·have d:k<n:=by omega
  obtain⟨m,hm⟩:∃ m,m=min k (n-k):=⟨_,rfl⟩;refine KF ?_;refine dK 41 (v':=ax a k (n-k) (n-k)) rfl ?_ ?_
  ·have:=eS (A:=aL a 0) (c:=n) (l:=k) (n:=n) (sz:=1) (b:=a) (o:=0) aK (Nr _) d;rw[NT,NR] at this;show Value.slice (fA _ _ _ 1) _ _=_;rw[this]
  refine yS ?_;refine aG [999] rfl (jG (i:=k) rfl rfl rfl rfl rfl hk2) rfl<|cz ?_;refine wT (i:=k) (vs:=List.replicate m (af x)) 0 0 rfl rfl rfl rfl rfl (λ w hw i v hi=>ca w hw i v (?_)) rfl rfl (by rw[NP];exact hm) (?_) (by rw[nF hk2,NP];omega) [] rfl ?_
  ·have e:=(Ng.1 hi).1;rw[NP] at e;rw[Nw,if_pos e] at hi;unfold l8;rw[NZ (by rw[NP];omega),Nw,if_pos aa];exact hi
  ·clear hm
   induction m with
   |zero=>rfl
   |succ m q=>rw[Oo];exact q
  rw[Bu aa,NP];refine b6 []<|yS ?_;refine gA ?_;refine⟨k+m,[0],⟨?_,rfl,an⟩,ab,rfl,⟨aa,aa⟩,aa⟩;show some (af (IntKind.i64.wrap ((k:Int)+(m:Int))))=_;rw[cp aa];rfl
 ·obtain rfl:k=n:=by omega
  refine ao ?_;refine bN ⟨_,rfl,a,rfl,?_⟩;rw[show l8 k k (af x) (af 0)=aj (List.replicate k x) by simp[l8,aj]]
theorem J6(x:Int)(g c n:Nat)(h1:1<=n)(r:n<=100000):
 Fn 239 [.slice (some ⟨g,0,none⟩) 1 c,.int .i64 (n:Int)] [] [.seg g 0 (aj [x])] λ v H'=>∃ a,v=.slice (some ⟨a,0,none⟩) n n/\H'=[.own (.slice (some ⟨a,0,none⟩) n n) 2 1 n (aj (List.replicate n x))]:=by
 refine aT Tryz.func239 λ w0=>?_;refine ja ?_;refine cq ?_;refine ak rfl (λ h=>absurd h aa) (λ _=>ag ?_);refine KZ ?_;refine ii ?_;refine ak rfl (λ h=>absurd h aa) (λ _=>ag ?_);refine bu ?_;refine lB ?_;refine aA 29 (v':=af (n:Int)) rfl (Na (Value.int .i64) (cp aa))<|cX (n:=n) (c:=n) rfl rfl rfl rfl rfl rfl (Nr _) aa aa aK λ a=>?_;have hmk:made [af 0] (n*1)=l8 0 n (af x) (af 0):=by rw[c8,NT];simp[l8]
 refine K0 ?_;refine bP (σ:=Nat) (λ k=>[(8,af (k:Int)),(7,ax a 0 n n)]) (λ k=>[.own (ax a 0 n n) 2 1 n (l8 k n (af x) (af 0))]) (λ k=>1<=k/\k<=n) (λ k=>n-k) 1 [0] a7 ab rfl ⟨Nr _,h1⟩ ?_;rintro k ⟨f,hk2⟩;refine iL ?_;refine ak rfl (λ j=>ag ?_) (λ p=>aO ?_)
 ·have d:k<n:=by omega
  obtain⟨m,hm⟩:∃ m,m=min k (n-k):=⟨_,rfl⟩;refine KF ?_;refine dK 41 (v':=ax a k (n-k) (n-k)) rfl ?_ ?_
  ·have:=eS (A:=aL a 0) (c:=n) (l:=k) (n:=n) (sz:=1) (b:=a) (o:=0) aK (Nr _) d;rw[NT,NR] at this;show Value.slice (fA _ _ _ 1) _ _=_;rw[this]
  refine yS ?_;refine aG [999] rfl (jG (i:=k) rfl rfl rfl rfl rfl hk2) rfl<|cz ?_;refine wT (i:=k) (vs:=List.replicate m (af x)) 0 0 rfl rfl rfl rfl rfl (λ w hw i v hi=>ca w hw i v (?_)) rfl rfl (by rw[NP];exact hm) (?_) (by rw[nF hk2,NP];omega) [] rfl ?_
  ·have e:=(Ng.1 hi).1;rw[NP] at e;rw[Nw,if_pos e] at hi;unfold l8;rw[NZ (by rw[NP];omega),Nw,if_pos aa];exact hi
  ·clear hm
   induction m with
   |zero=>rfl
   |succ m q=>rw[Oo];exact q
  rw[Bu aa,NP];refine b6 []<|yS ?_;refine gA ?_;refine⟨k+m,[0],⟨?_,rfl,an⟩,ab,rfl,⟨aa,aa⟩,aa⟩;show some (af (IntKind.i64.wrap ((k:Int)+(m:Int))))=_;rw[cp aa];rfl
 ·obtain rfl:k=n:=by omega
  refine ao ?_;refine bN ⟨_,rfl,a,rfl,?_⟩;rw[show l8 k k (af x) (af 0)=aj (List.replicate k x) by simp[l8,aj]]
def lN(v:Int):Nd:=⟨none,none,none,1,v,v,v,0,false⟩
def Mz(A:OA_)(cap k:Nat)(pf:Nat)(v:Int):Heap:=
 [blk pf 331 [.slice A k cap,.int .i64 0],.own (.slice A k cap) 334 9 k (iF k λ _=>lN v)]
theorem JQ(v:Int)(l:-4611686018427387904<=v/\v<=4611686018427387904)(N:Nat)(o:1<=N)(p:N<=3000)(g c:Nat):
 Fn 246 [.slice (some ⟨g,0,none⟩) N c] [] [.seg g 0 (aj (List.replicate N v))] λ r H'=>∃ ps gn cap,r=.tuple #[.pointer (some ⟨ps,0,none⟩),.int .i64 0]/\H'=Mz (some ⟨gn,0,none⟩) cap N ps v:=by
 refine aT Tryz.func246 λ w0=>?_;refine ja ?_;refine cq ?_;refine ak rfl (λ h=>absurd h aa) (λ _=>ag ?_);refine bu ?_;refine fv ?_;refine cY λ ps=>?_;refine cR ?_;refine aq<|bX 334 9<|?_
 refine cA (σ:=Nat×OA_×Nat) (λ t=>[(14,af (t.1:Int)),(13,af (N:Int)),(12,ax g 0 N c),(4,ap ps 0)]) (λ t=>Mz t.2.1 t.2.2 t.1 ps v++[.seg g 0 (aj (List.replicate N v))])
  (λ t=>t.1<=N) (λ t=>N-t.1) (0,none,0) a7 ?_ (Nl _) ?_
 ·exact ay.re (A:=[.own (.slice none 0 0) 334 9 0 [],blk ps 331 [.slice none 0 0,af 0],.seg g 0 (aj (List.replicate N v))]) (R:=[]) [1,0,2] rfl ab
 rintro⟨k,A,cap⟩ d;simp only at d ⊢;refine iL ?_;refine ak rfl (λ e=>ag ?_) (λ f=>?_)
 ·have a:k<N:=by omega
  refine am (aq ?_);refine bu ?_;refine aF (bn rfl a) ?_;refine aF (fJ (v:=af v) 2 rfl rfl rfl (NR _).symm (ep (by rw[Nw,if_pos a]))) ?_;refine fP ?_;refine nG ?_;refine dc 20 rfl aa<|eq ?_;refine ii ?_;refine ak rfl (λ h=>absurd h aa) (λ _=>ag ?_);refine bu ?_;refine lB ?_;refine lB ?_;refine bj (v:=.slice A k cap) 0 ?_
  refine ae [] (BJ (fs:=[(0,1,0),(1,1,0)]) rfl rfl rfl rfl (λ i off sz q h=>by
   match i with
   |0=>simp at h;omega
   |1=>simp at h;omega
   |i+2=>simp at h) rfl rfl) rfl ?_
  refine nG ?_;refine fv ?_;refine dp λ g2=>?_;refine bx (n:=k) (m:=1) (off:=0) (news:=fM (lN v)) 2 0 rfl rfl rfl rfl rfl rfl ab rfl rfl (aS g2 _ _ (0,0)) aK rfl rfl aa aa (λ _ _=>rfl) λ b c2=>lB ?_;refine dE 1 ?_;refine dv ?_;refine⟨(k+1,b,c2),⟨?_,rfl,rfl,rfl,an⟩,?_,a,by show N-(k+1)<N-k;omega⟩
  ·refine fy ?_;rw[cp aa];rfl
  ·refine ay.trans (ay.sub (NW _ _)) ?_;show ay _ ([blk ps 331 [.slice b (k+1) c2,af 0],.own (.slice b (k+1) c2) 334 9 (k+1) (iF k (λ _=>lN v)++fM (lN v))]++[.seg g 0 (aj (List.replicate N v))]) _;rw[show iF k (λ _=>lN v)++fM (lN v)=iF (k+1) λ _=>lN v from (wm k _).symm];exact ay.refl
 ·obtain rfl:k=N:=by omega
  refine aR (aH 1 rfl) λ ⟨_,_,j,_⟩=>?_;obtain⟨gn,rfl⟩:=j aa;refine aO<|ao ?_;exact aM [0,1] ⟨_,rfl,ps,gn,cap,rfl,rfl⟩
theorem Jw(v:Int)(b:-4611686018427387904<=v/\v<=4611686018427387904)(N:Nat)(a:1<=N)(d:N<=3000)(g c:Nat):
 Fn 238 [.slice (some ⟨g,0,none⟩) N c] [] [.seg g 0 (aj (List.replicate N v))] λ r H'=>∃ pt ps gn go co cap,r=.tuple #[.pointer (some ⟨pt,0,none⟩),.int .i64 0]/\H'=lT pt ps go gn co cap N ⟨λ _=>lN v,λ _=>none,0⟩:=by
 refine aT Tryz.func238 λ w0=>?_;refine ao ?_;refine gN ?_;refine eW (JQ v b N a d g c) rfl ⟨bz 0 rfl,an⟩ ?_;rintro _ H' ⟨ps,gn,cap,rfl,rfl⟩;refine cR ?_;refine cq ?_;refine ak rfl (λ h=>absurd rfl h) (λ _=>ag ?_);refine gN ?_;refine dp λ g2=>?_;refine lB ?_;refine eW (IR (-1) g2 1 N a aa) rfl ⟨ew 0 rfl,an⟩ ?_;rintro _ H' ⟨go,rfl,rfl⟩;refine fv ?_;refine lB ?_;refine fv ?_;refine cY λ pt=>?_;refine ii ?_;refine aM [3,4,0,1] ⟨_,rfl,pt,ps,gn,go,N,cap,rfl,?_⟩
 have e:aj (List.replicate N (-1))=HQ N (λ _=>none):=by
  unfold HQ
  congr 1
  apply Pl
  intro i;rw[Nw,Nk];by_cases h:i<N
  ·rw[if_pos h,PT h];rfl
  ·rw[if_neg h,N4 (by rw[Ot];omega)];rfl
 rw[e];rfl
theorem iJ.new{N:Nat}{v:Int}(c:-4611686018427387904<=v/\v<=4611686018427387904):iJ N ⟨λ _=>lN v,λ _=>none,0⟩ (λ _=>none) (λ _=>v) (λ x=>[x]):=by
 refine⟨⟨λ x b=>?_,λ x _=>by simp,λ x b y a=>?_,λ x _ y a=>?_,λ x _=>by simp,λ x _=>c⟩,?_,?_,?_,?_,?_,?_⟩
 ·exact⟨.node .nil x v 0 false .nil,⟨⟨rfl,rfl,rfl,(cp (n:=v) aa).symm,rfl,rfl,rfl,⟨v,⟨⟨(x,v),by simp[T.flat],rfl⟩,λ e he=>by simp[T.flat,sh] at he;rw[he];exact Ox _⟩,(cp (n:=v) aa).symm⟩,⟨v,⟨⟨(x,v),by simp[T.flat],rfl⟩,λ e he=>by simp[T.flat,sh] at he;rw[he];exact Ox _⟩,(cp (n:=v) aa).symm⟩⟩,an,an⟩,rfl⟩
 ·rw[Ni.1 a];exact b
 ·rw[Ni.1 a]
 ·exact⟨λ _ _=>trivial,λ _ _=>trivial,λ _ _=>trivial⟩
 ·intro x _ A u w B h;have:=Na List.length h;simp at this;omega
 ·exact λ _ _ _ _ _=>rfl
 ·exact λ _ _ _ _ _ _ _=>rfl
 ·exact λ x _=>⟨[x],rfl,rfl⟩
 ·exact λ _ _=>trivial
def yF(N:aV)(A:OA_)(c:Nat)(Ar:OA_)(cr:Nat)(least:Int)(n gl gu:Nat)(fp:Value)(k w:Nat):LV_:=[.int .i64 N.nodes,.int .i64 N.src,.int .i64 N.snk,.slice A N.arcs.length c,.slice Ar (2*N.arcs.length) cr,.int .i64 least,.slice (some ⟨gl,0,none⟩) (n+1) (n+1),.slice (some ⟨gu,0,none⟩) (n+1) (n+1),fp,.int .i64 (ei k),.int .i64 (ei w)]
theorem GY(N:aV)(A:OA_)(c:Nat)(Ar:OA_)(cr:Nat)(least:Int)(n gl gu:Nat)(a:Value)(k w pe:Nat):Fn 236 [.pointer (some ⟨pe,0,none⟩)] (aC [blk pe 310 (yF N A c Ar cr least n gl gu a k w)]) ([]++[blk pe 310 (yF N A c Ar cr least n gl gu a k w)]) λ _ H'=>H'=[blk pe 310 (yF N A c Ar cr least n gl gu a (k+1) w)]:=by
 generalize hM:aC _=M
 refine aT Tryz.func236 λ w0=>?_;exact K2
theorem Ly(N:aV)(D:N.Right)(A:OA_)(c b o:Nat)(S:N.arcs≠[]->A=some ⟨b,o,none⟩)(Ar:OA_)(cr:Nat)(ls:LN_)(E:∀ r∈ls,r<2*N.arcs.length)(U:ls.length<=4000)(B:OA_)(F x y:Nat)(V:ls≠[]->B=some ⟨x,y,none⟩)(least:Int)(n:Nat)(hn:N.nodes=n):
 Fn 233 [bZ N A c,.slice Ar (2*N.arcs.length) cr,.slice B ls.length F,.int .i64 least] [] [.seg b o (arcs N.arcs),.seg x y (cJ ls)]
  λ r H'=>∃ (pe gl gu pt ps gn go co cap:Nat) (rows:List fg),r=.pointer (some ⟨pe,0,none⟩)/\rows.length=n+1/\(∀ (v:Nat) (row:fg),rows[v]?=some row->row.l=(fF N ls v).map λ (i:Nat)=>(i:Int))/\
   H'=(lT pt ps go gn co cap (n+1) ⟨λ _=>lN 4611686018427387904,λ _=>none,0⟩++[blk pe 310 (yF N A c Ar cr least n gl gu (.pointer (some ⟨pt,0,none⟩)) ls.length 0),.own (.slice (some ⟨gl,0,none⟩) (n+1) (n+1)) 23 1 (n+1) (rows.map cT),.own (.slice (some ⟨gu,0,none⟩) (n+1) (n+1)) 23 1 (n+1) ((List.replicate (n+1) en).map cT)])++(rows++List.replicate (n+1) en).map (bd 3):=by
 have X:=D.nodes;have H:=D.len;refine aT Tryz.func233 λ w0=>?_;refine bu ?_;refine cY (cs:=bU N A c) λ p=>?_;refine aN ?_;refine iv (σ:=Nat×Nat×Nat) (λ t=>[(9,ap t.1 0),(21,ax t.2.1 0 (n+1) (n+1)),(25,ax t.2.2 0 (n+1) (n+1)),(2,.slice B ls.length F),(4,ap p 0)]) (λ t=>[blk t.1 310 (yF N A c Ar cr least n t.2.1 t.2.2 (.pointer none) 0 0),.own (ax t.2.1 0 (n+1) (n+1)) 23 1 (n+1) ((List.replicate (n+1) en).map cT),.own (ax t.2.2 0 (n+1) (n+1)) 23 1 (n+1) ((List.replicate (n+1) en).map cT),blk p 33 (bU N A c),.seg b o (arcs N.arcs),.seg x y (cJ ls)]) ?_ ?_
 ·refine ly (Sf:=[blk p 33 (bU N A c)])<|jU [0,1,2,3,4,5,7,8,9] bG [0] ab rfl<|q6 ?_;refine cM<|mF 20 (v':=af ((n+1:Nat):Int)) rfl (Na (Value.int .i64) ((cp (n:=N.nodes+1) aa).trans aa))<|mF 24 (v':=af ((n+1:Nat):Int)) rfl (Na (Value.int .i64) ((cp (n:=N.nodes+1) aa).trans aa))<|av 6 [10] bG ab<|?_
  (repeat' (first|exact an|refine av 10 [] (by decide+kernel) (by decide) ?_|refine av 6 [] (by decide+kernel) (by decide) ?_|refine av 11 [] (by decide+kernel) (by decide) ?_|refine av 12 [] (by decide+kernel) (by decide) ?_|refine av 13 [] (by decide+kernel) (by decide) ?_|refine⟨⟨_,rfl,?_⟩,?_⟩|refine cX (n:=n+1) (c:=n+1) rfl rfl rfl rfl rfl rfl (by omega) (by omega) (by omega) (λ _=>rfl) λ go=>?_|refine Bi rfl rfl rfl (λ _=>rfl) λ pe=>?_|refine ae [] (eE rfl rfl rfl rfl rfl rfl) rfl ?_|refine ah ⟨⟨[1],by decide,rfl⟩,?_⟩|refine ah ⟨⟨[2],by decide,rfl⟩,?_⟩|refine ah ⟨⟨[3],by decide,rfl⟩,?_⟩|refine db [] rfl ⟨⟨[3],by decide,rfl⟩,?_⟩))
  all_goals refine fd (by decide+kernel) ⟨(_,_,_),⟨rfl,rfl,rfl,rfl,rfl,an⟩,?_⟩
  all_goals rw[show made [Value.slice none 0 0] ((n+1)*1)=(List.replicate (n+1) en).map cT by rw[c8,NT,OI];rfl]
  all_goals (first|exact ay.re (A:=[_,_,_,_,_,_]) (R:=[]) [0,2,1,3,4,5] rfl ab|exact ay.re (A:=[_,_,_,_,_,_]) (R:=[]) [0,1,2,3,4,5] rfl ab)
 rintro⟨pe,gl,gu⟩;simp only;refine ja ?_;refine aq<|bS (ay.nils 3 (n+1))<|?_
 refine cA (σ:=Nat×List fg) (λ s=>[(32,af (s.1:Int)),(31,af (ls.length:Int)),(30,.slice B ls.length F),(10,.func (.func 236) #[ap pe 0] #[]),(9,ap pe 0),(4,ap p 0)])
  (λ s=>[blk pe 310 (yF N A c Ar cr least n gl gu (.pointer none) s.1 0),.own (ax gl 0 (n+1) (n+1)) 23 1 (n+1) (s.2.map cT),.own (ax gu 0 (n+1) (n+1)) 23 1 (n+1) ((List.replicate (n+1) en).map cT),blk p 33 (bU N A c),.seg b o (arcs N.arcs),.seg x y (cJ ls)]++s.2.map (bd 3))
  (λ s=>s.1<=ls.length/\s.2.length=n+1/\∀ (v:Nat) (r:fg),s.2[v]?=some r->r.l=(fF N (ls.take s.1) v).map λ (i:Nat)=>(i:Int)) (λ s=>ls.length-s.1)
  (0,List.replicate (n+1) en) a7 ay.refl ⟨Nl _,ai,λ v r h=>?_⟩ ?_
 ·rw[Nw] at h;split at h
  ·simp only[Nc] at h;subst h;rfl
  ·cases h
 rintro⟨k,rows⟩ ⟨Y,a,d⟩;simp only at Y a d ⊢;refine ao ?_;refine am (ak rfl (λ hlt=>ag ?_) (λ Z=>aO ?_))
 ·have hlt:k<ls.length:=by omega
  obtain⟨r,I⟩:∃ r,ls[k]?=some r:=⟨ls[k],be hlt⟩;have z:=E r (Nb I);obtain⟨he,K,L⟩:=ow D z;obtain⟨v,M⟩:∃ v,eN N r=v:=⟨_,rfl⟩;rw[M] at he K L;obtain rfl:=V (by rintro rfl;simp at hlt);have j:v<rows.length:=aa;obtain⟨row,f⟩:∃ r,rows[v]?=some r:=⟨rows[v],be j⟩;have g:=d v row f;have hlen:=lp N (ls.take k) v;have O:(ls.take k).length<=ls.length:=by rw[NE];omega
  have P:row.l.length=(fF N (ls.take k) v).length:=by rw[g,Nm]
  have Q:ls.take (k+1)=ls.take k++[r]:=by rw[Nu,I];rfl
  refine am (aq ?_);refine iz ?_;refine aF (aZ 5 rfl rfl (eH I)) ?_;refine aN ?_;refine gN ?_;refine bK (fst:=[ap pe 0]) (cap:=[]) [999] (GY N A c Ar cr least n gl gu (.pointer none) k 0 pe) rfl rfl rfl rfl aX ay.refl an aK ?_;rintro v0 H' rfl;refine dw ?_;refine ah<|bu ?_;refine qa ?_;refine cj (jz N A c b o S H r z) rfl ⟨bz 4 rfl,an⟩ ?_;refine aN ?_;refine bD 13 (v':=af (v:Int)) rfl (Na (Value.int .i64) he) ?_;show J _ _ _ _ ([_,_,_,_,_,_]++rows.map (bd 3));refine bS (ay.front (i:=v) (c:=bd 3 row) (by rw[Nk,f];rfl)) ?_;refine GF ?_;refine bh rfl (aw (v:=cT row) 1 rfl rfl rfl (show (rows.map cT)[v]?=some (cT row) by rw[Nk,f];rfl)) ?_;refine jI ?_;refine dp λ g2=>?_;refine b6 [2,3]<|cz ?_;refine bx (n:=row.l.length) (m:=1) (off:=0) (news:=aj [(r:Int)]) 1 0 rfl rfl rfl rfl rfl rfl ab rfl rfl (aS g2 _ _ (0,0)) aK rfl rfl aa aa (λ _ _=>rfl) λ A2 c2=>KE ?_;refine⟨(k+1,rows.set v ⟨A2,c2,row.l++[(r:Int)]⟩),⟨?_,rfl,rfl,rfl,rfl,rfl,an⟩,?_,⟨by simp only;omega,by simp only[NO];omega,λ u q hu=>?_⟩,by simp only;omega⟩
  ·refine fy ?_;rw[cp aa];rfl
  ·simp only[O1];refine ay.trans (ay.sub (NW _ _)) (ay.back (A:=[_,_,_,_,_,_]) (by rw[Nm];exact j))
  ·simp only at hu ⊢;rw[Q,yh,NI];by_cases w:v=u
   ·subst w;rw[Nq j] at hu;simp only[Nc] at hu;rw[<- hu,if_pos M,g];rfl
   ·rw[Ns w] at hu;rw[if_neg (λ e=>w (M.symm.trans e)),Og,NN];exact d u q hu
 ·obtain rfl:k=ls.length:=by omega
  rw[NH] at d;refine bS (ay.nils 3 (n+1)) ?_;rw[NQ,<- NI];obtain⟨R,C⟩:∃ R,R=(rows++List.replicate (n+1) en).map (bd 3):=⟨_,rfl⟩;rw[<- C];refine gN ?_;refine dp λ g2=>?_;refine cE (gs:=[999]) rfl<|bj (v:=af N.nodes) 4 ?_;refine cE (gs:=[999]) rfl<|aA 66 (v':=af ((n+1:Nat):Int)) rfl (Na (Value.int .i64) ((cp (n:=N.nodes+1) aa).trans aa))<|eW (J6 4611686018427387904 g2 1 (n+1) aa aa) rfl ⟨ew 0 rfl,an⟩ ?_;rintro _ H' ⟨g3,rfl,rfl⟩;refine eW (Jw 4611686018427387904 ab (n+1) aa aa g3 (n+1)) rfl ⟨fX 0 rfl ca (.inr rfl),an⟩ ?_;rintro _ H' ⟨pt,ps,gn,go,co,cap,rfl,rfl⟩;refine lB ?_;refine nG ?_;refine dE 6 ?_;refine dv ?_
  refine bS (ay.re (A:=lT pt ps go gn co cap (n+1) ⟨λ _=>lN 4611686018427387904,λ _=>none,0⟩++[.own (ax g3 0 (n+1) (n+1)) 2 1 (n+1) (aj (List.replicate (n+1) 4611686018427387904)),blk g2 2 [af 4611686018427387904],blk pe 310 (yF N A c Ar cr least n gl gu (ap pt 0) ls.length 0),
   .own (ax gl 0 (n+1) (n+1)) 23 1 (n+1) (rows.map cT),.own (ax gu 0 (n+1) (n+1)) 23 1 (n+1) ((List.replicate (n+1) en).map cT),blk p 33 (bU N A c),.seg b o (arcs N.arcs),.seg x y (cJ ls)]) (R:=R) [0,1,2,3,6,7,8] rfl ab) ?_
  exact bN ⟨_,rfl,pe,gl,gu,pt,ps,gn,go,co,cap,rows,rfl,a,d,by rw[C];rfl⟩
section
variable {N:aV} {L:Nat->LN_} {lv:Nat->Int} {least:Int} {tr:LI_}
def J7(L:Nat->LN_)(N:aV)(least:Int)(tr:LI_)(V:LN_):Prop:=∀ r∈V,r∈L (eN N r)/\least<=tr.getD r 0
theorem PI.free{pos W:LN_}(h:PI N L least tr pos W):J7 L N least tr W:=λ r a=>⟨h.mem r a,by obtain⟨_,_,_,h⟩:=h.head r a;exact h⟩
theorem PI.stuck(d:N.Right)(e:gp N L lv){pos W:LN_}(h:PI N L least tr pos W):∀ {V:LN_} {u z:Nat},Tr N u V z->J7 L N least tr V->rh L pos u->u≠N.snk.toNat->z≠N.snk.toNat
 |[],u,z,l,_,_,hu=>by rw[<- (show u=z from l)];exact hu
 |r::V,u,z,⟨a,m⟩,f,n,hu=>by
  obtain⟨g,hl⟩:=f r ai;obtain⟨j,i,b⟩:=NV.1 g;have c:=(e.ok _ _ g).1;have q:=ow d c;have hlen:eN N r<pos.length:=by rw[h.pl];omega
  obtain⟨p,hp⟩:∃ p,pos[eN N r]?=some p:=⟨pos[eN N r],be hlen⟩;have t:=n p (by rw[<- a];exact hp);rw[a] at i
  rcases h.pass _ p hp j r aa (by rw[be (by rw[a];exact i),b]) with k|k
  ·omega
  ·exact PI.stuck d e h m (λ s o=>f s (by simp[o])) k.2 k.1
def F7(L:Nat->LN_)(N:aV)(pos V:LN_):Prop:=∀ r∈V,∃ p,pos[eN N r]?=some p/\(L (eN N r))[p]?=some r
theorem PI.heads{pos W:LN_}(h:PI N L least tr pos W):F7 L N pos W:=λ r a=>by obtain⟨p,b,c,_⟩:=h.head r a;exact⟨p,b,c⟩
theorem yj(l:N.Right)(f:gp N L lv){pos pos' W C:LN_}(h:PI N L least tr pos W)(m:PI N L least tr pos' C):∀ {V d:LN_} {u:Nat},Tr N u V N.snk.toNat->Tr N u d N.snk.toNat->J7 L N least tr V->J7 L N least tr d->F7 L N pos V->F7 L N pos' d->V=d
 |[],d,u,n,c,_,a,_,_=>by
  have e:=(q4 f c λ r o=>(a r o).1).1;rw[<- (show u=N.snk.toNat from n)] at e;exact (Ny.1 aa).symm
 |r::V,[],u,n,c,g,_,_,_=>by
  have e:=(q4 f n λ r o=>(g r o).1).1;rw[<- (show u=N.snk.toNat from c)] at e;simp only[Nh] at e;omega
 |r::V,p::d,u,⟨e,x⟩,⟨k1,y⟩,g,a,z,i=>by
  obtain⟨q,A,a2⟩:=z r ai;obtain⟨t,B,j⟩:=i p ai;obtain⟨_,D⟩:=g r ai;obtain⟨_,c2⟩:=a p ai;rw[e] at A a2;rw[k1] at B j
  rcases Nat.lt_trichotomy q t with v|heq|w
  ·rcases m.pass u t B q r v a2 with k|k
   ·omega
   ·exact absurd rfl (m.stuck l f x (λ s b=>g s (by simp[b])) k.2 k.1)
  ·subst heq;rw[a2] at j;simp only[Nc] at j;subst j;rw[yj l f h m x y (λ s b=>g s (by simp[b])) (λ s b=>a s (by simp[b])) (λ s b=>z s (by simp[b])) (λ s b=>i s (by simp[b]))]
  ·rcases h.pass u q A t p w j with k|k
   ·omega
   ·exact absurd rfl (h.stuck l f y (λ s b=>a s (by simp[b])) k.2 k.1)
theorem PI.one(f:N.Right)(g:gp N L lv){pos pos' W b:LN_}(h:PI N L least tr pos W)(a:PI N L least tr pos' b)(he:dZ N W=N.snk.toNat)(c:dZ N b=N.snk.toNat):W=b:=by
 have d:=h.on;have e:=a.on;rw[he] at d;rw[c] at e;exact yj f g h a d e h.free a.free h.heads a.heads
theorem yQ(j:N.Right)(d:gp N L lv):∀ (k:Nat) {pos W:LN_},PI N L least tr pos W->(N.nodes.toNat+2)*dy L N.nodes.toNat pos+(N.nodes.toNat+1-W.length)<=k->∃ b pos' e,Nx N L least tr pos W b pos' e:=by
 intro k;have y:=j.nodes;have z:=j.src;have A:=j.snk;have B:=j.diff
 have a:∀ {pos W:LN_},PI N L least tr pos W->dZ N W<=N.nodes.toNat/\W.length<=N.nodes.toNat:=by
  intro pos W h;have C:=(q4 d h.on h.mem).1;have D:=d.hi (dZ N W);have E:=d.hi N.src.toNat;refine⟨?_,aa⟩
  rcases Ob W with rfl|⟨v,r,rfl⟩
  ·show N.src.toNat<=_;omega
  ·rw[Oc,rf];have:=(jM j ((d.ok _ _ (h.mem r ai)).1)).2.2;omega
 induction k with
 |zero=>
  intro pos W h w;have:=a h;omega
 |succ k n=>
  intro pos W h w;have x:=a h;by_cases g:dZ N W=N.snk.toNat
  ·exact⟨_,_,_,.hit g⟩
  ·have hlen:dZ N W<pos.length:=by rw[h.pl];omega
   obtain⟨p,hp⟩:∃ p,pos[dZ N W]?=some p:=⟨pos[dZ N W],be hlen⟩;by_cases f:p<(L (dZ N W)).length
   ·obtain⟨r,m⟩:∃ r,(L (dZ N W))[p]?=some r:=⟨(L (dZ N W))[p],be f⟩;by_cases hl:least<=tr.getD r 0
    ·have i:=h.go d hp m hl;have o:=a i;rw[Nj,NU] at o;obtain⟨b,pos',e,l⟩:=n i (by rw[Nj,NU];omega);exact⟨b,pos',e,.go g hp m hl l⟩
    ·have i:=h.skip d hp m aa;have c:=jr (L:=L) hp x.1 f;have:(N.nodes.toNat+2)*dy L N.nodes.toNat pos=(N.nodes.toNat+2)*dy L N.nodes.toNat (pos.set (dZ N W) (p+1))+(N.nodes.toNat+2):=by rw[← c,Nat.mul_add,Nat.mul_one]
     obtain⟨b,pos',e,l⟩:=n i aa;exact⟨b,pos',e,.skip g hp m aa l⟩
   ·rcases Ob W with rfl|⟨v,r,rfl⟩
    ·exact⟨_,_,_,.stop g hp (Nat.le_of_not_lt f)⟩
    ·rw[List.concat_eq_append] at*;obtain⟨q,s,t,_⟩:=h.back_at;have i:=h.back d g hp aa s;have u:=a h.drop;have c:=jr (L:=L) s u.1 (List.getElem?_eq_some_iff.1 t).1;have:(N.nodes.toNat+2)*dy L N.nodes.toNat pos=(N.nodes.toNat+2)*dy L N.nodes.toNat (pos.set (dZ N v) (q+1))+(N.nodes.toNat+2):=by rw[← c,Nat.mul_add,Nat.mul_one]
     rw[Nj,NU] at w x;obtain⟨b,pos',e,l⟩:=n i aa;exact⟨b,pos',e,.back g hp aa s l⟩
theorem TR.bl(c:N.Right)(d:gp N L lv)(hle:1<=least){ws:List (LN_×Int)}{e:LI_}(h:TR N L least tr ws e):∀ {f:LI_} {pos W:LN_},aD N f->tr=bc (N.arcs.zip f)->PI N L least tr pos W->Bl N L least tr pos W ws e:=by
 have t:=c.src;have u:=c.snk;have v:=c.diff
 induction h with
 |@stop tr g hP n=>
  intro f pos W q he i;obtain⟨b,pos',r,j⟩:=yQ c d _ i (Nr _);obtain⟨k1,o,s⟩:=j.keeps d i
  cases b with
  |false=>exact .stop j
  |true=>
   have k:=k1.on;rw[o rfl] at k;exact absurd rfl (hP.stuck c d k k1.free n aa)
 |@walk tr e g w ws hP a _ x=>
  intro f pos W q he i;obtain⟨b,pos',r,j⟩:=yQ c d _ i (Nr _);obtain⟨k1,o,s⟩:=j.keeps d i
  cases b with
  |false=>
   obtain⟨rfl,n⟩:=s rfl;have k:=hP.on;rw[a] at k;exact absurd rfl (k1.stuck c d k hP.free n aa)
  |true=>
   obtain rfl:w=r:=hP.one c d k1 a (o rfl);obtain⟨_,_,_,_,_,_,⟨f',p,l⟩,m,_⟩:=kH c d hle q he k1 a;exact .walk j (x p l m)
end
theorem z1(N:aV)(rm:LI_)(least:Int)(lv:LI_)(m:Nat):(di N rm least lv (2*m)).length<=m:=by
 have n:((di N rm least lv (2*m)).map (·/2)).Nodup:=by
  have d:(di N rm least lv (2*m)).Nodup:=List.Pairwise.filter _ OU
  have c:∀ a∈di N rm least lv (2*m),∀ b∈di N rm least lv (2*m),a/2=b/2->a=b:=by
   intro a g b h o;by_cases e:a=b
   ·exact e
   ·have k:=(fI.1 g).2.2.2;have i:=(fI.1 h).2.2.2;have:b=cI a:=by unfold cI;split<;>omega
    rw[this,ky,iK] at i;omega
  revert d c
  generalize di N rm least lv (2*m)=l
  intro d c
  induction l with
  |nil=>exact PH
  |cons x l p=>
   obtain⟨k,i⟩:=NJ.1 d;rw[Nv,NJ];refine⟨λ j=>?_,p i λ a g b h=>c a (by simp[g]) b (by simp[h])⟩;obtain⟨y,f,he⟩:=NF.1 j;exact k (c x ai y (by simp[f]) he.symm▸f)
 have q:=qr _ (List.range m) n λ x r=>by
  obtain⟨y,f,rfl⟩:=NF.1 r;have:=(fI.1 f).1;rw[N8];omega
 rwa [Nm,Ot] at q
theorem Et(N:aV)(ls:LN_)(n:Nat):dy (fF N ls) n (List.replicate (n+1) 0)<=ls.length:=by
 unfold dy
 have f:∀ v∈List.range (n+1),(fF N ls v).length-(List.replicate (n+1) 0).getD v 0=(fF N ls v).length:=by
  intro v g;rw[Nf,Nw,if_pos (N8.1 g)];rfl
 rw[Ou f]
 have:∀ (vs:LN_) (ls:LN_),vs.Nodup->(vs.map λ v=>(fF N ls v).length).sum<=ls.length:=by
  intro vs ls a
  induction ls with
  |nil=>
   have:(vs.map λ v=>(fF N [] v).length)=vs.map λ _=>0:=Ou λ v _=>rfl;rw[this]
   clear this a
   induction vs with
   |nil=>exact Nr _
   |cons v vs c=>simpa using c
  |cons r ls c=>
   have i:∀ v,(fF N (r::ls) v).length=(fF N ls v).length+if eN N r=v then 1 else 0:=by
    intro v;unfold fF;rw[OJ];by_cases e:eN N r=v<;>simp[e]
   have j:∀ vs:LN_,vs.Nodup->(vs.map λ v=>(fF N (r::ls) v).length).sum<=(vs.map λ v=>(fF N ls v).length).sum+1/\(eN N r∉vs->(vs.map λ v=>(fF N (r::ls) v).length).sum=(vs.map λ v=>(fF N ls v).length).sum):=by
    intro vs k
    induction vs with
    |nil=>exact⟨ai,λ _=>rfl⟩
    |cons v vs b=>
     obtain⟨l,a2⟩:=NJ.1 k;obtain⟨o,d⟩:=b a2;simp only[Nv,ND,i v];by_cases e:eN N r=v
     ·have:=d (e▸l);rw[if_pos e];exact⟨aa,λ h=>absurd (by rw[e];simp) h⟩
     ·rw[if_neg e];exact⟨aa,λ h=>by have:=d (λ m=>h (by simp[m]));omega⟩
   have:=(j vs a).1;rw[Nh];omega
 exact this _ _ OU
section
variable {N:aV} {L:Nat->LN_} {lv:Nat->Int} {least:Int} {tr:LI_}
theorem TR.count(s:N.Right)(t:gp N L lv)(hle:1<=least){ls:LN_}(i:∀ v r,r∈L v↔r∈ls/\eN N r=v){ws:List (LN_×Int)}{b:LI_}(h:TR N L least tr ws b):∀ {f:LI_},aD N f->tr=bc (N.arcs.zip f)->ws.length<=qM ls least tr/\(∀ r,r∉ls->cI r∉ls->b.getD r 0=tr.getD r 0)/\∃ f',aD N f'/\b=bc (N.arcs.zip f'):=by
 induction h with
 |stop hP y=>exact λ j he=>⟨Nl _,λ _ _ _=>rfl,_,j,he⟩
 |@walk tr b p l ws hP d _ u=>
  intro f j he;obtain⟨_,m,n,_,_,_,⟨f',o,e⟩,_,c,r,v,k1,w,x⟩:=kH s t hle j he hP d;obtain⟨z,i2,i3⟩:=u o e;refine⟨?_,λ q k g=>?_,i3⟩
  ·have:=xf (ls:=ls) (least:=least) (rm:=tr) (rm':=dg (dC tr l) l tr) (λ q k=>c _ q ((i _ q).2 ⟨k,rfl⟩)) r ((i v r).1 k1).1 w x;rw[Nh];omega
  ·rw[i2 q k g,jj (a:=dC tr l) (by rw[he];exact kg j.len) m n q,if_neg (λ h=>g ((i _ _).1 (hP.mem _ h)).1),if_neg (λ h=>k ((i _ _).1 (hP.mem _ h)).1)];omega
end
noncomputable def lO(f f':LI_)(ls:LN_)(k i:Nat):Int:=if 2*i+2<=k then f'.getD i 0 else if 2*i+1<=k/\2*i∈ls then f'.getD i 0 else f.getD i 0
noncomputable def pk(f f':LI_)(ls:LN_)(m k:Nat):LI_:=(List.range m).map (lO f f' ls k)
theorem nM{f f':LI_}{ls:LN_}{m k i:Nat}(h:i<m):(pk f f' ls m k)[i]?=some (lO f f' ls k i):=by simp[pk,h]
theorem fR(f f':LI_)(ls:LN_)(m k:Nat):(pk f f' ls m k).length=m:=by simp[pk]
theorem Hb{f f':LI_}{ls:LN_}{m k:Nat}(l:k<2*m){x:Int}(i:x=lO f f' ls (k+1) (k/2)):(pk f f' ls m k).set (k/2) x=pk f f' ls m (k+1):=by
 apply Pl
 intro j;by_cases c:j<m
 ·rw[nM c];by_cases e:k/2=j
  ·subst e;rw[Nq (by rw[fR];exact c),i]
  ·rw[Ns e,nM c]
   congr 1
   unfold lO;have d:(2*j+2<=k)↔(2*j+2<=k+1):=aa;by_cases b:2*j+2<=k
   ·rw[if_pos b,if_pos (d.1 b)]
   ·rw[if_neg b,if_neg (λ h=>b (d.2 h))];have g:(2*j+1<=k)↔(2*j+1<=k+1):=aa;by_cases a:2*j+1<=k/\2*j∈ls
    ·rw[if_pos a,if_pos ⟨g.1 a.1,a.2⟩]
    ·rw[if_neg a,if_neg (λ h=>a ⟨g.2 h.1,h.2⟩)]
 ·rw[N4 (by rw[NO,fR];omega),N4 (by rw[fR];omega)]
theorem zb{l a:LI_}(hl:l.length=a.length)(h:∀ i,i<l.length->l.getD i 0=a.getD i 0):l=a:=by
 apply Pl
 intro i;by_cases hi:i<l.length
 ·have:=h i hi;rw[Nf,Nf,be hi,be aa] at this;rw[be hi,be aa]
  simpa using this
 ·rw[N4 aa,N4 aa]
theorem BM{f f':LI_}{ls:LN_}:pk f f' ls f.length 0=f:=by
 refine zb (fR _ _ _ _ _) λ i hi=>?_;rw[fR] at hi;rw[Nf,nM hi,NL];unfold lO;rw[if_neg aa,if_neg aa]
theorem FO{f f':LI_}{ls:LN_}(h:f'.length=f.length):pk f f' ls f.length (2*f.length)=f':=by
 refine zb (by rw[fR];exact h.symm) λ i hi=>?_;rw[fR] at hi;rw[Nf,nM hi,NL];unfold lO;rw[if_pos aa]
theorem tw{N:aV}{f:LI_}(hl:f.length=N.arcs.length){i:Nat}(hi:i<N.arcs.length):∃ a,N.arcs[i]?=some a/\(bc (N.arcs.zip f)).getD (2*i) 0=a.cap-f.getD i 0/\(bc (N.arcs.zip f)).getD (2*i+1) 0=f.getD i 0:=by
 obtain⟨a,b⟩:∃ x,N.arcs[i]?=some x:=⟨N.arcs[i],be hi⟩;have c:f[i]?=some (f.getD i 0):=by rw[Nf,be aa];rfl
 obtain⟨g1,g2⟩:=eh (f8 b c);exact⟨a,b,by rw[Nf,g1];rfl,by rw[Nf,g2];rfl⟩
theorem Eu{N:aV}{f f':LI_}{ls:LN_}{c:LI_}(hl:f.length=N.arcs.length)(o:f'.length=N.arcs.length)(l:∀ r∈ls,c.getD r 0=(bc (N.arcs.zip f')).getD r 0)(b:∀ r,r∉ls->c.getD r 0=(bc (N.arcs.zip f)).getD r 0)
 (d:∀ r,r∉ls->cI r∉ls->(bc (N.arcs.zip f')).getD r 0=(bc (N.arcs.zip f)).getD r 0) (g:∀ r∈ls,cI r∉ls) {k:Nat} (t:k<2*N.arcs.length):
 (k%2=0->lO f f' ls k (k/2)+((bc (N.arcs.zip f)).getD k 0-c.getD k 0)=lO f f' ls (k+1) (k/2))/\(k%2=1->lO f f' ls k (k/2)-((bc (N.arcs.zip f)).getD k 0-c.getD k 0)=lO f f' ls (k+1) (k/2)):=by
 obtain⟨i,hi⟩:∃ i,k/2=i:=⟨_,rfl⟩;have m:i<N.arcs.length:=aa;obtain⟨a,s,g1,g2⟩:=tw hl m;obtain⟨u,j,g3,g4⟩:=tw o m;rw[s] at j;simp only[Nc] at j;subst j;rw[hi];refine⟨λ v=>?_,λ w=>?_⟩
 ·obtain rfl:k=2*i:=by omega
  unfold lO;rw[if_neg aa,if_neg aa,if_neg aa];by_cases e:2*i∈ls
  ·rw[if_pos ⟨aa,e⟩,l _ e,g1,g3];omega
  ·rw[if_neg (λ h=>e h.2),b _ e];omega
 ·obtain rfl:k=2*i+1:=by omega
  unfold lO;rw[if_neg aa,if_pos (show 2*i+2<=2*i+1+1 by omega)];have p:cI (2*i+1)=2*i:=by unfold cI;rw[if_pos aa];omega
  have n:cI (2*i)=2*i+1:=by unfold cI;rw[if_neg aa]
  by_cases e:2*i∈ls
  ·rw[if_pos ⟨aa,e⟩,b _ (by rw[<- n];exact g _ e)];omega
  ·rw[if_neg (λ h=>e h.2)];by_cases q:2*i+1∈ls
   ·rw[l _ q,g2,g4];omega
   ·have:=d _ q (by rw[p];exact e);rw[b _ q];rw[g2,g4] at this;omega
theorem CA{N:aV}(c:N.Right){f f':LI_}(d:Ranged N f)(a:Ranged N f'){ls:LN_}{k i:Nat}(hi:i<N.arcs.length):0<=lO f f' ls k i/\lO f f' ls k i<=4611686018427387903:=by
 obtain⟨_,_,_,g2⟩:=tw d.len hi;obtain⟨_,_,_,g4⟩:=tw a.len hi;have e:=gC c d (2*i+1);have b:=gC c a (2*i+1);rw[g2] at e;rw[g4] at b;unfold lO;split
 ·exact b
 ·split
  ·exact b
  ·exact e
def jd(n m:Nat):Nat:=(eG n+3)*m+eO n*(n+1)+(em (n+1)+5*(n+1)+1)+(2*em (n+1)+11*(n+1)+1)*(n+1)+(n+1)
end Go.Proofs.YtmcnpaelaieniaaGreatDoor
