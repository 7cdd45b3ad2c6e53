import Derived.Test.YtmcnpaelaieniaaGreatDoorQX103
import Derived.Test.YtmcnpaelaieniaaGreatDoorQX79
import Derived.Test.YtmcnpaelaieniaaGreatDoorQC
/- A part of the proof; see NOTES.md. -/
set_option linter.unusedVariables false
set_option linter.unusedSimpArgs false
namespace Go.Proofs.YtmcnpaelaieniaaGreatDoor
open Lib
theorem tK{n:Int}(h:0<=n):itoa n=decDigits n.toNat:=by
 unfold itoa;rw[if_neg (by omega)]
theorem C9{b:UInt8}(h:nW b=true):b≠10/\oT b=false:=by
 unfold nW at h;have h':=of_decide_eq_true h;refine⟨λ e=>?_,?_⟩
 ·subst e;simp at h'
 ·unfold oT;have h1:b.toNat≠32:=by omega
  have h2:b.toNat≠9:=by omega
  have h3:b.toNat≠13:=by omega
  simp[h1,h2,h3]
theorem mM{n:Int}(h:0<=n):∀ b∈itoa n,b≠10/\oT b=false:=by
 intro b hb;rw[tK h] at hb;exact C9 (List.all_eq_true.1 (sx _) b hb)
theorem sB{n:Int}(h:0<=n):itoa n≠[]:=by rw[tK h];exact tC _
theorem zk{m:LU}(h:∀ b∈m,b≠10)(t:LU):aT (m++10::t)=m::aT t:=by
 rw[yj,ip,ke 10 m [] h];rfl
theorem nL{m:LU}(h:∀ b∈m,oT b=false)(hne:m≠[]):bw m=[m]:=by
 unfold bw;have:=j0 m [] [] h;rw[G5] at this;rw[this];simp[b7,hne]
theorem Di{k:Int}(h:0<=k):bw ([112,32,109,97,120,32,50,32]++itoa k)=[[112],[109,97,120],[50],itoa k]:=by
 rw[show ([112,32,109,97,120,32,50,32]:LU)++itoa k=[112,32,109,97,120,32,50]++32::itoa k from rfl,jm rfl,nL (λ b hb=>(mM h b hb).2) (sB h)];rfl
theorem CX{c:Int}(h:0<=c):bw ([97,32,49,32,50,32]++itoa c)=[[97],[49],[50],itoa c]:=by
 rw[show ([97,32,49,32,50,32]:LU)++itoa c=[97,32,49,32,50]++32::itoa c from rfl,jm rfl,nL (λ b hb=>(mM h b hb).2) (sB h)];rfl
def Ex(k c:Int)(j:Nat):Rd:=⟨2,2,1,List.replicate j ⟨1,2,c⟩,k,j*c⟩
theorem D8:dj [50]=(2,0):=by decide
theorem FO:dj [49]=(1,0):=by decide
theorem Rd.line_p(r:Rd)(w:Ws):r.line ([112]::w)=r.problem ([112]::w):=by simp[Rd.line]
theorem Rd.line_n(r:Rd)(w:Ws):r.line ([110]::w)=r.end_ ([110]::w):=by simp[Rd.line]
theorem Rd.line_a(r:Rd)(w:Ws):r.line ([97]::w)=r.arc ([97]::w):=by simp[Rd.line]
theorem qG(r:Rd)(i:Nat)(x:LU)(ls:List (LU)):dY r i (x::ls)=if (r.line (bw x)).2≠0 then (r,i+1,(r.line (bw x)).2) else dY (r.line (bw x)).1 (i+1) ls:=rfl
theorem FZ{k:Int}(h:0<=k/\k<=2000):oZ.line (bw ([112,32,109,97,120,32,50,32]++itoa k))=(⟨2,0,0,[],k,0⟩,0):=by
 rw[Di h.1]
 have hn:bn [[50],itoa k]=([2,k],0):=by
  unfold bn;unfold bn;unfold bn;rw[qC k (by omega),D8];rfl
 rw[Rd.line_p];unfold Rd.problem;rw[if_neg (by simp[oZ]),show List.drop 2 [[112],[109,97,120],[50],itoa k]=[[50],itoa k] from rfl,hn];rw[if_neg (by simp),if_neg (by simp;omega)];rfl
theorem F7{k c:Int}(hc:0<=c/\c<=4611686018427387903){j:Nat}(hj:(j:Int)<k):(Ex k c j).line (bw ([97,32,49,32,50,32]++itoa c))=if 4611686018427387903<j*c+c then (Ex k c j,7) else (Ex k c (j+1),0):=by
 rw[CX hc.1]
 have hn:bn [[49],[50],itoa c]=([1,2,c],0):=by
  unfold bn;unfold bn;unfold bn;unfold bn;rw[qC c (by omega),D8,FO];rfl
 rw[Rd.line_a];unfold Rd.arc;rw[if_neg (by simp[Ex]),show List.drop 1 [[97],[49],[50],itoa c]=[[49],[50],itoa c] from rfl,hn];rw[if_neg (by simp),if_neg (by simp[Ex]),if_neg (by simp;omega),if_neg (by simp[Ex];omega)];show (if 4611686018427387903<(j:Int)*c+c then _ else _)=_;split
 ·rfl
 ·refine Prod.ext ?_ rfl;unfold Ex;have e:(List.replicate j (dI.mk 1 2 c))++[⟨1,2,c⟩]=List.replicate (j+1) ⟨1,2,c⟩:=by rw[List.replicate_succ']
  have e2:(j:Int)*c+c=((j+1:Nat):Int)*c:=by rw[IG,Int.add_mul];simp
  show Rd.mk 2 2 1 (List.replicate j (dI.mk 1 2 c)++[⟨1,2,c⟩]) k ((j:Int)*c+c)=_;rw[e,e2]
open Go.RowKit
open Lib
def nT(a:dI):LU:=fF [97] [a.fr,a.to,a.cap]++[10]
def iy(N:aU):LU:=(fF [112,32,109,97,120] [N.nodes,N.arcs.length]++[10])++(((fF [110] [N.src]++[32,115,10])++fF [110] [N.snk])++[32,116,10])
def iM(N:aU):LU:=iy N++(N.arcs.map nT).flatten
noncomputable def qm(N:aU):Value:=.tuple #[dF (if ff N=0 then iM N else []),.int .i64 (if ff N=0 then 0 else 1)]
theorem B5(V:b5)(N:aU)(hF:N.Fits)(A:OA)(c b o:Nat)(hA:N.arcs≠[]->A=some ⟨b,o,none⟩):Fn 29 [bp N A c] [] ([.seg b o (arcs N.arcs)]++V.heap) λ v H'=>v=qm N/\H'=[]:=by
 refine aJ Tryz.func29 rfl rfl λ w0=>?_
 (repeat' (first|refine ad ?_|refine aq ?_|refine bi rfl ?_|refine bG rfl ?_))
 refine aa ?_;refine bx (cs:=bI N A c) rfl rfl rfl (λ _=>rfl) λ p1=>?_;refine ae [] rfl ?_;refine ad ?_
 (repeat' (first|refine ad ?_|refine aq ?_|refine bi rfl ?_|refine bG rfl ?_))
 refine aa ?_;refine ab [] (v:=bp N A c) (af 0 rfl) rfl ?_;refine ap [] (iJ N hF A c b o hA) rfl (by kernel_rfl) ⟨⟨1,_,by simp,rfl,ak _ _ _,av⟩,an⟩ (λ _=>rfl) ?_;rintro v H' ⟨rfl,rfl⟩;refine⟨rfl,?_⟩;refine ae [] rfl ?_;refine aC rfl (λ hz=>?_) (λ hz=>aq ?_)
 ·(repeat' (first|refine ad ?_|refine aq ?_|refine bi rfl ?_|refine bG rfl ?_))
  refine aa (ae [] rfl ?_);refine az [] (by decide) rfl (ay ⟨_,rfl,?_,rfl⟩);unfold qm;rw[if_neg hz,if_neg hz];rfl
 have hz0:ff N=0:=GK.1 hz;have hR:=uD hz0;have hnn:=hR.nodes;have hln:=hR.len
 have hall:∀ n:Int,(n=N.nodes\/n=N.arcs.length\/n=N.src\/n=N.snk)->dn n:=by
  rintro n (rfl|rfl|rfl|rfl)
  ·exact hF.nodes
  ·unfold dn;omega
  ·exact hF.src
  ·exact hF.snk
 (repeat' (first|refine ad ?_|refine aq ?_|refine bi rfl ?_|refine bG rfl ?_))
 refine aa ?_;refine bo rfl rfl rfl (λ _=>rfl) λ p4=>?_;refine em 5 1 ?_;refine bY (K:=pz p4 (.pointer none) none 0 []++[blk p1 33 (bI N A c),.seg b o (arcs N.arcs)]++V.heap) (aH.picks [1,0,2,3,4,5,6] (by decide) rfl) ?_;refine ae [] rfl ?_
 (repeat' (first|refine ad ?_|refine aq ?_|refine bi rfl ?_|refine bG rfl ?_))
 refine aa (ah [] rfl ?_);refine ab [] (cB (i:=0) (v:=.int .i64 N.nodes) 2 rfl rfl rfl rfl) rfl ?_;refine ah [] rfl ?_;refine ab [] (cB (i:=3) (v:=.slice A N.arcs.length c) 2 rfl rfl rfl rfl) rfl ?_;refine ah [] rfl ?_;refine bF rfl rfl rfl rfl rfl rfl rfl (λ _=>rfl) λ g=>?_;refine ap [] (iu V [112,32,109,97,120] (by decide) [N.nodes,N.arcs.length] (λ n hn=>hall n (by simp at hn;omega)) (by simp) _ 2 _ g 0 (λ _=>rfl) rfl) rfl (by kernel_rfl) ⟨⟨0,_,by simp,rfl,aF _ _ _ (0,0),.inr rfl⟩,⟨5,by simp,rfl⟩,⟨6,by simp,rfl⟩,⟨7,by simp,rfl⟩,an⟩ (λ _=>rfl) ?_;rintro v H' ⟨rfl,rfl⟩;refine⟨rfl,?_⟩;have hw1:=ef [112,32,109,97,120] [N.nodes,N.arcs.length] (λ n hn=>hall n (by simp at hn;omega));simp only[Gz,GQ] at hw1;refine ab [] (gA (m:=[10]) rfl rfl rfl (by simp;omega)) rfl ?_;refine aw (fst:=[]) (cap:=[]) [] (sH p4 (.pointer none) (.inl rfl) none 0 [] (fF [112,32,109,97,120] [N.nodes,N.arcs.length]++[10]) (by simp;omega)) rfl rfl rfl rfl (by kernel_rfl) (K:=[blk p1 33 (bI N A c),.seg b o (arcs N.arcs)]++V.heap) (aH.picks [1,2,3,4,5,6,7] (by decide) rfl) an (λ _=>rfl) ?_;rintro v H' ⟨A1,c1,rfl⟩;refine⟨rfl,?_⟩;refine ae [] rfl ?_;refine jg (σ:=OA×Nat) (λ s=>[(1,.pointer (some ⟨p1,0,none⟩)),(4,.pointer (some ⟨p4,0,none⟩))]) (λ s=>pz p4 (.pointer (some ⟨p4,0,none⟩)) s.1 s.2 (iy N)++[blk p1 33 (bI N A c),.seg b o (arcs N.arcs)]++V.heap) ?_ ?_
 ·refine sA (Sf:=[blk p1 33 (bI N A c)]) ?_;refine sw [0,1,5,6] (by decide+kernel) [2] (by decide) rfl ?_
  (repeat' (first|refine bB (gs:=[999]) rfl rfl ?_|refine aj [999] rfl (af 0 rfl) rfl ?_))
  refine bq ?_;have hws:=ef [110] [N.src] (λ n hn=>hall n (by simp at hn;omega));have hwt:=ef [110] [N.snk] (λ n hn=>hall n (by simp at hn;omega));simp only[Gz,GQ] at hws hwt
  (repeat' (first|exact an|refine bT 2 [7] (by decide+kernel) (by decide) ?_|refine bT 2 [] (by decide+kernel) (by decide) ?_|refine bT 3 [7] (by decide+kernel) (by decide) ?_|refine bT 3 [] (by decide+kernel) (by decide) ?_|refine bT 4 [7] (by decide+kernel) (by decide) ?_|refine bT 4 [8] (by decide+kernel) (by decide) ?_|refine bT 4 [] (by decide+kernel) (by decide) ?_|refine bT 7 [] (by decide+kernel) (by decide) ?_|refine bT 8 [] (by decide+kernel) (by decide) ?_|refine bT 9 [] (by decide+kernel) (by decide) ?_|refine bT 10 [] (by decide+kernel) (by decide) ?_|refine bT 11 [] (by decide+kernel) (by decide) ?_|refine⟨⟨_,rfl,?_⟩,?_⟩|(refine bF rfl rfl rfl rfl rfl rfl rfl (λ _=>rfl) λ g3=>?_;refine bY (aH.picks [1,2,3,4,5,6,7,8,0] (by decide) rfl) ?_;refine ai ⟨⟨[2],by decide,rfl⟩,?_⟩)|(refine bF rfl rfl rfl rfl rfl rfl rfl (λ _=>rfl) λ g2=>?_;refine bY (aH.picks [1,2,3,4,5,6,7,0] (by decide) rfl) ?_;refine ai ⟨⟨[2],by decide,rfl⟩,?_⟩)|(refine ap [] (iu V [110] (by decide) [N.src] (λ n hn=>hall n (by simp at hn;omega)) (by simp) _ 1 _ _ 0 (λ _=>rfl) rfl) rfl (by kernel_rfl) ⟨⟨7,_,by simp,rfl,aF _ _ _ (0,0),.inr rfl⟩,⟨4,by simp,rfl⟩,⟨5,by simp,rfl⟩,⟨6,by simp,rfl⟩,an⟩ (λ _=>rfl) ?_;rintro v H' ⟨rfl,rfl⟩;refine⟨rfl,ai ⟨⟨[2],by decide,rfl⟩,?_⟩⟩)|(refine ap [] (iu V [110] (by decide) [N.src] (λ n hn=>hall n (by simp at hn;omega)) (by simp) _ 1 _ _ 0 (λ _=>rfl) rfl) rfl (by kernel_rfl) ⟨⟨8,_,by simp,rfl,aF _ _ _ (0,0),.inr rfl⟩,⟨4,by simp,rfl⟩,⟨5,by simp,rfl⟩,⟨6,by simp,rfl⟩,an⟩ (λ _=>rfl) ?_;rintro v H' ⟨rfl,rfl⟩;refine⟨rfl,ai ⟨⟨[2],by decide,rfl⟩,?_⟩⟩)|(refine ap [] (iu V [110] (by decide) [N.snk] (λ n hn=>hall n (by simp at hn;omega)) (by simp) _ 1 _ _ 0 (λ _=>rfl) rfl) rfl (by kernel_rfl) ⟨⟨7,_,by simp,rfl,aF _ _ _ (0,0),.inr rfl⟩,⟨4,by simp,rfl⟩,⟨5,by simp,rfl⟩,⟨6,by simp,rfl⟩,an⟩ (λ _=>rfl) ?_;rintro v H' ⟨rfl,rfl⟩;refine⟨rfl,ai ⟨⟨[2],by decide,rfl⟩,?_⟩⟩)|(refine ap [] (iu V [110] (by decide) [N.snk] (λ n hn=>hall n (by simp at hn;omega)) (by simp) _ 1 _ _ 0 (λ _=>rfl) rfl) rfl (by kernel_rfl) ⟨⟨8,_,by simp,rfl,aF _ _ _ (0,0),.inr rfl⟩,⟨4,by simp,rfl⟩,⟨5,by simp,rfl⟩,⟨6,by simp,rfl⟩,an⟩ (λ _=>rfl) ?_;rintro v H' ⟨rfl,rfl⟩;refine⟨rfl,ai ⟨⟨[2],by decide,rfl⟩,?_⟩⟩)|(refine ab [] (gA (m:=[32,115,10]) rfl rfl rfl (by simp;omega)) rfl ?_;refine ai ⟨⟨[2],by decide,rfl⟩,?_⟩)|(refine ab [] (gA (m:=[32,116,10]) rfl rfl rfl (by simp;omega)) rfl ?_;refine ai ⟨⟨[2],by decide,rfl⟩,?_⟩)|(refine ab [] (gA rfl rfl rfl (by simp;omega)) rfl ?_;refine ai ⟨⟨[2],by decide,rfl⟩,?_⟩)|(refine aw (fst:=[]) (cap:=[]) [] (sH p4 (.pointer (some ⟨p4,0,none⟩)) (.inr rfl) A1 c1 ([]++(fF [112,32,109,97,120] [N.nodes,N.arcs.length]++[10])) (((fF [110] [N.src]++[32,115,10])++fF [110] [N.snk])++[32,116,10]) (by simp;omega)) rfl rfl rfl rfl (by kernel_rfl) aH.refl an (λ _=>rfl) ?_;rintro v H' ⟨A2,c2,rfl⟩;refine⟨rfl,ai ⟨⟨[2],by decide,rfl⟩,?_⟩⟩;exact kY (by decide+kernel) ⟨(_,_),⟨rfl,rfl,an⟩,aH.picks [0,1,2,3,4,5,6] (by decide) rfl⟩)))
 rintro⟨A2,c2⟩
 have hHl:(iy N).length<=400:=by
  have hws:=ef [110] [N.src] (λ n hn=>hall n (by simp at hn;omega));have hwt:=ef [110] [N.snk] (λ n hn=>hall n (by simp at hn;omega));unfold iy;simp only[Gx,Gz,GQ] at*;omega
 have harc:∀ a∈N.arcs,(nT a).length<=70:=λ a ha=>by
  have h1:=hF.arc a ha;have:=ef [97] [a.fr,a.to,a.cap] (λ n hn=>by simp at hn;rcases hn with rfl|rfl|rfl;exact h1.1;exact h1.2.1;exact h1.2.2);unfold nT;simp only[Gx,Gz,GQ] at*;omega
 have htl:∀ l:List dI,(∀ a∈l,a∈N.arcs)->((l.map nT).flatten).length<=l.length*70:=by
  intro l
  induction l with
  |nil=>intro _;simp
  |cons a l ih=>
   intro h;have h1:=harc a (h a (by simp));have h2:=ih λ x hx=>h x (by simp[hx]);simp only[GG,HR,Gx,Gz];omega
 simp only
 (repeat' (first|refine ad ?_|refine aq ?_|refine bi rfl ?_|refine bG rfl ?_))
 refine aa (ah [] rfl ?_);refine ab [] (cB (i:=3) (v:=.slice A N.arcs.length c) 2 rfl rfl rfl rfl) rfl ?_;refine ae [] rfl ?_
 (repeat' (first|refine ad ?_|refine aq ?_|refine bi rfl ?_|refine bG rfl ?_))
 refine au ?_
 refine bO (σ:=Nat×OA×Nat) (λ s=>[(34,.int .i64 s.1),(33,.int .i64 N.arcs.length),(32,.slice A N.arcs.length c),(4,.pointer (some ⟨p4,0,none⟩))])
  (λ s=>pz p4 (.pointer (some ⟨p4,0,none⟩)) s.2.1 s.2.2 (iy N++((N.arcs.take s.1).map nT).flatten)++[.seg b o (arcs N.arcs)]++V.heap)
  (λ s=>s.1<=N.arcs.length) (λ s=>N.arcs.length-s.1) (0,A2,c2) [0,1,3,4,5,6] ⟨rfl,rfl,rfl,rfl,an⟩ (by decide) (by simp;rfl) (GB _) ?_
 rintro⟨k,A3,c3⟩ hk;simp only at hk ⊢
 (repeat' (first|refine ad ?_|refine aq ?_|refine bi rfl ?_|refine bG rfl ?_))
 refine aa (ae [] rfl ?_);refine ad (aC rfl (λ hlt=>aq ?_) (λ hge=>bc ?_))
 ·have hlt':k<N.arcs.length:=by omega
  obtain⟨a,ha⟩:∃ a,N.arcs[k]?=some a:=⟨N.arcs[k],Gq hlt'⟩;obtain rfl:=hA (by intro h;rw[h] at hlt';simp at hlt');have haB:=hF.arc a (Gu ha);have hal:=harc a (Gu ha);have hul:=htl (N.arcs.take k) (λ x hx=>Hl hx);rw[GV] at hul;refine ad (au ?_);refine ad ?_
  (repeat' (first|refine ad ?_|refine aq ?_|refine bi rfl ?_|refine bG rfl ?_))
  refine aa (ah [] rfl ?_);refine ab [] (e6 rfl hlt') rfl ?_;refine ab [] (a8 2 rfl rfl (eY ha)) rfl ?_;refine bo rfl rfl rfl (λ _=>rfl) λ p6=>?_;refine aA 0 rfl [] rfl ?_;refine ae [] rfl ?_
  (repeat' (first|refine ad ?_|refine aq ?_|refine bi rfl ?_|refine bG rfl ?_))
  refine aa (ah [] rfl ?_);refine ab [] (cB (i:=0) (v:=.int .i64 a.fr) 0 rfl rfl rfl rfl) rfl ?_;refine ah [] rfl ?_;refine ab [] (cB (i:=1) (v:=.int .i64 a.to) 0 rfl rfl rfl rfl) rfl ?_;refine ah [] rfl ?_;refine ab [] (cB (i:=2) (v:=.int .i64 a.cap) 0 rfl rfl rfl rfl) rfl ?_;refine bF rfl rfl rfl rfl rfl rfl rfl (λ _=>rfl) λ g=>?_;refine ap [] (iu V [97] (by decide) [a.fr,a.to,a.cap] (λ n hn=>by simp at hn;rcases hn with rfl|rfl|rfl;exact haB.1;exact haB.2.1;exact haB.2.2) (by simp) _ 3 _ g 0 (λ _=>rfl) rfl) rfl (by kernel_rfl) ⟨⟨0,_,by simp,rfl,aF _ _ _ (0,0),.inr rfl⟩,⟨5,by simp,rfl⟩,⟨6,by simp,rfl⟩,⟨7,by simp,rfl⟩,an⟩ (λ _=>rfl) ?_;rintro v H' ⟨rfl,rfl⟩;refine⟨rfl,?_⟩;have hal':(fF [97] [a.fr,a.to,a.cap]).length<=69:=by unfold nT at hal;simp at hal;omega
  refine ab [] (gA (m:=[10]) rfl rfl rfl (by simp;omega)) rfl ?_;refine aw (fst:=[]) (cap:=[]) [] (sH p4 _ (.inr rfl) A3 c3 (iy N++((N.arcs.take k).map nT).flatten) (nT a) (by rw[Gx];omega)) rfl rfl rfl rfl (by kernel_rfl) (K:=[.seg b o (arcs N.arcs)]++V.heap) (aH.picks [2,3,4,5,6,7] (by decide) rfl) an (λ _=>rfl) ?_;rintro v H' ⟨A4,c4,rfl⟩;refine⟨rfl,?_⟩;refine ae [] rfl ?_
  (repeat' (first|refine ad ?_|refine aq ?_|refine bi rfl ?_|refine bG rfl ?_))
  refine aa (ae [] rfl ?_);have htk:iy N++((N.arcs.take (k+1)).map nT).flatten=iy N++((N.arcs.take k).map nT).flatten++nT a:=by rw[GO,ha];simp
  refine⟨(k+1,A4,c4),[0,1,2,3,4,5],⟨?_,rfl,rfl,rfl,an⟩,by decide,?_,by simp only;omega,by simp only;omega⟩
  ·show some (Value.int .i64 (IntKind.i64.wrap ((k:Int)+1)))=_;rw[cv (by omega)];rfl
  ·simp only[htk];rfl
 obtain rfl:k=N.arcs.length:=by omega
 rw[GY]
 (repeat' (first|refine ad ?_|refine aq ?_|refine bi rfl ?_|refine bG rfl ?_))
 refine aa (ah [] rfl ?_);refine Cz (X:=⟨w0,[],_⟩) [] rfl (λ w hw=>ER rfl p4 _ (.inr rfl) A3 c3 (iM N) hw) rfl rfl rfl rfl (by kernel_rfl) rfl ?_;refine ae [] rfl ?_;refine ay ⟨_,rfl,?_,rfl⟩;unfold qm;rw[if_pos hz0,if_pos hz0];rfl
end Go.Proofs.YtmcnpaelaieniaaGreatDoor
