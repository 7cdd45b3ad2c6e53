import Derived.Test.YtmcnpaelaieniaaGreatDoorQX105
import Derived.Test.YtmcnpaelaieniaaGreatDoorQX81
import Derived.Test.YtmcnpaelaieniaaGreatDoorQC
/- A part of the proof; see NOTES.md. -/
set_option linter.unusedVariables false
set_option linter.unusedSimpArgs false
namespace Go.Proofs.YtmcnpaelaieniaaGreatDoor
open Lib
theorem sU{n:Int}(h:0<=n):itoa n=decDigits n.toNat:=by
 unfold itoa;rw[if_neg (by omega)]
theorem DM{b:UInt8}(h:nM b=true):b≠10/\oL b=false:=by
 unfold nM at h;have h':=of_decide_eq_true h;refine⟨λ e=>?_,?_⟩
 ·subst e;simp at h'
 ·unfold oL;have h1:b.toNat≠32:=by omega
  have h2:b.toNat≠9:=by omega
  have h3:b.toNat≠13:=by omega
  simp[h1,h2,h3]
theorem mN{n:Int}(h:0<=n):∀ b∈itoa n,b≠10/\oL b=false:=by
 intro b hb;rw[sU h] at hb;exact DM (I2.1 (sR _) b hb)
theorem rT{n:Int}(h:0<=n):itoa n≠[]:=by rw[sU h];exact uY _
theorem zD{m:LU}(h:∀ b∈m,b≠10)(t:LU):aP (m++10::t)=m::aP t:=by
 rw[yN,ik,jY 10 m [] h];rfl
theorem nE{m:LU}(h:∀ b∈m,oL b=false)(hne:m≠[]):bw m=[m]:=by
 unfold bw;have:=jZ m [] [] h;rw[Hc] at this;rw[this];simp[b9,hne]
theorem CO{k:Int}(h:0<=k):bw ([112,32,109,97,120,32,50,32]++itoa k)=[[112],[109,97,120],[50],itoa k]:=by
 rw[show ([112,32,109,97,120,32,50,32]:LU)++itoa k=[112,32,109,97,120,32,50]++32::itoa k from rfl,jr rfl,nE (λ b hb=>(mN h b hb).2) (rT h)];rfl
theorem Da{c:Int}(h:0<=c):bw ([97,32,49,32,50,32]++itoa c)=[[97],[49],[50],itoa c]:=by
 rw[show ([97,32,49,32,50,32]:LU)++itoa c=[97,32,49,32,50]++32::itoa c from rfl,jr rfl,nE (λ b hb=>(mN h b hb).2) (rT h)];rfl
def EZ(k c:Int)(j:Nat):Rd:=⟨2,2,1,List.replicate j ⟨1,2,c⟩,k,j*c⟩
theorem D6:dp [50]=(2,0):=by decide
theorem FN:dp [49]=(1,0):=by decide
theorem Rd.line_p(r:Rd)(w:Ws):r.line ([112]::w)=r.problem ([112]::w):=by simp[Rd.line]
theorem Rd.line_n(r:Rd)(w:Ws):r.line ([110]::w)=r.end_ ([110]::w):=by simp[Rd.line]
theorem Rd.line_a(r:Rd)(w:Ws):r.line ([97]::w)=r.arc ([97]::w):=by simp[Rd.line]
theorem po(r:Rd)(i:Nat)(x:LU)(ls:List (LU)):dY r i (x::ls)=if (r.line (bw x)).2≠0 then (r,i+1,(r.line (bw x)).2) else dY (r.line (bw x)).1 (i+1) ls:=rfl
theorem F5{k:Int}(h:0<=k/\k<=2000):oZ.line (bw ([112,32,109,97,120,32,50,32]++itoa k))=(⟨2,0,0,[],k,0⟩,0):=by
 rw[CO h.1]
 have hn:bo [[50],itoa k]=([2,k],0):=by
  unfold bo;unfold bo;unfold bo;rw[qg k (by omega),D6];rfl
 rw[Rd.line_p];unfold Rd.problem;rw[if_neg (by simp[oZ]),show List.drop 2 [[112],[109,97,120],[50],itoa k]=[[50],itoa k] from rfl,hn];rw[if_neg (by simp),if_neg (by simp;omega)];rfl
theorem Gn{k c:Int}(hc:0<=c/\c<=4611686018427387903){j:Nat}(hj:(j:Int)<k):(EZ k c j).line (bw ([97,32,49,32,50,32]++itoa c))=if 4611686018427387903<j*c+c then (EZ k c j,7) else (EZ k c (j+1),0):=by
 rw[Da hc.1]
 have hn:bo [[49],[50],itoa c]=([1,2,c],0):=by
  unfold bo;unfold bo;unfold bo;unfold bo;rw[qg c (by omega),D6,FN];rfl
 rw[Rd.line_a];unfold Rd.arc;rw[if_neg (by simp[EZ]),show List.drop 1 [[97],[49],[50],itoa c]=[[49],[50],itoa c] from rfl,hn];rw[if_neg (by simp),if_neg (by simp[EZ]),if_neg (by simp;omega),if_neg (by simp[EZ];omega)];show (if 4611686018427387903<(j:Int)*c+c then _ else _)=_;split
 ·rfl
 ·refine Prod.ext ?_ rfl;unfold EZ;have e:(List.replicate j (dM.mk 1 2 c))++[⟨1,2,c⟩]=List.replicate (j+1) ⟨1,2,c⟩:=by rw[List.replicate_succ']
  have e2:(j:Int)*c+c=((j+1:Nat):Int)*c:=by rw[Ii,Int.add_mul];simp
  show Rd.mk 2 2 1 (List.replicate j (dM.mk 1 2 c)++[⟨1,2,c⟩]) k ((j:Int)*c+c)=_;rw[e,e2]
open Go.RowKit
open Lib
def nT(a:dM):LU:=fH [97] [a.fr,a.to,a.cap]++[10]
def iM(N:aO):LU:=(fH [112,32,109,97,120] [N.nodes,N.arcs.length]++[10])++(((fH [110] [N.src]++[32,115,10])++fH [110] [N.snk])++[32,116,10])
def iK(N:aO):LU:=iM N++(N.arcs.map nT).flatten
noncomputable def qa(N:aO):Value:=.tuple #[dK (if er N=0 then iK N else []),.int .i64 (if er N=0 then 0 else 1)]
theorem zW(V:cj)(N:aO)(hF:N.Fits)(A:OA)(c b o:Nat)(hA:N.arcs≠[]->A=some ⟨b,o,none⟩):Fn 29 [bx N A c] [] ([.seg b o (arcs N.arcs)]++V.heap) λ v H'=>v=qa N/\H'=[]:=by
 refine aH Tryz.func29 rfl rfl λ w0=>?_
 (repeat' (first|refine ad ?_|refine aq ?_|refine bh rfl ?_|refine bG rfl ?_))
 refine aa ?_;refine bz (cs:=bJ N A c) rfl rfl rfl (λ _=>rfl) λ p1=>?_;refine ae [] rfl ?_;refine ad ?_
 (repeat' (first|refine ad ?_|refine aq ?_|refine bh rfl ?_|refine bG rfl ?_))
 refine aa ?_;refine ab [] (v:=bx N A c) (af 0 rfl) rfl ?_;refine ao [] (iz N hF A c b o hA) rfl (by kernel_rfl) ⟨⟨1,_,by simp,rfl,ak _ _ _,au⟩,an⟩ (λ _=>rfl) ?_;rintro v H' ⟨rfl,rfl⟩;refine⟨rfl,?_⟩;refine ae [] rfl ?_;refine aC rfl (λ hz=>?_) (λ hz=>aq ?_)
 ·(repeat' (first|refine ad ?_|refine aq ?_|refine bh rfl ?_|refine bG rfl ?_))
  refine aa (ae [] rfl ?_);refine aA [] (by decide) rfl (ax ⟨_,rfl,?_,rfl⟩);unfold qa;rw[if_neg hz,if_neg hz];rfl
 have hz0:er N=0:=GQ.1 hz;have hR:=ot hz0;have hnn:=hR.nodes;have hln:=hR.len
 have hall:∀ n:Int,(n=N.nodes\/n=N.arcs.length\/n=N.src\/n=N.snk)->bU n:=by
  rintro n (rfl|rfl|rfl|rfl)
  ·exact hF.nodes
  ·unfold bU;omega
  ·exact hF.src
  ·exact hF.snk
 (repeat' (first|refine ad ?_|refine aq ?_|refine bh rfl ?_|refine bG rfl ?_))
 refine aa ?_;refine bu rfl rfl rfl (λ _=>rfl) λ p4=>?_;refine fw 5 1 ?_;refine bX (K:=pm p4 (.pointer none) none 0 []++[blk p1 33 (bJ N A c),.seg b o (arcs N.arcs)]++V.heap) (aF.picks [1,0,2,3,4,5,6] (by decide) rfl) ?_;refine ae [] rfl ?_
 (repeat' (first|refine ad ?_|refine aq ?_|refine bh rfl ?_|refine bG rfl ?_))
 refine aa (ah [] rfl ?_);refine ab [] (cB (i:=0) (v:=.int .i64 N.nodes) 2 rfl rfl rfl rfl) rfl ?_;refine ah [] rfl ?_;refine ab [] (cB (i:=3) (v:=.slice A N.arcs.length c) 2 rfl rfl rfl rfl) rfl ?_;refine ah [] rfl ?_;refine bC rfl rfl rfl rfl rfl rfl rfl (λ _=>rfl) λ g=>?_;refine ao [] (im V [112,32,109,97,120] (by decide) [N.nodes,N.arcs.length] (λ n hn=>hall n (by simp at hn;omega)) (by simp) _ 2 _ g 0 (λ _=>rfl) rfl) rfl (by kernel_rfl) ⟨⟨0,_,by simp,rfl,aD _ _ _ (0,0),.inr rfl⟩,⟨5,by simp,rfl⟩,⟨6,by simp,rfl⟩,⟨7,by simp,rfl⟩,an⟩ (λ _=>rfl) ?_;rintro v H' ⟨rfl,rfl⟩;refine⟨rfl,?_⟩;have hw1:=ef [112,32,109,97,120] [N.nodes,N.arcs.length] (λ n hn=>hall n (by simp at hn;omega));simp only[GG,GX] at hw1;refine ab [] (gi (m:=[10]) rfl rfl rfl (by simp;omega)) rfl ?_;refine aw (fst:=[]) (cap:=[]) [] (sH p4 (.pointer none) (.inl rfl) none 0 [] (fH [112,32,109,97,120] [N.nodes,N.arcs.length]++[10]) (by simp;omega)) rfl rfl rfl rfl (by kernel_rfl) (K:=[blk p1 33 (bJ N A c),.seg b o (arcs N.arcs)]++V.heap) (aF.picks [1,2,3,4,5,6,7] (by decide) rfl) an (λ _=>rfl) ?_;rintro v H' ⟨A1,c1,rfl⟩;refine⟨rfl,?_⟩;refine ae [] rfl ?_;refine jj (σ:=OA×Nat) (λ s=>[(1,.pointer (some ⟨p1,0,none⟩)),(4,.pointer (some ⟨p4,0,none⟩))]) (λ s=>pm p4 (.pointer (some ⟨p4,0,none⟩)) s.1 s.2 (iM N)++[blk p1 33 (bJ N A c),.seg b o (arcs N.arcs)]++V.heap) ?_ ?_
 ·refine rZ (Sf:=[blk p1 33 (bJ N A c)]) ?_;refine sF [0,1,5,6] (by decide+kernel) [2] (by decide) rfl ?_
  (repeat' (first|refine bB (gs:=[999]) rfl rfl ?_|refine aj [999] rfl (af 0 rfl) rfl ?_))
  refine bp ?_;have hws:=ef [110] [N.src] (λ n hn=>hall n (by simp at hn;omega));have hwt:=ef [110] [N.snk] (λ n hn=>hall n (by simp at hn;omega));simp only[GG,GX] at hws hwt
  (repeat' (first|exact an|refine bS 2 [7] (by decide+kernel) (by decide) ?_|refine bS 2 [] (by decide+kernel) (by decide) ?_|refine bS 3 [7] (by decide+kernel) (by decide) ?_|refine bS 3 [] (by decide+kernel) (by decide) ?_|refine bS 4 [7] (by decide+kernel) (by decide) ?_|refine bS 4 [8] (by decide+kernel) (by decide) ?_|refine bS 4 [] (by decide+kernel) (by decide) ?_|refine bS 7 [] (by decide+kernel) (by decide) ?_|refine bS 8 [] (by decide+kernel) (by decide) ?_|refine bS 9 [] (by decide+kernel) (by decide) ?_|refine bS 10 [] (by decide+kernel) (by decide) ?_|refine bS 11 [] (by decide+kernel) (by decide) ?_|refine⟨⟨_,rfl,?_⟩,?_⟩|(refine bC rfl rfl rfl rfl rfl rfl rfl (λ _=>rfl) λ g3=>?_;refine bX (aF.picks [1,2,3,4,5,6,7,8,0] (by decide) rfl) ?_;refine ai ⟨⟨[2],by decide,rfl⟩,?_⟩)|(refine bC rfl rfl rfl rfl rfl rfl rfl (λ _=>rfl) λ g2=>?_;refine bX (aF.picks [1,2,3,4,5,6,7,0] (by decide) rfl) ?_;refine ai ⟨⟨[2],by decide,rfl⟩,?_⟩)|(refine ao [] (im V [110] (by decide) [N.src] (λ n hn=>hall n (by simp at hn;omega)) (by simp) _ 1 _ _ 0 (λ _=>rfl) rfl) rfl (by kernel_rfl) ⟨⟨7,_,by simp,rfl,aD _ _ _ (0,0),.inr rfl⟩,⟨4,by simp,rfl⟩,⟨5,by simp,rfl⟩,⟨6,by simp,rfl⟩,an⟩ (λ _=>rfl) ?_;rintro v H' ⟨rfl,rfl⟩;refine⟨rfl,ai ⟨⟨[2],by decide,rfl⟩,?_⟩⟩)|(refine ao [] (im V [110] (by decide) [N.src] (λ n hn=>hall n (by simp at hn;omega)) (by simp) _ 1 _ _ 0 (λ _=>rfl) rfl) rfl (by kernel_rfl) ⟨⟨8,_,by simp,rfl,aD _ _ _ (0,0),.inr rfl⟩,⟨4,by simp,rfl⟩,⟨5,by simp,rfl⟩,⟨6,by simp,rfl⟩,an⟩ (λ _=>rfl) ?_;rintro v H' ⟨rfl,rfl⟩;refine⟨rfl,ai ⟨⟨[2],by decide,rfl⟩,?_⟩⟩)|(refine ao [] (im V [110] (by decide) [N.snk] (λ n hn=>hall n (by simp at hn;omega)) (by simp) _ 1 _ _ 0 (λ _=>rfl) rfl) rfl (by kernel_rfl) ⟨⟨7,_,by simp,rfl,aD _ _ _ (0,0),.inr rfl⟩,⟨4,by simp,rfl⟩,⟨5,by simp,rfl⟩,⟨6,by simp,rfl⟩,an⟩ (λ _=>rfl) ?_;rintro v H' ⟨rfl,rfl⟩;refine⟨rfl,ai ⟨⟨[2],by decide,rfl⟩,?_⟩⟩)|(refine ao [] (im V [110] (by decide) [N.snk] (λ n hn=>hall n (by simp at hn;omega)) (by simp) _ 1 _ _ 0 (λ _=>rfl) rfl) rfl (by kernel_rfl) ⟨⟨8,_,by simp,rfl,aD _ _ _ (0,0),.inr rfl⟩,⟨4,by simp,rfl⟩,⟨5,by simp,rfl⟩,⟨6,by simp,rfl⟩,an⟩ (λ _=>rfl) ?_;rintro v H' ⟨rfl,rfl⟩;refine⟨rfl,ai ⟨⟨[2],by decide,rfl⟩,?_⟩⟩)|(refine ab [] (gi (m:=[32,115,10]) rfl rfl rfl (by simp;omega)) rfl ?_;refine ai ⟨⟨[2],by decide,rfl⟩,?_⟩)|(refine ab [] (gi (m:=[32,116,10]) rfl rfl rfl (by simp;omega)) rfl ?_;refine ai ⟨⟨[2],by decide,rfl⟩,?_⟩)|(refine ab [] (gi rfl rfl rfl (by simp;omega)) rfl ?_;refine ai ⟨⟨[2],by decide,rfl⟩,?_⟩)|(refine aw (fst:=[]) (cap:=[]) [] (sH p4 (.pointer (some ⟨p4,0,none⟩)) (.inr rfl) A1 c1 ([]++(fH [112,32,109,97,120] [N.nodes,N.arcs.length]++[10])) (((fH [110] [N.src]++[32,115,10])++fH [110] [N.snk])++[32,116,10]) (by simp;omega)) rfl rfl rfl rfl (by kernel_rfl) aF.refl an (λ _=>rfl) ?_;rintro v H' ⟨A2,c2,rfl⟩;refine⟨rfl,ai ⟨⟨[2],by decide,rfl⟩,?_⟩⟩;exact kX (by decide+kernel) ⟨(_,_),⟨rfl,rfl,an⟩,aF.picks [0,1,2,3,4,5,6] (by decide) rfl⟩)))
 rintro⟨A2,c2⟩
 have hHl:(iM N).length<=400:=by
  have hws:=ef [110] [N.src] (λ n hn=>hall n (by simp at hn;omega));have hwt:=ef [110] [N.snk] (λ n hn=>hall n (by simp at hn;omega));unfold iM;simp only[GE,GG,GX] at*;omega
 have harc:∀ a∈N.arcs,(nT a).length<=70:=λ a ha=>by
  have h1:=hF.arc a ha;have:=ef [97] [a.fr,a.to,a.cap] (λ n hn=>by simp at hn;rcases hn with rfl|rfl|rfl;exact h1.1;exact h1.2.1;exact h1.2.2);unfold nT;simp only[GE,GG,GX] at*;omega
 have htl:∀ l:List dM,(∀ a∈l,a∈N.arcs)->((l.map nT).flatten).length<=l.length*70:=by
  intro l
  induction l with
  |nil=>intro _;simp
  |cons a l ih=>
   intro h;have h1:=harc a (h a (by simp));have h2:=ih λ x hx=>h x (by simp[hx]);simp only[GM,HX,GE,GG];omega
 simp only
 (repeat' (first|refine ad ?_|refine aq ?_|refine bh rfl ?_|refine bG rfl ?_))
 refine aa (ah [] rfl ?_);refine ab [] (cB (i:=3) (v:=.slice A N.arcs.length c) 2 rfl rfl rfl rfl) rfl ?_;refine ae [] rfl ?_
 (repeat' (first|refine ad ?_|refine aq ?_|refine bh rfl ?_|refine bG rfl ?_))
 refine av ?_
 refine bP (σ:=Nat×OA×Nat) (λ s=>[(34,.int .i64 s.1),(33,.int .i64 N.arcs.length),(32,.slice A N.arcs.length c),(4,.pointer (some ⟨p4,0,none⟩))])
  (λ s=>pm p4 (.pointer (some ⟨p4,0,none⟩)) s.2.1 s.2.2 (iM N++((N.arcs.take s.1).map nT).flatten)++[.seg b o (arcs N.arcs)]++V.heap)
  (λ s=>s.1<=N.arcs.length) (λ s=>N.arcs.length-s.1) (0,A2,c2) [0,1,3,4,5,6] ⟨rfl,rfl,rfl,rfl,an⟩ (by decide) (by simp;rfl) (GI _) ?_
 rintro⟨k,A3,c3⟩ hk;simp only at hk ⊢
 (repeat' (first|refine ad ?_|refine aq ?_|refine bh rfl ?_|refine bG rfl ?_))
 refine aa (ae [] rfl ?_);refine ad (aC rfl (λ hlt=>aq ?_) (λ hge=>a9 ?_))
 ·have hlt':k<N.arcs.length:=by omega
  obtain⟨a,ha⟩:∃ a,N.arcs[k]?=some a:=⟨N.arcs[k],Gy hlt'⟩;obtain rfl:=hA (by intro h;rw[h] at hlt';simp at hlt');have haB:=hF.arc a (GB ha);have hal:=harc a (GB ha);have hul:=htl (N.arcs.take k) (λ x hx=>HA hx);rw[G2] at hul;refine ad (av ?_);refine ad ?_
  (repeat' (first|refine ad ?_|refine aq ?_|refine bh rfl ?_|refine bG rfl ?_))
  refine aa (ah [] rfl ?_);refine ab [] (eo rfl hlt') rfl ?_;refine ab [] (bc 2 rfl rfl (fX ha)) rfl ?_;refine bu rfl rfl rfl (λ _=>rfl) λ p6=>?_;refine aB 0 rfl [] rfl ?_;refine ae [] rfl ?_
  (repeat' (first|refine ad ?_|refine aq ?_|refine bh rfl ?_|refine bG rfl ?_))
  refine aa (ah [] rfl ?_);refine ab [] (cB (i:=0) (v:=.int .i64 a.fr) 0 rfl rfl rfl rfl) rfl ?_;refine ah [] rfl ?_;refine ab [] (cB (i:=1) (v:=.int .i64 a.to) 0 rfl rfl rfl rfl) rfl ?_;refine ah [] rfl ?_;refine ab [] (cB (i:=2) (v:=.int .i64 a.cap) 0 rfl rfl rfl rfl) rfl ?_;refine bC rfl rfl rfl rfl rfl rfl rfl (λ _=>rfl) λ g=>?_;refine ao [] (im V [97] (by decide) [a.fr,a.to,a.cap] (λ n hn=>by simp at hn;rcases hn with rfl|rfl|rfl;exact haB.1;exact haB.2.1;exact haB.2.2) (by simp) _ 3 _ g 0 (λ _=>rfl) rfl) rfl (by kernel_rfl) ⟨⟨0,_,by simp,rfl,aD _ _ _ (0,0),.inr rfl⟩,⟨5,by simp,rfl⟩,⟨6,by simp,rfl⟩,⟨7,by simp,rfl⟩,an⟩ (λ _=>rfl) ?_;rintro v H' ⟨rfl,rfl⟩;refine⟨rfl,?_⟩;have hal':(fH [97] [a.fr,a.to,a.cap]).length<=69:=by unfold nT at hal;simp at hal;omega
  refine ab [] (gi (m:=[10]) rfl rfl rfl (by simp;omega)) rfl ?_;refine aw (fst:=[]) (cap:=[]) [] (sH p4 _ (.inr rfl) A3 c3 (iM N++((N.arcs.take k).map nT).flatten) (nT a) (by rw[GE];omega)) rfl rfl rfl rfl (by kernel_rfl) (K:=[.seg b o (arcs N.arcs)]++V.heap) (aF.picks [2,3,4,5,6,7] (by decide) rfl) an (λ _=>rfl) ?_;rintro v H' ⟨A4,c4,rfl⟩;refine⟨rfl,?_⟩;refine ae [] rfl ?_
  (repeat' (first|refine ad ?_|refine aq ?_|refine bh rfl ?_|refine bG rfl ?_))
  refine aa (ae [] rfl ?_);have htk:iM N++((N.arcs.take (k+1)).map nT).flatten=iM N++((N.arcs.take k).map nT).flatten++nT a:=by rw[GW,ha];simp
  refine⟨(k+1,A4,c4),[0,1,2,3,4,5],⟨?_,rfl,rfl,rfl,an⟩,by decide,?_,by simp only;omega,by simp only;omega⟩
  ·show some (Value.int .i64 (IntKind.i64.wrap ((k:Int)+1)))=_;rw[b5 (by omega)];rfl
  ·simp only[htk];rfl
 obtain rfl:k=N.arcs.length:=by omega
 rw[G8]
 (repeat' (first|refine ad ?_|refine aq ?_|refine bh rfl ?_|refine bG rfl ?_))
 refine aa (ah [] rfl ?_);refine Db (X:=⟨w0,[],_⟩) [] rfl (λ w hw=>Ez rfl p4 _ (.inr rfl) A3 c3 (iK N) hw) rfl rfl rfl rfl (by kernel_rfl) rfl ?_;refine ae [] rfl ?_;refine ax ⟨_,rfl,?_,rfl⟩;unfold qa;rw[if_pos hz0,if_pos hz0];rfl
end Go.Proofs.YtmcnpaelaieniaaGreatDoor
