import Derived.Test.YtmcnpaelaieniaaGreatDoorScrZ
import Derived.Test.YtmcnpaelaieniaaGreatDoorQX115
import Derived.Test.YtmcnpaelaieniaaGreatDoorQX105
import Derived.Test.YtmcnpaelaieniaaGreatDoorQX87
import Derived.Test.YtmcnpaelaieniaaGreatDoorQX96
import Derived.Test.YtmcnpaelaieniaaGreatDoorQX99
/- A part of the proof; see NOTES.md. -/
set_option linter.unusedVariables false
set_option linter.unusedSimpArgs false
namespace Go.Proofs.YtmcnpaelaieniaaGreatDoor
open Go.RowKit
open Lib
theorem kF(V:cj)(ws:List (LU))(hw:∀ x∈ws,x.length<=10000000)(hn:ws.length<=10000000)(B:OA)(n cb bb ob:Nat)(hB:ws≠[]->B=some ⟨bb,ob,none⟩)(hnl:n=ws.length):
 Fn 63 [.slice B n cb] [] ([.seg bb ob (cO ws)]++V.heap) λ v H'=>∃ (A:OA) (c:Nat),v=.tuple #[.slice A (bo ws).1.length c,.bool (Ah ws)]/\H'=[.own (.slice A (bo ws).1.length c) 2 1 (bo ws).1.length (ay (bo ws).1)]:=by
 subst hnl;refine aH Tryz.func63 rfl rfl λ w0=>?_;refine ad (aa (ae [] rfl ?_));refine ad (aa (ah [] rfl ?_));refine di (n:=ws.length) (c:=ws.length) rfl rfl rfl rfl rfl rfl (by omega) (by omega) (by omega) (λ _=>rfl) λ g=>?_;rw[show made [Value.int .i64 0] (ws.length*1)=ay (List.replicate ws.length 0) by rw[dm,Hf];simp[ay]];refine ae [] rfl ?_;refine ad (ad (aa (ae [] rfl ?_)));refine av ?_
 refine bP (σ:=Nat) (λ k=>[(14,.int .i64 k),(13,.int .i64 ws.length),(12,.slice B ws.length cb),(4,.slice (some ⟨g,0,none⟩) ws.length ws.length)]) (λ k=>[.own (.slice (some ⟨g,0,none⟩) ws.length ws.length) 2 1 ws.length (ay ((ws.take k).map (λ w=>(dp w).1)++List.replicate (ws.length-k) 0)),.seg bb ob (cO ws)]++V.heap)
  (λ k=>k<=ws.length/\∀ j x,j<k->ws[j]?=some x->(dp x).2=0) (λ k=>ws.length-k) 0 [0,1,2,3,4] ⟨rfl,rfl,rfl,rfl,an⟩ (by decide) rfl ⟨GI _,λ j x h=>by omega⟩ ?_
 rintro k ⟨hk,hall⟩;refine ad (aa (ae [] rfl ?_));refine ad (aC rfl (λ hlt=>aq ?_) (λ hge=>a9 ?_))
 ·have hlt':k<ws.length:=by omega
  obtain⟨x,hx⟩:∃ x,ws[k]?=some x:=⟨ws[k],Gy hlt'⟩;obtain rfl:=hB (by rintro rfl;simp at hlt');have hxl:=hw x (GB hx);refine ad (av ?_);refine ad (aa (ah [] rfl ?_));refine ab [] (bZ rfl hlt') rfl ?_;refine ab [] (bc 1 rfl rfl (fq hx)) rfl ?_;refine ae [] rfl ?_;refine ad (aa ?_);refine am (gs:=[999]) rfl ?_;refine ao [] (qM V x (by omega)) rfl (by kernel_rfl) ⟨⟨2,by simp,rfl⟩,⟨3,by simp,rfl⟩,⟨4,by simp,rfl⟩,an⟩ (λ _=>rfl) ?_;rintro v H' ⟨rfl,rfl⟩;refine⟨rfl,?_⟩;refine ae [] rfl ?_;refine ad (ad (aa (ae [] rfl ?_)));refine aC rfl (λ he=>?_) (λ he=>aq ?_)
  ·have hne:=n7 hx hall he;refine ad (aa (ae [] rfl ?_));refine cd 2 1 ?_;refine aA [0] (by decide) rfl (ax ⟨_,rfl,none,0,?_,?_⟩)
   ·rw[hne,show Ah ws=false from HU (by rw[hne];exact he)];rfl
   ·rw[hne];rfl
  ·have he0:(dp x).2=0:=Classical.not_not.1 he;refine aa (ah [] rfl ?_);refine ab [] (bZ rfl hlt') rfl ?_;refine aS 0 rfl rfl rfl rfl (eA rfl (by rw[List.length_append,List.length_map,List.length_take,List.length_replicate];omega)) [] rfl ?_;refine ae [] rfl ?_;refine aa (ae [] rfl ?_);refine⟨k+1,[0,1,2,3,4],⟨?_,rfl,rfl,rfl,trivial⟩,by decide,?_,⟨by omega,fun j y hj hy=>?_⟩,by omega⟩
   ·show some (Value.int .i64 (IntKind.i64.wrap ((k:Int)+1)))=_;rw[b5 (by omega)];rfl
   ·have:((ws.take k).map (λ w=>(dp w).1)++List.replicate (ws.length-k) 0).set k (dp x).1=(ws.take (k+1)).map (λ w=>(dp w).1)++List.replicate (ws.length-(k+1)) 0:=by
     have hl:((ws.take k).map (λ w=>(dp w).1)).length=k:=by rw[GH,G2];omega
     rw[HT _ _ (by omega),hl,HR,GW,hx,show ws.length-k=(ws.length-(k+1))+1 by omega,HE,Id];simp
    rw[<- this];simp only[G6];rfl
   ·by_cases e:j=k
    ·subst e;rw[hx] at hy;obtain rfl:=G4 hy;exact he0
    ·exact hall j y (by omega) hy
 have hkl:k=ws.length:=by omega
 subst hkl
 have hok:=qx (ws:=ws) λ w hw'=>by
  obtain⟨j,hj,e⟩:=IH hw';exact hall j w hj (by rw[Gy hj,e])
 rw[G8,HR,I5,Hc];refine ad (aa (ae [] rfl ?_));refine aA [0] (by decide) rfl (ax ⟨_,rfl,some ⟨g,0,none⟩,ws.length,?_,?_⟩)
 ·rw[hok,show Ah ws=true from Ip (by rw[hok])];simp only[GH];rfl
 ·rw[hok];simp only[GH]
theorem sp(V:cj)(f:LU)(hf:f.length<=100)(l:LI)(hl:∀ n∈l,bU n)(hll:l.length<=100000)(B:OA)(n cb bb ob:Nat)(hB:l≠[]->B=some ⟨bb,ob,none⟩)(hn:n=l.length):
 Fn 69 [dK f,.slice B n cb] [] ([.seg bb ob (ay l)]++V.heap) λ v H'=>v=dK (fH f l)/\H'=[]:=by
 subst hn;have hwl:=ef f l hl;refine aH Tryz.func69 rfl rfl λ w0=>?_;refine ad (aa (ae [] rfl ?_));refine ad (aa (ah [] rfl ?_));refine bC rfl rfl rfl rfl rfl rfl rfl (λ _=>rfl) λ g0=>?_;refine fk 1 1 (by rfl) (by decide) ?_;refine ae [] rfl ?_;refine ad (ad (aa (ae [] rfl ?_)));refine av ?_
 refine bP (σ:=Nat×OA×Nat) (λ s=>[(12,.int .i64 s.1),(11,.int .i64 l.length),(10,.slice B l.length cb),(5,.slice s.2.1 (f::(l.take s.1).map itoa).length s.2.2)])
  (λ s=>[.own (.slice s.2.1 (f::(l.take s.1).map itoa).length s.2.2) 9 1 (f::(l.take s.1).map itoa).length (cO (f::(l.take s.1).map itoa)),.seg bb ob (ay l)]++V.heap)
  (λ s=>s.1<=l.length) (λ s=>l.length-s.1) (0,some ⟨g0,0,none⟩,1) [0,1,2,3,4] ⟨rfl,rfl,rfl,rfl,an⟩ (by decide) rfl (GI _) ?_
 rintro⟨k,A,c⟩ hk;simp only at hk ⊢;refine ad (aa (ae [] rfl ?_));refine ad (aC rfl (λ hlt=>aq ?_) (λ hge=>a9 ?_))
 ·have hlt':k<l.length:=by omega
  obtain⟨x,hx⟩:∃ x,l[k]?=some x:=⟨l[k],Gy hlt'⟩;obtain rfl:=hB (by rintro rfl;simp at hlt');have hxB:=hl x (GB hx);have hlen:(f::(l.take k).map itoa).length=k+1:=by rw[GG,GH,G2];omega
  refine ad (av ?_);refine ad (aa (ah [] rfl ?_));refine ab [] (bZ rfl hlt') rfl ?_;refine ab [] (bc 1 rfl rfl (bi hx)) rfl ?_;refine ae [] rfl ?_;refine aa (ah [] rfl ?_);refine ao [] (pG V x hxB) rfl (by kernel_rfl) ⟨⟨2,by simp,rfl⟩,⟨3,by simp,rfl⟩,⟨4,by simp,rfl⟩,an⟩ (λ _=>rfl) ?_;rintro v H' ⟨rfl,rfl⟩;refine⟨rfl,?_⟩;refine bC rfl rfl rfl rfl rfl rfl rfl (λ _=>rfl) λ g2=>?_;refine bn (n:=(f::(l.take k).map itoa).length) (m:=1) (off:=0) (news:=cO [itoa x]) 1 0 rfl rfl rfl rfl rfl rfl (by decide) rfl rfl (aD g2 _ _ (0,0)) (λ _=>rfl) rfl rfl (by omega) (by omega) (λ _ _=>rfl) λ A2 c2=>?_;refine ae [] rfl ?_;refine aa (ae [] rfl ?_);have htk:f::(l.take (k+1)).map itoa=(f::(l.take k).map itoa)++[itoa x]:=by rw[GW,hx];simp
  refine⟨(k+1,A2,c2),[1,2,3,4,5],⟨?_,rfl,rfl,?_,an⟩,by decide,?_,by simp only;omega,by simp only;omega⟩
  ·show some (Value.int .i64 (IntKind.i64.wrap ((k:Int)+1)))=_;rw[b5 (by omega)];rfl
  ·simp only[htk];rw[GE];rfl
  ·simp only[htk];rw[GE,show cO ((f::(l.take k).map itoa)++[itoa x])=cO (f::(l.take k).map itoa)++cO [itoa x] by simp[cO]];rfl
 obtain rfl:k=l.length:=by omega
 refine bv (a8 0 rfl) (λ ho=>?_);obtain⟨g,rfl⟩:=ho.2.2.1 (by simp);rw[G8] at*;refine ad (aa (ah [] rfl ?_));refine ao [] (pU (some ⟨g,0,none⟩) _ c g 0 (f::l.map itoa) rfl (λ _=>rfl) ho.2.1 (by show (fH f l).length<=_;omega) (by simp;omega)) rfl (by kernel_rfl) ⟨⟨0,_,by simp,rfl,cD,.inr rfl⟩,an⟩ (λ _=>rfl) ?_;rintro v H' ⟨rfl,rfl⟩;refine⟨rfl,?_⟩;refine ae [] rfl ?_;exact aA [] (by decide) rfl (ax ⟨_,rfl,rfl,rfl⟩)
def EB(A:OA)(c:Nat)(o:List cR):aR:=.own (.slice A o.length c) 9 1 o.length (cO o)
def Ey(o:List cR)(v:Value)(H':Heap):Prop:=∃ (A:OA) (c:Nat),v=.slice A o.length c/\H'=[EB A c o]
theorem rf:Fn 72 [] [] [] (Ey gT):=by
 refine aH Tryz.func72 rfl rfl λ w0=>?_;refine ad (aa (ae [] rfl ?_));refine ad (aa (ah [] rfl ?_));refine bC rfl rfl rfl rfl rfl rfl rfl (λ _=>rfl) λ g=>?_;refine fk 1 1 (by rfl) (by decide) ?_;refine ae [] rfl ?_;exact aA [0] (by decide) rfl (ax ⟨_,rfl,some ⟨g,0,none⟩,1,rfl,rfl⟩)
theorem oX(V:cj)(e:Int)(he:bU e)(A:OA)(n c:Nat):Fn 65 [.int .i64 e,.slice A n c] [] V.heap λ v H'=>(e=0/\v=.slice A n c/\H'=[])\/(e≠0/\Ey (oK e) v H'):=by
 refine aH Tryz.func65 rfl rfl λ w0=>?_;refine ad (aa (ae [] rfl ?_));refine ad (ad (aa (ae [] rfl ?_)));refine aC rfl (λ hz=>?_) (λ hz=>aq ?_)
 ·refine ad (aa (ah [] rfl ?_));refine bC rfl rfl rfl rfl rfl rfl rfl (λ _=>rfl) λ g=>?_;refine ao [] (sp V sy (by decide) [e] (λ x hx=>by rw[GF.1 hx];exact he) (by simp) (some ⟨g,0,none⟩) 1 1 g 0 (λ _=>rfl) rfl) rfl (by kernel_rfl) ⟨⟨0,_,by simp,rfl,aD _ _ _ (0,0),.inr rfl⟩,⟨1,by simp,rfl⟩,⟨2,by simp,rfl⟩,⟨3,by simp,rfl⟩,an⟩ (λ _=>rfl) ?_;rintro v H' ⟨rfl,rfl⟩;refine⟨rfl,?_⟩;refine bC rfl rfl rfl rfl rfl rfl rfl (λ _=>rfl) λ g2=>?_;refine fk 1 1 (by rfl) (by decide) ?_;refine ae [] rfl ?_;exact aA [0] (by decide) rfl (ax ⟨_,rfl,.inr ⟨hz,some ⟨g2,0,none⟩,1,rfl,rfl⟩⟩)
 ·refine ad (aa (ae [] rfl ?_));exact aA [] (by decide) rfl (ax ⟨_,rfl,.inl ⟨GQ.1 hz,rfl,rfl⟩⟩)
def zG(N:aO)(v:Int)(k:Nat):LN:=(List.range k).filter (rF N v)
theorem yA{N:aO}{v:Int}{k:Nat}{a:dM}(h:N.arcs[k]?=some a):zG N v (k+1)=zG N v k++(if a.fr=v then [k] else []):=by
 unfold zG;rw[Iz,Iu]
 congr 1
 unfold rF;simp only[Ib,List.filter_nil,h,Ha]
theorem zP(N:aO)(v:Int)(k:Nat):(zG N v k).length<=k:=by
 have:=HN (rF N v) (List.range k);rw[HH] at this;exact this
def mR(its:List (Int×ec×Int)):LV_:=(its.map λ x=>[Value.int .u8 x.1,cA x.2.1,Value.int .i64 x.2.2]).flatten
theorem Dt(its:List (Int×ec×Int))(x:Int×ec×Int):mR its++[Value.int .u8 x.1,cA x.2.1,Value.int .i64 x.2.2]=mR (its++[x]):=by simp[mR]
section
variable {X:Cx}
theorem aF.mid3{A A1 A2 R I:Heap}(ix jx:LN)(h1:Proofs.YtmcnpaelaieniaaGreatDoor.bT A ix=some A1)(h2:Proofs.YtmcnpaelaieniaaGreatDoor.bT A jx=some A2)(hn:(ix++jx).Nodup):aF X (A++(R++I)) ((A1++R)++(A2++I)):=
 (aF.mid2 ix jx h1 h2 hn).trans (aF.perm (Ix _ Iy))
theorem aF.ret3{A B R I:Heap}:aF X ((A++R)++(B++I)) ((A++B)++(R++I)):=
 (aF.perm (Ix _ Iy)).trans aF.ret2
end
def wG(N:aO)(f:LI)(v:Value)(H':Heap):Prop:=∃ (its:List (Int×ec×Int)) (A':OA) (c':Nat),its.map (λ x=>(x.1,x.2.1.l,x.2.2))=(jg N ⟨f,da (N.arcs.zip f) N.snk⟩).map (λ y=>(y.1,y.2.1.map (λ (i:Nat)=>(i:Int)),y.2.2))/\
 v=.tuple #[.slice A' its.length c',.int .i64 0]/\H'=[.own (.slice A' its.length c') 235 3 its.length (mR its)]++its.map λ x=>aV 3 x.2.1
set_option maxHeartbeats 4000000 in
theorem y8(N:aO)(hN:N.Fits)(hR:N.Right)(A:OA)(c b o:Nat)(hA:N.arcs≠[]->A=some ⟨b,o,none⟩)(f:LI)(F:OA)(cf bf of:Nat)(hF:f≠[]->F=some ⟨bf,of,none⟩)(hf:∀ x∈f,bU x)(hfl:f.length*8<=140737488351232)(hflow:aK N f)(hne:N.arcs≠[]):
 Fn 157 [bx N A c,.slice F f.length cf] [] [.seg b o (arcs N.arcs),.seg bf of (ay f)] (wG N f):=by
 have hl2:=hR.len;have hnn:=hR.nodes;have hlen:=hflow.len;obtain rfl:=hA hne;obtain rfl:=hF (by rintro rfl;simp only[GX] at hlen;exact hne (GT.1 hlen.symm));obtain⟨n,hn⟩:∃ n:Nat,N.nodes=n:=⟨N.nodes.toNat,by omega⟩;refine aH Tryz.func157 rfl rfl λ w0=>?_;refine ad (aa ?_);refine bz (cs:=bJ N (some ⟨b,o,none⟩) c) rfl rfl rfl (λ _=>rfl) λ p=>?_;refine ae [] rfl ?_;refine ad (aa ?_);refine ab [] (v:=bx N (some ⟨b,o,none⟩) c) (af 0 rfl) rfl ?_;refine ah [] rfl ?_;refine ao [] (eY N hN hR (some ⟨b,o,none⟩) c b o hA f (some ⟨bf,of,none⟩) cf bf of hF hf hfl) rfl (by kernel_rfl) ⟨⟨1,_,by simp,rfl,ak _ _ _,au⟩,⟨2,_,by simp,rfl,ak _ _ _,au⟩,an⟩ (λ _=>rfl) ?_;rintro v H' ⟨⟨rfl,_⟩|⟨_,hno⟩,rfl⟩
 case inr=>exact absurd hflow hno
 refine⟨rfl,?_⟩;obtain⟨vv,hvv⟩:∃ vv,vv=da (N.arcs.zip f) N.snk:=⟨_,rfl⟩;rw[<- hvv];refine ae [] rfl ?_;refine ad (ad (aa (ae [] rfl ?_)));refine aC rfl (λ h=>absurd rfl h) (λ _=>aq ?_)
 refine jj (σ:=Nat×Nat×Nat×Nat) (λ t=>[(8,.pointer (some ⟨t.1,0,none⟩)),(2,.pointer (some ⟨p,0,none⟩))])
  (λ t=>[blk t.1 256 (lH N (some ⟨b,o,none⟩) c (some ⟨t.2.1,0,none⟩) f.length t.2.2.1 vv (some ⟨t.2.2.2,0,none⟩) (n+1) (n+1) 0),.own (.slice (some ⟨t.2.2.2,0,none⟩) (n+1) (n+1)) 23 1 (n+1) ((List.replicate (n+1) dx).map cA),.own (.slice (some ⟨t.2.1,0,none⟩) f.length t.2.2.1) 2 1 f.length (ay f),blk p 33 (bJ N (some ⟨b,o,none⟩) c),.seg b o (arcs N.arcs)]) ?_ ?_
 ·refine rZ (Sf:=[blk p 33 (bJ N (some ⟨b,o,none⟩) c)]) ?_;refine sF [0,1,3,4,5,6] (by decide+kernel) [0] (by decide) rfl ?_
  (repeat' (first|refine bB (gs:=[999]) rfl rfl ?_|refine aj [999] (v:=bx N (some ⟨b,o,none⟩) c) rfl (af 0 rfl) rfl ?_|refine aj [999] (v:=.int .i64 N.nodes) rfl (af 0 rfl) rfl ?_))
  refine bp ?_;refine sj 27 (v':=.int .i64 ((n+1:Nat):Int)) rfl (Gz (Value.int .i64) ((b5 (n:=N.nodes+1) (by omega)).trans (by omega))) ?_;refine bS 2 [7] (by decide+kernel) (by decide) ⟨⟨_,rfl,?_⟩,⟨_,rfl,?_⟩,an⟩
  ·refine ao (fst:=[]) (cap:=[]) [] (fm (some ⟨bf,of,none⟩) cf bf of f (λ _=>rfl) (by omega)) rfl (by kernel_rfl) ⟨⟨2,_,by simp,rfl,ak _ _ _,au⟩,an⟩ (λ _=>rfl) ?_;rintro u H' ⟨Al,cl,rfl,rfl⟩;refine⟨rfl,?_⟩;refine eL (a8 0 rfl) λ ⟨_,_,hAl,hll⟩=>?_;obtain⟨bl,hAl⟩:=bQ hAl hll;obtain rfl:=hAl (by intro h0;have:=bI f;rw[h0] at this;simp only[GX] at this;exact hne (GT.1 (by omega)));refine ai ⟨⟨[1],by decide,rfl⟩,?_⟩;refine bS 7 [] (by decide+kernel) (by decide) ⟨⟨_,rfl,?_⟩,an⟩;refine di (n:=n+1) (c:=n+1) rfl rfl rfl rfl rfl rfl (by omega) (by omega) (by omega) (λ _=>rfl) λ go=>?_;rw[show made [Value.slice none 0 0] ((n+1)*1)=(List.replicate (n+1) dx).map cA by rw[dm,Hf,HY];rfl];refine ai ⟨⟨[2],by decide,rfl⟩,?_⟩;refine bS 8 [] (by decide+kernel) (by decide) ⟨⟨_,rfl,?_⟩,an⟩;refine ab [] (be rfl rfl rfl rfl rfl rfl) rfl ?_;refine ai ⟨⟨[2],by decide,rfl⟩,?_⟩;refine bS 9 [] (by decide+kernel) (by decide) ⟨⟨_,rfl,?_⟩,an⟩;refine bz (cs:=lH N (some ⟨b,o,none⟩) c (some ⟨bl,0,none⟩) f.length cl vv (some ⟨go,0,none⟩) (n+1) (n+1) 0) rfl rfl rfl (λ _=>rfl) λ pw=>?_;refine ai ⟨⟨[3],by decide,rfl⟩,?_⟩;refine bS 10 [] (by decide+kernel) (by decide) ⟨⟨_,rfl,?_⟩,an⟩;refine ae [] rfl ?_;refine⟨⟨[3],by decide,rfl⟩,?_⟩;exact kX (by decide+kernel) ⟨(pw,bl,cl,go),⟨rfl,rfl,an⟩,aF.picks [0,1,2,3,4] (by decide) rfl⟩
  ·refine di (n:=n+1) (c:=n+1) rfl rfl rfl rfl rfl rfl (by omega) (by omega) (by omega) (λ _=>rfl) λ go=>?_;rw[show made [Value.slice none 0 0] ((n+1)*1)=(List.replicate (n+1) dx).map cA by rw[dm,Hf,HY];rfl];refine ai ⟨⟨[1],by decide,rfl⟩,?_⟩;refine bS 2 [] (by decide+kernel) (by decide) ⟨⟨_,rfl,?_⟩,an⟩;refine ao (fst:=[]) (cap:=[]) [] (fm (some ⟨bf,of,none⟩) cf bf of f (λ _=>rfl) (by omega)) rfl (by kernel_rfl) ⟨⟨3,_,by simp,rfl,ak _ _ _,au⟩,an⟩ (λ _=>rfl) ?_;rintro u H' ⟨Al,cl,rfl,rfl⟩;refine⟨rfl,?_⟩;refine eL (a8 0 rfl) λ ⟨_,_,hAl,hll⟩=>?_;obtain⟨bl,hAl⟩:=bQ hAl hll;obtain rfl:=hAl (by intro h0;have:=bI f;rw[h0] at this;simp only[GX] at this;exact hne (GT.1 (by omega)));refine ai ⟨⟨[2],by decide,rfl⟩,?_⟩;refine bS 8 [] (by decide+kernel) (by decide) ⟨⟨_,rfl,?_⟩,an⟩;refine ab [] (be rfl rfl rfl rfl rfl rfl) rfl ?_;refine ai ⟨⟨[2],by decide,rfl⟩,?_⟩;refine bS 9 [] (by decide+kernel) (by decide) ⟨⟨_,rfl,?_⟩,an⟩;refine bz (cs:=lH N (some ⟨b,o,none⟩) c (some ⟨bl,0,none⟩) f.length cl vv (some ⟨go,0,none⟩) (n+1) (n+1) 0) rfl rfl rfl (λ _=>rfl) λ pw=>?_;refine ai ⟨⟨[3],by decide,rfl⟩,?_⟩;refine bS 10 [] (by decide+kernel) (by decide) ⟨⟨_,rfl,?_⟩,an⟩;refine ae [] rfl ?_;refine⟨⟨[3],by decide,rfl⟩,?_⟩;exact kX (by decide+kernel) ⟨(pw,bl,cl,go),⟨rfl,rfl,an⟩,aF.picks [0,2,1,3,4] (by decide) rfl⟩
 rintro⟨pw,bl,cl,go⟩;refine ad (ad (aa (ah [] rfl ?_)));refine ab [] (v:=.slice (some ⟨b,o,none⟩) N.arcs.length c) (af 3 rfl) rfl ?_;refine ae [] rfl ?_;refine av ?_;refine bH (aF.nils 3 (n+1)) ?_
 refine b8 (σ:=Nat×List ec) (λ s=>[(34,.int .i64 (s.1:Int)),(33,.int .i64 (N.arcs.length:Int)),(32,.slice (some ⟨b,o,none⟩) N.arcs.length c),(8,.pointer (some ⟨pw,0,none⟩)),(2,.pointer (some ⟨p,0,none⟩))])
  (λ s=>[blk pw 256 (lH N (some ⟨b,o,none⟩) c (some ⟨bl,0,none⟩) f.length cl vv (some ⟨go,0,none⟩) (n+1) (n+1) 0),.own (.slice (some ⟨go,0,none⟩) (n+1) (n+1)) 23 1 (n+1) (s.2.map cA),.own (.slice (some ⟨bl,0,none⟩) f.length cl) 2 1 f.length (ay f),blk p 33 (bJ N (some ⟨b,o,none⟩) c),.seg b o (arcs N.arcs)]++s.2.map (aV 3))
  (λ s=>s.1<=N.arcs.length/\s.2.length=n+1/\∀ (v:Nat) (r:ec),s.2[v]?=some r->r.l=(zG N (v:Int) s.1).map λ (i:Nat)=>(i:Int)) (λ s=>N.arcs.length-s.1)
  (0,List.replicate (n+1) dx) ⟨rfl,rfl,rfl,rfl,rfl,an⟩ aF.refl ⟨GI _,by simp,λ v r h=>?_⟩ ?_
 ·rw[GU] at h;split at h
  ·simp only[GA] at h;subst h;rfl
  ·cases h
 rintro⟨k,rows⟩ ⟨hk,hrows,htr⟩;simp only at hk hrows htr ⊢;refine ad (aa (ae [] rfl ?_));refine ad (aC rfl (λ hlt=>aq ?_) (λ hge=>a9 ?_))
 ·have hlt:k<N.arcs.length:=by omega
  obtain⟨a,ha⟩:∃ a,N.arcs[k]?=some a:=⟨_,Gy hlt⟩;have har:=hR.arc a (GB ha);obtain⟨v,hv⟩:∃ v:Nat,a.fr=v:=⟨a.fr.toNat,by omega⟩;have hvn:v<rows.length:=by omega
  obtain⟨row,hrow⟩:∃ r,rows[v]?=some r:=⟨rows[v],Gy hvn⟩;have hrl':=htr v row hrow;have hokl:=zP N (v:Int) k;have hrowl:row.l.length=(zG N (v:Int) k).length:=by rw[hrl',GH]
  refine ad (av ?_);refine ad (aa (ah [] rfl ?_));refine ab [] (eo rfl hlt) rfl ?_;refine ab [] (bc 4 rfl rfl (fX ha)) rfl ?_;refine ah [] rfl ?_;refine bu rfl rfl rfl (λ _=>rfl) λ p10=>?_;refine ah [] rfl ?_;refine aB 0 rfl [] rfl ?_;refine ai ?_;show J _ _ _ _ ([blk p10 37 [.int .i64 a.fr,.int .i64 a.to,.int .i64 a.cap],_,_,_,_,_]++rows.map (aV 3));rw[hv];refine bH (aF.front (i:=v) (c:=aV 3 row) (by rw[GJ,hrow];rfl)) ?_;refine bq 18 (cY [0,1,2,3,4,5,6,7,8,9,10,11,12,13,14]++[(15,false),(16,false)]++cY [17]) [1,2,3] (by kernel_rfl) (by decide) rfl ?_;refine az [] rfl ?_;refine aj [] rfl (af (v:=.slice (some ⟨go,0,none⟩) (n+1) (n+1)) 1 rfl) rfl ?_;refine az [] rfl ?_;refine aj [] rfl (af (v:=.int .i64 (v:Int)) 0 rfl) rfl ?_;refine az [] rfl ?_;refine aj [] rfl (af (v:=.slice (some ⟨go,0,none⟩) (n+1) (n+1)) 1 rfl) rfl ?_;refine az [] rfl ?_;refine aj [] rfl (af (v:=.int .i64 (v:Int)) 0 rfl) rfl ?_;refine aj [] rfl (aG rfl (by omega)) rfl ?_;refine aj [] rfl (aE (v:=cA row) 2 rfl rfl rfl (show (rows.map cA)[v]?=some (cA row) by rw[GJ,hrow];rfl)) rfl ?_;refine az [] rfl ?_;refine aY rfl ?_;refine bC rfl rfl rfl rfl rfl rfl rfl (λ _=>rfl) λ g2=>?_;refine ai ⟨⟨[2,3,4],by decide,rfl⟩,?_⟩;refine aY rfl ?_;refine bn (n:=row.l.length) (m:=1) (off:=0) (news:=ay [(k:Int)]) 1 0 rfl rfl rfl rfl rfl rfl (by decide) rfl rfl (aD g2 _ _ (0,0)) (λ _=>rfl) rfl rfl (by omega) (by omega) (λ _ _=>rfl) λ A2 c2=>?_;rw[show row.l.length+1=(row.l++[(k:Int)]).length by simp,show ay row.l++ay [(k:Int)]=ay (row.l++[(k:Int)]) by simp[ay]];refine ai ⟨⟨[2,3,4],by decide,rfl⟩,?_⟩;refine aj [] rfl (aG rfl (by omega)) rfl ?_;refine bp ?_;refine aS 4 rfl rfl rfl rfl (dC rfl rfl rfl (by rw[GH];omega)) [] rfl ?_;refine ai ?_;refine aa (ae [] rfl ?_);refine⟨(k+1,rows.set v ⟨A2,c2,row.l++[(k:Int)]⟩),⟨?_,rfl,rfl,rfl,rfl,an⟩,?_,⟨by simp only;omega,by simp only[Hp];omega,λ u q hu=>?_⟩,by simp only;omega⟩
  ·show some (Value.int .i64 (IntKind.i64.wrap ((k:Int)+1)))=_;rw[b5 (by omega)];rfl
  ·simp only[Iv];refine aF.trans (aF.sub (Hg _ _)) (aF.trans (aF.back (A:=[_,_,_,_,_,_]) (by rw[GH];exact hvn)) (aF.re [1,2,3,4,5] rfl (by decide)))
  ·simp only at hu ⊢;rw[yA ha,G5];by_cases huv:v=u
   ·subst huv;rw[GO hvn] at hu;simp only[GA] at hu;rw[<- hu,if_pos hv,hrl'];rfl
   ·rw[GR huv] at hu;rw[if_neg (λ e=>huv (by omega)),HC,Hc];exact htr u q hu
 obtain rfl:k=N.arcs.length:=by omega
 refine bv (p:=∀ v:Nat,∃ gv:Nat,∀ row,rows[v]?=some row->row.l.length<=row.c/\(ay row.l≠[]->row.A=some ⟨gv,0,none⟩)) (λ w hw v=>?_) λ hrowA=>?_
 ·cases hv:rows[v]? with
  |none=>exact⟨0,λ row h=>by cases h⟩
  |some row=>
   obtain⟨_,h2,h3,h4⟩:=a8 (X:=⟨w0,[],⟨0,[]⟩⟩) (v+5) (show _=some (aV 3 row) by show (rows.map (aV 3))[v]?=_;rw[GJ,hv];rfl) w hw;obtain⟨gv,hgv⟩:=bQ h3 h4;exact⟨gv,λ row' h=>by simp only[GA] at h;subst h;exact⟨h2,hgv⟩⟩
 obtain⟨gv,hgv⟩:∃ gv:Nat->Nat,∀ (v:Nat) (row:ec),rows[v]?=some row->row.l.length<=row.c/\(ay row.l≠[]->row.A=some ⟨gv v,0,none⟩):=⟨λ v=>Classical.choose (hrowA v),λ v=>IA (hrowA v)⟩
 clear hrowA
 have hV0:oY rows gv (List.replicate (n+1) 0) (rows.map cA):=by
  refine⟨by simp,λ v row q hr hq=>?_⟩;rw[GU] at hq;split at hq
  ·obtain rfl:=G4 hq;refine⟨row.A,row.c,by rw[GJ,hr];rfl,(hgv v row hr).1,λ hlt=>(hgv v row hr).2 (λ h0=>?_)⟩;have:=bI row.l;rw[h0] at this;simp only[GX] at this;omega
  ·cases hq
 have hD0:=ux.start N f n;have hL:∀ (v:Nat) (row:ec),rows[v]?=some row->row.l=(fv N (v:Int)).map λ (i:Nat)=>(i:Int):=htr;obtain⟨w1,hw1⟩:∃ w1:Wk,w1=⟨f,vv⟩:=⟨_,rfl⟩
 have hw1s:w1.size<=2001:=by
  have:l0 w1.left<=w1.left.length:=List.countP_le_length;have e:w1.left.length=f.length:=by rw[hw1]
  unfold Wk.size;split<;>omega
 have hOK:w1.OK N:=by subst hw1;exact⟨hflow,hvv.symm⟩
 refine ad (aa (ae [] rfl ?_));refine ad (av ?_);refine cd 235 3 ?_
 refine b8 (σ:=List (Int×ec×Int)×List (Int×LN×Int)×Wk×LN×LV_×Nat×OA×Nat) (λ s=>[(11,.slice s.2.2.2.2.2.2.1 s.1.length s.2.2.2.2.2.2.2),(8,.pointer (some ⟨pw,0,none⟩)),(2,.pointer (some ⟨p,0,none⟩))])
  (λ s=>[.own (.slice s.2.2.2.2.2.2.1 s.1.length s.2.2.2.2.2.2.2) 235 3 s.1.length (mR s.1),blk pw 256 (lH N (some ⟨b,o,none⟩) c (some ⟨bl,0,none⟩) s.2.2.1.left.length cl s.2.2.1.val (some ⟨go,0,none⟩) (n+1) (n+1) (s.2.2.2.2.2.1:Nat)),.own (.slice (some ⟨go,0,none⟩) (n+1) (n+1)) 23 1 (n+1) s.2.2.2.2.1,.own (.slice (some ⟨bl,0,none⟩) s.2.2.1.left.length cl) 2 1 s.2.2.1.left.length (ay s.2.2.1.left),blk p 33 (bJ N (some ⟨b,o,none⟩) c),.seg b o (arcs N.arcs)]++(rows.map (aV 3)++s.1.map λ x=>aV 3 x.2.1))
  (λ s=>s.2.2.1.OK N/\oY rows gv s.2.2.2.1 s.2.2.2.2.1/\ux N s.2.2.1.left n s.2.2.2.1/\s.2.2.2.2.2.1<=s.2.2.1.left.length/\(∀ j x,j<s.2.2.2.2.2.1->s.2.2.1.left[j]?=some x->fS x=false)/\s.1.map (λ x=>(x.1,x.2.1.l,x.2.2))=s.2.1.map (λ y=>(y.1,y.2.1.map (λ (i:Nat)=>(i:Int)),y.2.2))/\s.2.1++jg N s.2.2.1=jg N w1/\s.1.length+s.2.2.1.size<=w1.size) (λ s=>s.2.2.1.size)
  ([],[],w1,List.replicate (n+1) 0,rows.map cA,0,none,0) ⟨rfl,rfl,rfl,an⟩ (by subst hw1;simp only[HC,Hc];exact aF.refl) ⟨hOK,hV0,by subst hw1;exact hD0,GI _,λ j x h=>absurd h (Nat.not_lt_zero _),rfl,rfl,by simp⟩ ?_
 rintro⟨its,ps,w,pos,vals,k,Ai,ci⟩ ⟨hw,hV,hD,hk2,hbef,hits,hps,hsum⟩;simp only at hw hV hD hk2 hbef hits hps hsum ⊢;have hwl:=hw.flow.len;refine bv (a8 3 rfl) λ ⟨_,hcl,_,_⟩=>?_;refine ad (ad (aa (ah [] rfl ?_)));refine aw (fst:=[]) (cap:=[]) [] (u6 N (some ⟨b,o,none⟩) c w.left (by omega) (some ⟨bl,0,none⟩) cl bl hcl (λ _=>rfl) w.val (some ⟨go,0,none⟩) (n+1) (n+1) k hk2 hbef pw) rfl rfl rfl rfl (by kernel_rfl) (K:=[.own (.slice Ai its.length ci) 235 3 its.length (mR its),.own (.slice (some ⟨go,0,none⟩) (n+1) (n+1)) 23 1 (n+1) vals,.own (.slice (some ⟨bl,0,none⟩) w.left.length cl) 2 1 w.left.length (ay w.left),blk p 33 (bJ N (some ⟨b,o,none⟩) c),.seg b o (arcs N.arcs)]++(rows.map (aV 3)++its.map λ x=>aV 3 x.2.1)) (aF.re (A1:=[blk pw 256 (lH N (some ⟨b,o,none⟩) c (some ⟨bl,0,none⟩) w.left.length cl w.val (some ⟨go,0,none⟩) (n+1) (n+1) (k:Nat)),.own (.slice Ai its.length ci) 235 3 its.length (mR its),.own (.slice (some ⟨go,0,none⟩) (n+1) (n+1)) 23 1 (n+1) vals,.own (.slice (some ⟨bl,0,none⟩) w.left.length cl) 2 1 w.left.length (ay w.left),blk p 33 (bJ N (some ⟨b,o,none⟩) c),.seg b o (arcs N.arcs)]) (R:=rows.map (aV 3)++its.map λ x=>aV 3 x.2.1) [1,0,2,3,4,5] rfl (by decide)) ⟨⟨2,_,by simp,rfl,cD,.inr rfl⟩,an⟩ (λ _=>rfl) ?_;rintro u H' ⟨rfl,rfl⟩;refine⟨rfl,?_⟩;refine ae [] rfl ?_;refine aC rfl (λ hp=>aq ?_) (λ hp=>a9 ?_)
 ·have hp:bF w.left<w.left.length:=hp;obtain⟨ok2,hsz,hmp,hP,hme⟩:=ma hR hw hp;have hfall:=zr hR hw hp;refine av ?_;show J _ _ _ _ ([_,_,_,_,_,_]++(rows.map (aV 3)++its.map fun x=>aV 3 x.2.1));refine aa (ah [] rfl ?_);refine aw (fst:=[]) (cap:=[]) [] (Cn N hR (some ⟨b,o,none⟩) c b o (fun _=>rfl) w hw hp cl bl go n hn pw rows hrows hL gv (fun v row h=>(hgv v row h).2) pos vals hV hD) rfl rfl rfl rfl (by kernel_rfl) (aF.mid3 (R:=rows.map (aV 3)) (I:=its.map fun x=>aV 3 x.2.1) [0,2,3] [1,4,5] rfl rfl (by decide)) ⟨⟨2,_,by simp,rfl,ak _ _ _,au⟩,trivial⟩ (fun _=>rfl) ?_;rintro u H' ⟨pos2,vals2,A4,c4,hV2,hD2,rfl,rfl⟩;refine⟨cT rfl (cI _ rows),?_⟩;refine bX aF.ret3 ?_;refine ah [] rfl ?_;obtain⟨row,hrow⟩:∃ row:ec,row=⟨A4,c4,(e7 N w).2.1.map fun (i:Nat)=>(i:Int)⟩:=⟨_,rfl⟩;have hrowl:row.l.length=(e7 N w).2.1.length:=by rw[hrow,List.length_map]
  have hrowV:Value.slice A4 (e7 N w).2.1.length c4=cA row:=by unfold cA;rw[hrowl,hrow]
  have hrowC:aR.own (.slice A4 (e7 N w).2.1.length c4) 3 1 (e7 N w).2.1.length (bO (e7 N w).2.1)=aV 3 row:=by unfold aV;rw[<- hrowV,hrowl,hrow];rfl
  rw[hrowC,hrowV];refine bC rfl rfl rfl rfl rfl rfl rfl (λ _=>rfl) λ g8=>?_;refine bn (n:=its.length) (m:=1) (off:=0) (news:=[Value.int .u8 (e7 N w).1,cA row,Value.int .i64 (e7 N w).2.2]) 5 0 rfl rfl rfl rfl rfl rfl (by decide) rfl rfl (aD g8 _ _ (0,0)) (λ _=>rfl) rfl rfl (by omega) (by omega) (λ _ _=>rfl) λ A7 c7=>?_;rw[Dt its ((e7 N w).1,row,(e7 N w).2.2),show its.length+1=(its++[((e7 N w).1,row,(e7 N w).2.2)]).length by simp];refine ae [] rfl ?_;have hlen2:=(hfall 0).2;have hsp:=tY hR hw hp;refine⟨(its++[((e7 N w).1,row,(e7 N w).2.2)],ps++[e7 N w],ve N w,pos2,vals2,bF w.left,A7,c7),⟨rfl,rfl,rfl,an⟩,?_,⟨ok2,hV2,hD2.fall λ i=>(hfall i).1,by simp only;omega,zy hlen2 (λ i=>(hfall i).1) λ j x hj hx=>vC hj hx,?_,?_,by simp only[GE,GG,GX];omega⟩,by simp only;omega⟩
  ·simp only[G5,GM,HC];rw[hlen2];exact (show aF _ ([_,_,_,_,_,_,_,_]++(rows.map (aV 3)++its.map λ x=>aV 3 x.2.1)) _ from (aF.re [1,5,2,3,4,6,7] rfl (by decide))).trans aF.give
  ·simp only[G5,GM,HC];rw[hits,hrow]
  ·simp only;rw[<- hps,hsp,Hd];rfl
 have hp:¬ bF w.left<w.left.length:=hp;rw[tD hp,Hc,hw1,hvv] at hps;refine ad (aa (ae [] rfl ?_));show J _ _ _ _ ([_,_,_,_,_,_]++(rows.map (aV 3)++its.map λ x=>aV 3 x.2.1));refine bH ((aF.re [1] rfl (by decide)).trans (aF.sub (List.Sublist.append_left (List.sublist_append_right (rows.map (aV 3)) (its.map λ x=>aV 3 x.2.1)) _))) ?_;exact ax ⟨_,rfl,its,Ai,ci,by rw[hits,hps],rfl,rfl⟩
end Go.Proofs.YtmcnpaelaieniaaGreatDoor
