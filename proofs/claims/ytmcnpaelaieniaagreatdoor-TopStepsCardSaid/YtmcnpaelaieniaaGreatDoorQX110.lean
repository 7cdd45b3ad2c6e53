import Derived.Test.YtmcnpaelaieniaaGreatDoorQX108
import Derived.Test.YtmcnpaelaieniaaGreatDoorQF
import Derived.Test.YtmcnpaelaieniaaGreatDoorQX105
import Derived.Test.YtmcnpaelaieniaaGreatDoorQX115
/- A part of the proof; see NOTES.md. -/
set_option linter.unusedVariables false
set_option linter.unusedSimpArgs false
namespace Go.Proofs.YtmcnpaelaieniaaGreatDoor
open Go.RowKit
structure fD (m:Int) (l:LI):Prop where
 rise:l.Pairwise (·<·)
 rng:∀ x∈l,1<=x/\x<=m
theorem fD.snoc{m:Int}{l:LI}{x:Int}:fD m (l++[x])↔fD m l/\(∀ y∈l,y<x)/\1<=x/\x<=m:=by
 constructor
 ·intro h;obtain⟨h1,_,h3⟩:=H4.1 h.rise;have hx:=h.rng x (by simp);exact⟨⟨h1,λ y hy=>h.rng y (by simp[hy])⟩,λ y hy=>h3 y hy x (by simp),hx.1,hx.2⟩
 ·rintro⟨h,h1,h2,h3⟩;refine⟨u4 h.rise h1,λ y hy=>?_⟩
  rcases GK.1 hy with hy|hy
  ·exact h.rng y hy
  ·rw[GF.1 hy];exact⟨h2,h3⟩
open Classical in
noncomputable def nQ(N:aO)(s:LI):Int:=if ¬ fD N.nodes s then 1 else if N.src∈s/\N.snk∉s then 0 else 9
theorem nS{N:aO}{s:LI}(h:¬ fD N.nodes s):nQ N s=1:=by unfold nQ;rw[if_pos h]
theorem nW{N:aO}{s:LI}(h:fD N.nodes s)(k:¬ (N.src∈s/\N.snk∉s)):nQ N s=9:=by unfold nQ;rw[if_neg (λ n=>n h),if_neg k]
theorem y6{N:aO}{s:LI}:nQ N s=0↔fu N s:=by
 constructor
 ·intro h;by_cases h1:fD N.nodes s
  ·by_cases h2:N.src∈s/\N.snk∉s
   ·exact⟨h1.rise,h1.rng,h2.1,h2.2⟩
   ·rw[nW h1 h2] at h;exact absurd h (by decide)
  ·rw[nS h1] at h;exact absurd h (by decide)
 ·intro h;unfold nQ;rw[if_neg (λ n=>n ⟨h.rise,h.rng⟩),if_pos ⟨h.src,h.snk⟩]
theorem sZ{m:Int}{l r:LI}{x:Int}(h:fD m (l++x::r)):(l.getLast?.getD 0)<x/\x<=m:=by
 have hx:=h.rng x (by simp);refine⟨?_,hx.2⟩
 cases hl:l.getLast? with
 |none=>show (0:Int)<x;omega
 |some y=>exact (H4.1 h.rise).2.2 y (HQ hl) x (by simp)
theorem BE{m:Int}{l:LI}(h:fD m l):∀ y∈l,y<=l.getLast?.getD 0:=by
 intro y hy
 rcases Ht l with rfl|⟨q,z,rfl⟩
 ·exact absurd hy GV
 ·rw[Hu] at*;rw[Hl];show y<=z
  rcases GK.1 hy with hy|hy
  ·have:=(H4.1 h.rise).2.2 y hy z (by simp);omega
  ·rw[GF.1 hy];omega
set_option maxHeartbeats 1000000 in
theorem tK(N:aO)(hN:N.Fits)(hR:N.Right)(A:OA)(c b o:Nat)(hA:N.arcs≠[]->A=some ⟨b,o,none⟩)(s:LI)(hs:¬ fu N s)(hsl:s.length<=100000)(S:OA)(cs bs os:Nat)(hS:s≠[]->S=some ⟨bs,os,none⟩):
 Fn 97 [bx N A c,.slice S s.length cs] [] [.seg b o (arcs N.arcs),.seg bs os (ay s)] λ v H'=>v=.tuple #[.slice none 0 0,.int .i64 (nQ N s)]/\H'=[]:=by
 have hl2:=hR.len;have hnn:=hR.nodes;refine aH Tryz.func97 rfl rfl λ w0=>?_;refine ad (aa ?_);refine bz (cs:=bJ N A c) rfl rfl rfl (λ _=>rfl) λ p=>?_;refine ae [] rfl ?_;refine ad (ad (aa ?_));refine ab [] (v:=bx N A c) (af 0 rfl) rfl ?_;refine ao [] (iz N hN A c b o hA) rfl (by kernel_rfl) ⟨⟨1,_,by simp,rfl,ak _ _ _,au⟩,an⟩ (λ _=>rfl) ?_;rintro v H' ⟨rfl,rfl⟩;refine⟨rfl,?_⟩;rw[hR.check];refine ae [] rfl ?_;refine ad (aa (ae [] rfl ?_));refine aC rfl (λ h=>absurd rfl h) (λ _=>aq ?_);refine ad (aa ?_);refine mt rfl (λ _=>rfl) λ bm=>?_;refine ae [] rfl ?_;refine ad (aa (ae [] rfl ?_));refine ad (ad (aa (ae [] rfl ?_)));refine av ?_
 refine bP (σ:=Nat) (λ k=>[(22,.int .i64 k),(21,.int .i64 s.length),(20,.slice S s.length cs),(8,.int .i64 ((s.take k).getLast?.getD 0)),(7,.map (some bm)),(2,.pointer (some ⟨p,0,none⟩))])
  (λ k=>[.obj bm (gR (ju (s.take k))),blk p 33 (bJ N A c),.seg b o (arcs N.arcs),.seg bs os (ay s)]) (λ k=>k<=s.length/\fD N.nodes (s.take k)) (λ k=>s.length-k)
  0 [0,1,2,3] ⟨rfl,rfl,rfl,rfl,rfl,rfl,an⟩ (by decide) rfl ⟨GI _,⟨by simp,by simp⟩⟩ ?_
 rintro k ⟨hk,hI⟩;refine ad (aa (ae [] rfl ?_));refine ad (aC rfl (λ hlt=>aq ?_) (λ hge=>a9 ?_))
 ·have hlt:k<s.length:=by omega
  obtain rfl:=hS (by rintro rfl;simp at hlt);obtain⟨x,hx⟩:∃ x,s[k]?=some x:=⟨s[k],Gy hlt⟩
  have hsx:s=s.take k++x::s.drop (k+1):=by
   have:s.drop k=x::s.drop (k+1):=by rw[Hm hlt];rw[(GC.1 hx).2]
   rw[<- this,HD]
  have htk:s.take (k+1)=s.take k++[x]:=by rw[GW,hx];rfl
  refine ad (av ?_);refine ad (aa (ah [] rfl ?_));refine ab [] (bZ rfl hlt) rfl ?_;refine ab [] (bc 3 rfl rfl (bi hx)) rfl ?_;refine ae [] rfl ?_;refine ad (ad (aa (ah [] rfl ?_)));by_cases h1:x<=(s.take k).getLast?.getD 0
  ·refine bj 29 rfl h1 ?_;refine ah [3] rfl ?_;refine ai ?_;refine bh rfl ?_;refine ad (aa (ae [] rfl ?_));refine aA [] (by decide) rfl (ax ⟨_,rfl,?_,rfl⟩);rw[nS (λ h=>by rw[hsx] at h;have:=(sZ h).1;omega)];rfl
  refine bd 29 rfl h1 ?_;refine ah [3] rfl ?_;refine ab [3] (af 1 rfl) rfl ?_;refine ae [3] rfl ?_;refine aC rfl (λ h=>?_) (λ h=>aq ?_)
  ·refine ad (aa (ae [] rfl ?_));refine aA [] (by decide) rfl (ax ⟨_,rfl,?_,rfl⟩);rw[nS (λ h'=>by rw[hsx] at h';have:=(sZ h').2;omega)];rfl
  have hless:∀ y∈s.take k,y<x:=λ y hy=>by have:=BE hI y hy;omega
  have hnew:fD N.nodes (s.take (k+1)):=by
   rw[htk,fD.snoc]
   have h0:0<=(s.take k).getLast?.getD 0:=by
    cases hl:(s.take k).getLast? with
    |none=>exact HO _
    |some y=>have:=hI.rng y (HQ hl);show 0<=y;omega
   exact⟨hI,hless,by omega,by omega⟩
  refine aa (ah [] rfl ?_);refine lZ 0 Tryz.underlying205 Tryz.underlying3 rfl rfl rfl rfl rfl (λ q hq=>?_) [] rfl ?_
  ·obtain⟨y,hy,rfl⟩:=G0.1 hq;have:=hless y hy;show y≠x;omega
  refine ae [] rfl ?_;refine aa (ae [] rfl ?_);refine⟨k+1,[0,1,2,3],⟨?_,rfl,rfl,?_,rfl,rfl,an⟩,by decide,?_,⟨by omega,hnew⟩,by omega⟩
  ·show some (Value.int .i64 (IntKind.i64.wrap ((k:Int)+1)))=_;rw[b5 (by omega)];rfl
  ·rw[htk,Hl];rfl
  ·rw[htk];unfold ju;rw[G5];rfl
 ·have hk':k=s.length:=by omega
  subst hk';rw[G8] at hI ⊢;have hbad:¬ (N.src∈s/\N.snk∉s):=λ h=>hs ⟨hI.rise,hI.rng,h.1,h.2⟩;refine ad (ad (aa (ah [] rfl ?_)));refine ab [] (af 1 rfl) rfl ?_;refine ab [] (dF 0 Tryz.underlying205 Tryz.underlying3 rfl rfl rfl rfl rfl) rfl ?_;by_cases h1:N.src∈s
  ·refine aI 42 (v':=.bool true) rfl (by rw[cz,aT h1]) ?_;refine ah [] rfl ?_;refine aI 44 (v':=.bool false) rfl rfl ?_;refine ah [5] rfl ?_;refine ab [5] (af 1 rfl) rfl ?_;refine ab [5] (dF 0 Tryz.underlying205 Tryz.underlying3 rfl rfl rfl rfl rfl) rfl ?_;refine aI 48 (v':=.bool true) rfl (by rw[cz,aT (GQ.1 λ h=>hbad ⟨h1,h⟩)]) ?_;refine ae [5] rfl ?_;refine bh rfl ?_;refine ad (aa (ae [] rfl ?_));refine aA [] (by decide) rfl (ax ⟨_,rfl,?_,rfl⟩);rw[nW hI hbad];rfl
  ·refine aI 42 (v':=.bool false) rfl (by rw[cz,aZ h1]) ?_;refine ah [] rfl ?_;refine aI 44 (v':=.bool true) rfl rfl ?_;refine ah [5] rfl ?_;refine ai ?_;refine bh rfl ?_;refine ad (aa (ae [] rfl ?_));refine aA [] (by decide) rfl (ax ⟨_,rfl,?_,rfl⟩);rw[nW hI hbad];rfl
open Classical in
noncomputable def Df(N:aO)(s:LI):Int×Int:=if fu N s then (jb s N.arcs,0) else (0,nQ N s)
theorem rU(N:aO)(hN:N.Fits)(hR:N.Right)(A:OA)(c b o:Nat)(hA:N.arcs≠[]->A=some ⟨b,o,none⟩)(s:LI)(hsl:s.length<=100000)(S:OA)(cs bs os:Nat)(hS:s≠[]->S=some ⟨bs,os,none⟩):
 Fn 59 [bx N A c,.slice S s.length cs] [] [.seg b o (arcs N.arcs),.seg bs os (ay s)] λ v H'=>v=qI (Df N s)/\H'=[]:=by
 by_cases hs:fu N s
 ·unfold Df;rw[if_pos hs];exact oy N hN hR A c b o hA s hs hsl S cs bs os hS
 unfold Df;rw[if_neg hs];refine aH Tryz.func59 rfl rfl λ w0=>?_;refine ad (aa ?_);refine bz (cs:=bJ N A c) rfl rfl rfl (λ _=>rfl) λ p=>?_;refine ae [] rfl ?_;refine ad (aa ?_);refine ab [] (v:=bx N A c) (af 0 rfl) rfl ?_;refine ah [] rfl ?_;refine ao [] (tK N hN hR A c b o hA s hs hsl S cs bs os hS) rfl (by kernel_rfl) ⟨⟨1,_,by simp,rfl,ak _ _ _,au⟩,⟨2,_,by simp,rfl,ak _ _ _,au⟩,an⟩ (λ _=>rfl) ?_;rintro v H' ⟨rfl,rfl⟩;refine⟨rfl,?_⟩;refine ae [] rfl ?_;refine ad (aa (ae [] rfl ?_));refine ad (ad (aa (ae [] rfl ?_)));refine av ?_;refine bP (σ:=Unit) (λ _=>[(19,.int .i64 0),(18,.int .i64 0),(8,.int .i64 0),(7,.int .i64 (nQ N s))]) (λ _=>[]) (λ _=>True) (λ _=>0) () [] ⟨rfl,rfl,rfl,rfl,an⟩ (by decide) rfl an ?_;intro _ _;refine ad (aa (ae [] rfl ?_));refine ad (aC rfl (λ hlt=>absurd hlt (by decide)) (λ hge=>a9 ?_));refine ad (aa (ae [] rfl ?_));exact aA [] (by decide) rfl (ax ⟨_,rfl,rfl,rfl⟩)
open Classical in
noncomputable def ou(N:aO)(f s:LI):Int:=if aK N f then (if fu N s then (if da (N.arcs.zip f) N.snk=jb s N.arcs then 0 else 8) else nQ N s) else el N f
theorem zc(N:aO)(hN:N.Fits)(hR:N.Right)(A:OA)(c b o:Nat)(hA:N.arcs≠[]->A=some ⟨b,o,none⟩)(f:LI)(hfi:∀ x∈f,bU x)(hfl:f.length*8<=140737488351232)(F:OA)(cf bf of:Nat)(hF:f≠[]->F=some ⟨bf,of,none⟩)
 (s:LI) (hsl:s.length<=100000) (S:OA) (cs bs os:Nat) (hS:s≠[]->S=some ⟨bs,os,none⟩):
 Fn 129 [bx N A c,.slice F f.length cf,.slice S s.length cs] [] [.seg b o (arcs N.arcs),.seg bf of (ay f),.seg bs os (ay s)] λ v H'=>v=.int .i64 (ou N f s)/\H'=[]:=by
 unfold ou;by_cases hfs:aK N f/\fu N s
 ·rw[if_pos hfs.1,if_pos hfs.2];exact AH N hN hR A c b o hA f hfs.1 F cf bf of hF s hfs.2 hsl S cs bs os hS
 refine aH Tryz.func129 rfl rfl λ w0=>?_;refine ad (aa ?_);refine bz (cs:=bJ N A c) rfl rfl rfl (λ _=>rfl) λ p=>?_;refine ae [] rfl ?_;refine ad (aa ?_);refine ab [] (v:=bx N A c) (af 0 rfl) rfl ?_;refine ah [] rfl ?_;refine ao [] (eY N hN hR A c b o hA f F cf bf of hF hfi hfl) rfl (by kernel_rfl) ⟨⟨1,_,by simp,rfl,ak _ _ _,au⟩,⟨2,_,by simp,rfl,ak _ _ _,au⟩,an⟩ (λ _=>rfl) ?_;rintro v H' ⟨⟨rfl,hf⟩|⟨rfl,hf⟩,rfl⟩
 case inr=>
  refine⟨rfl,?_⟩;refine ae [] rfl ?_;refine ad (ad (aa (ae [] rfl ?_)));refine aC rfl (λ h=>?_) (λ h=>absurd (cX.1 (GQ.1 h)) hf);refine ad (aa (ae [] rfl ?_));refine aA [] (by decide) rfl (ax ⟨_,rfl,?_,rfl⟩);rw[if_neg hf];rfl
 have hs:¬ fu N s:=λ h=>hfs ⟨hf,h⟩;have T:=rU N hN hR A c b o hA s hsl S cs bs os hS;unfold Df at T;rw[if_neg hs] at T;rw[if_pos hf,if_neg hs];refine⟨rfl,?_⟩;refine ae [] rfl ?_;refine ad (ad (aa (ae [] rfl ?_)));refine aC rfl (λ h=>absurd rfl h) (λ _=>aq ?_);refine ad (aa ?_);refine ab [] (v:=bx N A c) (af 0 rfl) rfl ?_;refine ah [] rfl ?_;refine cL [] T rfl rfl rfl rfl (by kernel_rfl) ⟨⟨1,_,by simp,rfl,ak _ _ _,au⟩,⟨3,_,by simp,rfl,ak _ _ _,au⟩,an⟩ (λ _=>rfl) ?_;rintro v H' ⟨rfl,rfl⟩;refine⟨rfl,?_⟩;refine ae [] rfl ?_;refine ad (av (ad (aa (ae [] rfl ?_))));refine aC rfl (λ h=>?_) (λ h=>absurd (y6.1 (GQ.1 h)) hs);refine ad (aa (ae [] rfl ?_));exact aA [] (by decide) rfl (ax ⟨_,rfl,rfl,rfl⟩)
open Lib
def hQ(w:LU)(l:LI):LU:=fH w l++[10]
theorem zM(w:LU)(l:LI):hQ w l≠[]:=by unfold hQ;simp
theorem vM:xg 129:=by unfold xg;kernel_rfl
set_option maxHeartbeats 1000000 in
theorem qm(V:cj)(b:Nat)(p:Value)(hp:Es b p)(A:OA)(c:Nat)(m:LU)(w:LU)(hw:w.length<=100)(l:LI)(hl:∀ n∈l,bU n)(hll:l.length<=100000)(hm:m.length<=100000000000)(B:OA)(n cb bb ob:Nat)(hB:l≠[]->B=some ⟨bb,ob,none⟩)(hn:n=l.length):
 Fn 60 [.pointer (some ⟨b,0,none⟩),dK w,.slice B n cb] (aJ (ny 129 b p A c m)) (([.seg bb ob (ay l)]++V.heap)++ny 129 b p A c m) λ _ H'=>∃ (A':OA) (c':Nat),H'=ny 129 b (.pointer (some ⟨b,0,none⟩)) A' c' (m++hQ w l):=by
 subst hn;have hwl:=ef w l hl
 generalize hM:aJ _=M
 refine aH Tryz.func60 rfl rfl λ w0=>?_;refine ad (aa (ah [] rfl ?_));refine bC rfl rfl rfl rfl rfl rfl rfl (λ _=>rfl) λ g0=>?_;refine fk 1 1 (by rfl) (by decide) ?_;refine ae [] rfl ?_;refine ad (ad (aa (ae [] rfl ?_)));refine av ?_
 refine bP (σ:=Nat×OA×Nat) (λ s=>[(13,.int .i64 s.1),(12,.int .i64 l.length),(11,.slice B l.length cb),(6,.slice s.2.1 (w::(l.take s.1).map itoa).length s.2.2),(0,.pointer (some ⟨b,0,none⟩))])
  (λ s=>.own (.slice s.2.1 (w::(l.take s.1).map itoa).length s.2.2) 9 1 (w::(l.take s.1).map itoa).length (cO (w::(l.take s.1).map itoa))::(([.seg bb ob (ay l)]++V.heap)++ny 129 b p A c m))
  (λ s=>s.1<=l.length) (λ s=>l.length-s.1) (0,some ⟨g0,0,none⟩,1) [0,1,2,3,4,5,6] ⟨rfl,rfl,rfl,rfl,rfl,an⟩ (by decide) rfl (GI _) ?_
 rintro⟨k,A2,c2⟩ hk;simp only at hk ⊢;refine ad (aa (ae [] rfl ?_));refine ad (aC rfl (λ hlt=>aq ?_) (λ hge=>a9 ?_))
 ·have hlt':k<l.length:=by omega
  obtain⟨x,hx⟩:∃ x,l[k]?=some x:=⟨l[k],Gy hlt'⟩;obtain rfl:=hB (by rintro rfl;simp at hlt');have hxB:=hl x (GB hx);have hlen:(w::(l.take k).map itoa).length=k+1:=by rw[GG,GH,G2];omega
  refine ad (av ?_);refine ad (aa (ah [] rfl ?_));refine ab [] (bZ rfl hlt') rfl ?_;refine ab [] (bc 1 rfl rfl (bR hx)) rfl ?_;refine ae [] rfl ?_;refine aa (ah [] rfl ?_);refine ao [] (pG V x hxB) rfl (by kernel_rfl) ⟨⟨2,by simp,rfl⟩,⟨3,by simp,rfl⟩,⟨4,by simp,rfl⟩,an⟩ (λ _=>rfl) ?_;rintro v H' ⟨rfl,rfl⟩;refine⟨rfl,?_⟩;refine bC rfl rfl rfl rfl rfl rfl rfl (λ _=>rfl) λ g2=>?_;refine bn (n:=(w::(l.take k).map itoa).length) (m:=1) (off:=0) (news:=cO [itoa x]) 1 0 rfl rfl rfl rfl rfl rfl (by decide) rfl rfl (aD g2 _ _ (0,0)) (λ _=>rfl) rfl rfl (by omega) (by omega) (λ _ _=>rfl) λ A3 c3=>?_;refine ae [] rfl ?_;refine aa (ae [] rfl ?_);have htk:w::(l.take (k+1)).map itoa=(w::(l.take k).map itoa)++[itoa x]:=by rw[GW,hx];simp
  refine⟨(k+1,A3,c3),[1,2,3,4,5,6,7],⟨?_,rfl,rfl,?_,rfl,an⟩,by decide,?_,by simp only;omega,by simp only;omega⟩
  ·show some (Value.int .i64 (IntKind.i64.wrap ((k:Int)+1)))=_;rw[b5 (by omega)];rfl
  ·simp only[htk];rw[GE];rfl
  ·simp only[htk];rw[GE,show cO ((w::(l.take k).map itoa)++[itoa x])=cO (w::(l.take k).map itoa)++cO [itoa x] by simp[cO]];rfl
 obtain rfl:k=l.length:=by omega
 refine bv (a8 0 rfl) (λ ho=>?_);obtain⟨g,rfl⟩:=ho.2.2.1 (by simp);rw[G8] at*;refine bq 7 (cY [0,1,2,3]++[(4,false)]++cY [5]++[(6,false)]) [] (by kernel_rfl) (by decide) rfl ?_;refine az [] rfl ?_;refine aY rfl ?_;refine ao [] (pU (some ⟨g,0,none⟩) _ c2 g 0 (w::l.map itoa) rfl (λ _=>rfl) ho.2.1 (by show (fH w l).length<=_;omega) (by simp;omega)) rfl (by kernel_rfl) ⟨⟨0,_,by simp,rfl,cD,.inr rfl⟩,an⟩ (λ _=>rfl) ?_;rintro v H' ⟨rfl,rfl⟩;refine⟨rfl,?_⟩;refine ai ⟨⟨[],by decide,rfl⟩,?_⟩;refine aj [] rfl (gi (l:=fH w l) (m:=[10]) rfl rfl rfl (by simp;omega)) rfl ?_;refine aY rfl ?_;refine aw (fst:=[]) (cap:=[]) [] (AU 129 b p vM hp A c m (fH w l++[10]) (by simp;omega)) rfl rfl rfl rfl (by kernel_rfl) (K:=[]) (aF.picks [5,6] (by decide) rfl) an (λ _=>rfl) ?_;rintro v H' ⟨A',c',rfl⟩;refine⟨rfl,?_⟩;refine ai ⟨⟨[],by decide,rfl⟩,?_⟩;refine bp ?_;refine ai ?_;exact⟨_,rfl,A',c',rfl⟩
open Lib
def FO(f:LI)(i:Nat):LU:=if 0<f.getD i 0 then hQ [102] [((i+1:Nat):Int),f.getD i 0] else []
def fK(f:LI)(k:Nat):LU:=((List.range k).map (FO f)).flatten
def xK(s:LI)(k:Nat):LU:=((s.take k).map λ x=>hQ [120] [x]).flatten
def Fo(v c:Int):LU:=hQ [118,97,108,117,101] [v]++hQ [99,117,116] [c]
def Fx(v c:Int):LU:=if v=c then hQ [112,114,111,118,101,100] [] else hQ [110,111,116,32,112,114,111,118,101,100] []
def Gp(f s:LI)(v c:Int):LU:=((Fo v c++fK f f.length)++xK s s.length)++Fx v c
theorem zC(w:LU)(l:LI)(h:∀ n∈l,bU n):(hQ w l).length<=w.length+l.length*21+1:=by
 have:=ef w l h;unfold hQ;rw[GE];simp only[GG,GX];omega
end Go.Proofs.YtmcnpaelaieniaaGreatDoor
