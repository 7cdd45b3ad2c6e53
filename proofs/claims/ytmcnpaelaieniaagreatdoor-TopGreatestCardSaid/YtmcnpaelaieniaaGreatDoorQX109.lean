import Derived.Test.YtmcnpaelaieniaaGreatDoorQX107
import Derived.Test.YtmcnpaelaieniaaGreatDoorQF
import Derived.Test.YtmcnpaelaieniaaGreatDoorQX103
import Derived.Test.YtmcnpaelaieniaaGreatDoorQX113
/- A part of the proof; see NOTES.md. -/
set_option linter.unusedVariables false
set_option linter.unusedSimpArgs false
namespace Go.Proofs.YtmcnpaelaieniaaGreatDoor
open Go.RowKit
structure fS (m:Int) (l:LI):Prop where
 rise:l.Pairwise (·<·)
 rng:∀ x∈l,1<=x/\x<=m
theorem fS.snoc{m:Int}{l:LI}{x:Int}:fS m (l++[x])↔fS m l/\(∀ y∈l,y<x)/\1<=x/\x<=m:=by
 constructor
 ·intro h;obtain⟨h1,_,h3⟩:=HV.1 h.rise;have hx:=h.rng x (by simp);exact⟨⟨h1,λ y hy=>h.rng y (by simp[hy])⟩,λ y hy=>h3 y hy x (by simp),hx.1,hx.2⟩
 ·rintro⟨h,h1,h2,h3⟩;refine⟨ur h.rise h1,λ y hy=>?_⟩
  rcases GE.1 hy with hy|hy
  ·exact h.rng y hy
  ·rw[Gy.1 hy];exact⟨h2,h3⟩
open Classical in
noncomputable def nQ(N:aU)(s:LI):Int:=if ¬ fS N.nodes s then 1 else if N.src∈s/\N.snk∉s then 0 else 9
theorem oh{N:aU}{s:LI}(h:¬ fS N.nodes s):nQ N s=1:=by unfold nQ;rw[if_pos h]
theorem n9{N:aU}{s:LI}(h:fS N.nodes s)(k:¬ (N.src∈s/\N.snk∉s)):nQ N s=9:=by unfold nQ;rw[if_neg (λ n=>n h),if_neg k]
theorem zx{N:aU}{s:LI}:nQ N s=0↔e8 N s:=by
 constructor
 ·intro h;by_cases h1:fS N.nodes s
  ·by_cases h2:N.src∈s/\N.snk∉s
   ·exact⟨h1.rise,h1.rng,h2.1,h2.2⟩
   ·rw[n9 h1 h2] at h;exact absurd h (by decide)
  ·rw[oh h1] at h;exact absurd h (by decide)
 ·intro h;unfold nQ;rw[if_neg (λ n=>n ⟨h.rise,h.rng⟩),if_pos ⟨h.src,h.snk⟩]
theorem uF{m:Int}{l r:LI}{x:Int}(h:fS m (l++x::r)):(l.getLast?.getD 0)<x/\x<=m:=by
 have hx:=h.rng x (by simp);refine⟨?_,hx.2⟩
 cases hl:l.getLast? with
 |none=>show (0:Int)<x;omega
 |some y=>exact (HV.1 h.rise).2.2 y (HL hl) x (by simp)
theorem B4{m:Int}{l:LI}(h:fS m l):∀ y∈l,y<=l.getLast?.getD 0:=by
 intro y hy
 rcases Hn l with rfl|⟨q,z,rfl⟩
 ·exact absurd hy GP
 ·rw[Ho] at*;rw[Hd];show y<=z
  rcases GE.1 hy with hy|hy
  ·have:=(HV.1 h.rise).2.2 y hy z (by simp);omega
  ·rw[Gy.1 hy];omega
set_option maxHeartbeats 1000000 in
theorem uK(N:aU)(hN:N.Fits)(hR:N.Right)(A:OA)(c b o:Nat)(hA:N.arcs≠[]->A=some ⟨b,o,none⟩)(s:LI)(hs:¬ e8 N s)(hsl:s.length<=100000)(S:OA)(cs bs os:Nat)(hS:s≠[]->S=some ⟨bs,os,none⟩):
 Fn 97 [bp N A c,.slice S s.length cs] [] [.seg b o (arcs N.arcs),.seg bs os (ax s)] λ v H'=>v=.tuple #[.slice none 0 0,.int .i64 (nQ N s)]/\H'=[]:=by
 have hl2:=hR.len;have hnn:=hR.nodes;refine aJ Tryz.func97 rfl rfl λ w0=>?_;refine ad (aa ?_);refine bx (cs:=bI N A c) rfl rfl rfl (λ _=>rfl) λ p=>?_;refine ae [] rfl ?_;refine ad (ad (aa ?_));refine ab [] (v:=bp N A c) (af 0 rfl) rfl ?_;refine ap [] (iJ N hN A c b o hA) rfl (by kernel_rfl) ⟨⟨1,_,by simp,rfl,ak _ _ _,av⟩,an⟩ (λ _=>rfl) ?_;rintro v H' ⟨rfl,rfl⟩;refine⟨rfl,?_⟩;rw[hR.check];refine ae [] rfl ?_;refine ad (aa (ae [] rfl ?_));refine aC rfl (λ h=>absurd rfl h) (λ _=>aq ?_);refine ad (aa ?_);refine mw rfl (λ _=>rfl) λ bm=>?_;refine ae [] rfl ?_;refine ad (aa (ae [] rfl ?_));refine ad (ad (aa (ae [] rfl ?_)));refine au ?_
 refine bO (σ:=Nat) (λ k=>[(22,.int .i64 k),(21,.int .i64 s.length),(20,.slice S s.length cs),(8,.int .i64 ((s.take k).getLast?.getD 0)),(7,.map (some bm)),(2,.pointer (some ⟨p,0,none⟩))])
  (λ k=>[.obj bm (gX (jF (s.take k))),blk p 33 (bI N A c),.seg b o (arcs N.arcs),.seg bs os (ax s)]) (λ k=>k<=s.length/\fS N.nodes (s.take k)) (λ k=>s.length-k)
  0 [0,1,2,3] ⟨rfl,rfl,rfl,rfl,rfl,rfl,an⟩ (by decide) rfl ⟨GB _,⟨by simp,by simp⟩⟩ ?_
 rintro k ⟨hk,hI⟩;refine ad (aa (ae [] rfl ?_));refine ad (aC rfl (λ hlt=>aq ?_) (λ hge=>bc ?_))
 ·have hlt:k<s.length:=by omega
  obtain rfl:=hS (by rintro rfl;simp at hlt);obtain⟨x,hx⟩:∃ x,s[k]?=some x:=⟨s[k],Gq hlt⟩
  have hsx:s=s.take k++x::s.drop (k+1):=by
   have:s.drop k=x::s.drop (k+1):=by rw[Hf hlt];rw[(Gv.1 hx).2]
   rw[<- this,Hs]
  have htk:s.take (k+1)=s.take k++[x]:=by rw[GO,hx];rfl
  refine ad (au ?_);refine ad (aa (ah [] rfl ?_));refine ab [] (bR rfl hlt) rfl ?_;refine ab [] (a8 3 rfl rfl (be hx)) rfl ?_;refine ae [] rfl ?_;refine ad (ad (aa (ah [] rfl ?_)));by_cases h1:x<=(s.take k).getLast?.getD 0
  ·refine bd 29 rfl h1 ?_;refine ah [3] rfl ?_;refine ai ?_;refine bi rfl ?_;refine ad (aa (ae [] rfl ?_));refine az [] (by decide) rfl (ay ⟨_,rfl,?_,rfl⟩);rw[oh (λ h=>by rw[hsx] at h;have:=(uF h).1;omega)];rfl
  refine aX 29 rfl h1 ?_;refine ah [3] rfl ?_;refine ab [3] (af 1 rfl) rfl ?_;refine ae [3] rfl ?_;refine aC rfl (λ h=>?_) (λ h=>aq ?_)
  ·refine ad (aa (ae [] rfl ?_));refine az [] (by decide) rfl (ay ⟨_,rfl,?_,rfl⟩);rw[oh (λ h'=>by rw[hsx] at h';have:=(uF h').2;omega)];rfl
  have hless:∀ y∈s.take k,y<x:=λ y hy=>by have:=B4 hI y hy;omega
  have hnew:fS N.nodes (s.take (k+1)):=by
   rw[htk,fS.snoc]
   have h0:0<=(s.take k).getLast?.getD 0:=by
    cases hl:(s.take k).getLast? with
    |none=>exact HK _
    |some y=>have:=hI.rng y (HL hl);show 0<=y;omega
   exact⟨hI,hless,by omega,by omega⟩
  refine aa (ah [] rfl ?_);refine mb 0 Tryz.underlying205 Tryz.underlying3 rfl rfl rfl rfl rfl (λ q hq=>?_) [] rfl ?_
  ·obtain⟨y,hy,rfl⟩:=GR.1 hq;have:=hless y hy;show y≠x;omega
  refine ae [] rfl ?_;refine aa (ae [] rfl ?_);refine⟨k+1,[0,1,2,3],⟨?_,rfl,rfl,?_,rfl,rfl,an⟩,by decide,?_,⟨by omega,hnew⟩,by omega⟩
  ·show some (Value.int .i64 (IntKind.i64.wrap ((k:Int)+1)))=_;rw[cv (by omega)];rfl
  ·rw[htk,Hd];rfl
  ·rw[htk];unfold jF;rw[GX];rfl
 ·have hk':k=s.length:=by omega
  subst hk';rw[GY] at hI ⊢;have hbad:¬ (N.src∈s/\N.snk∉s):=λ h=>hs ⟨hI.rise,hI.rng,h.1,h.2⟩;refine ad (ad (aa (ah [] rfl ?_)));refine ab [] (af 1 rfl) rfl ?_;refine ab [] (dB 0 Tryz.underlying205 Tryz.underlying3 rfl rfl rfl rfl rfl) rfl ?_;by_cases h1:N.src∈s
  ·refine aI 42 (v':=.bool true) rfl (by rw[cq,aR h1]) ?_;refine ah [] rfl ?_;refine aI 44 (v':=.bool false) rfl rfl ?_;refine ah [5] rfl ?_;refine ab [5] (af 1 rfl) rfl ?_;refine ab [5] (dB 0 Tryz.underlying205 Tryz.underlying3 rfl rfl rfl rfl rfl) rfl ?_;refine aI 48 (v':=.bool true) rfl (by rw[cq,aR (GK.1 λ h=>hbad ⟨h1,h⟩)]) ?_;refine ae [5] rfl ?_;refine bi rfl ?_;refine ad (aa (ae [] rfl ?_));refine az [] (by decide) rfl (ay ⟨_,rfl,?_,rfl⟩);rw[n9 hI hbad];rfl
  ·refine aI 42 (v':=.bool false) rfl (by rw[cq,a6 h1]) ?_;refine ah [] rfl ?_;refine aI 44 (v':=.bool true) rfl rfl ?_;refine ah [5] rfl ?_;refine ai ?_;refine bi rfl ?_;refine ad (aa (ae [] rfl ?_));refine az [] (by decide) rfl (ay ⟨_,rfl,?_,rfl⟩);rw[n9 hI hbad];rfl
open Classical in
noncomputable def DD(N:aU)(s:LI):Int×Int:=if e8 N s then (eL s N.arcs,0) else (0,nQ N s)
theorem se(N:aU)(hN:N.Fits)(hR:N.Right)(A:OA)(c b o:Nat)(hA:N.arcs≠[]->A=some ⟨b,o,none⟩)(s:LI)(hsl:s.length<=100000)(S:OA)(cs bs os:Nat)(hS:s≠[]->S=some ⟨bs,os,none⟩):
 Fn 59 [bp N A c,.slice S s.length cs] [] [.seg b o (arcs N.arcs),.seg bs os (ax s)] λ v H'=>v=tj (DD N s)/\H'=[]:=by
 by_cases hs:e8 N s
 ·unfold DD;rw[if_pos hs];exact oF N hN hR A c b o hA s hs hsl S cs bs os hS
 unfold DD;rw[if_neg hs];refine aJ Tryz.func59 rfl rfl λ w0=>?_;refine ad (aa ?_);refine bx (cs:=bI N A c) rfl rfl rfl (λ _=>rfl) λ p=>?_;refine ae [] rfl ?_;refine ad (aa ?_);refine ab [] (v:=bp N A c) (af 0 rfl) rfl ?_;refine ah [] rfl ?_;refine ap [] (uK N hN hR A c b o hA s hs hsl S cs bs os hS) rfl (by kernel_rfl) ⟨⟨1,_,by simp,rfl,ak _ _ _,av⟩,⟨2,_,by simp,rfl,ak _ _ _,av⟩,an⟩ (λ _=>rfl) ?_;rintro v H' ⟨rfl,rfl⟩;refine⟨rfl,?_⟩;refine ae [] rfl ?_;refine ad (aa (ae [] rfl ?_));refine ad (ad (aa (ae [] rfl ?_)));refine au ?_;refine bO (σ:=Unit) (λ _=>[(19,.int .i64 0),(18,.int .i64 0),(8,.int .i64 0),(7,.int .i64 (nQ N s))]) (λ _=>[]) (λ _=>True) (λ _=>0) () [] ⟨rfl,rfl,rfl,rfl,an⟩ (by decide) rfl an ?_;intro _ _;refine ad (aa (ae [] rfl ?_));refine ad (aC rfl (λ hlt=>absurd hlt (by decide)) (λ hge=>bc ?_));refine ad (aa (ae [] rfl ?_));exact az [] (by decide) rfl (ay ⟨_,rfl,rfl,rfl⟩)
open Classical in
noncomputable def oI(N:aU)(f s:LI):Int:=if aK N f then (if e8 N s then (if cS (N.arcs.zip f) N.snk=eL s N.arcs then 0 else 8) else nQ N s) else en N f
theorem yN(N:aU)(hN:N.Fits)(hR:N.Right)(A:OA)(c b o:Nat)(hA:N.arcs≠[]->A=some ⟨b,o,none⟩)(f:LI)(hfi:∀ x∈f,dn x)(hfl:f.length*8<=140737488351232)(F:OA)(cf bf of:Nat)(hF:f≠[]->F=some ⟨bf,of,none⟩)
 (s:LI) (hsl:s.length<=100000) (S:OA) (cs bs os:Nat) (hS:s≠[]->S=some ⟨bs,os,none⟩):
 Fn 129 [bp N A c,.slice F f.length cf,.slice S s.length cs] [] [.seg b o (arcs N.arcs),.seg bf of (ax f),.seg bs os (ax s)] λ v H'=>v=.int .i64 (oI N f s)/\H'=[]:=by
 unfold oI;by_cases hfs:aK N f/\e8 N s
 ·rw[if_pos hfs.1,if_pos hfs.2];exact Aq N hN hR A c b o hA f hfs.1 F cf bf of hF s hfs.2 hsl S cs bs os hS
 refine aJ Tryz.func129 rfl rfl λ w0=>?_;refine ad (aa ?_);refine bx (cs:=bI N A c) rfl rfl rfl (λ _=>rfl) λ p=>?_;refine ae [] rfl ?_;refine ad (aa ?_);refine ab [] (v:=bp N A c) (af 0 rfl) rfl ?_;refine ah [] rfl ?_;refine ap [] (gq N hN hR A c b o hA f F cf bf of hF hfi hfl) rfl (by kernel_rfl) ⟨⟨1,_,by simp,rfl,ak _ _ _,av⟩,⟨2,_,by simp,rfl,ak _ _ _,av⟩,an⟩ (λ _=>rfl) ?_;rintro v H' ⟨⟨rfl,hf⟩|⟨rfl,hf⟩,rfl⟩
 case inr=>
  refine⟨rfl,?_⟩;refine ae [] rfl ?_;refine ad (ad (aa (ae [] rfl ?_)));refine aC rfl (λ h=>?_) (λ h=>absurd (cU.1 (GK.1 h)) hf);refine ad (aa (ae [] rfl ?_));refine az [] (by decide) rfl (ay ⟨_,rfl,?_,rfl⟩);rw[if_neg hf];rfl
 have hs:¬ e8 N s:=λ h=>hfs ⟨hf,h⟩;have T:=se N hN hR A c b o hA s hsl S cs bs os hS;unfold DD at T;rw[if_neg hs] at T;rw[if_pos hf,if_neg hs];refine⟨rfl,?_⟩;refine ae [] rfl ?_;refine ad (ad (aa (ae [] rfl ?_)));refine aC rfl (λ h=>absurd rfl h) (λ _=>aq ?_);refine ad (aa ?_);refine ab [] (v:=bp N A c) (af 0 rfl) rfl ?_;refine ah [] rfl ?_;refine b9 [] T rfl rfl rfl rfl (by kernel_rfl) ⟨⟨1,_,by simp,rfl,ak _ _ _,av⟩,⟨3,_,by simp,rfl,ak _ _ _,av⟩,an⟩ (λ _=>rfl) ?_;rintro v H' ⟨rfl,rfl⟩;refine⟨rfl,?_⟩;refine ae [] rfl ?_;refine ad (au (ad (aa (ae [] rfl ?_))));refine aC rfl (λ h=>?_) (λ h=>absurd (zx.1 (GK.1 h)) hs);refine ad (aa (ae [] rfl ?_));exact az [] (by decide) rfl (ay ⟨_,rfl,rfl,rfl⟩)
open Lib
def ic(w:LU)(l:LI):LU:=fF w l++[10]
theorem Cd(w:LU)(l:LI):ic w l≠[]:=by unfold ic;simp
theorem vT:wM 129:=by unfold wM;kernel_rfl
set_option maxHeartbeats 1000000 in
theorem pR(V:b5)(b:Nat)(p:Value)(hp:Ed b p)(A:OA)(c:Nat)(m:LU)(w:LU)(hw:w.length<=100)(l:LI)(hl:∀ n∈l,dn n)(hll:l.length<=100000)(hm:m.length<=100000000000)(B:OA)(n cb bb ob:Nat)(hB:l≠[]->B=some ⟨bb,ob,none⟩)(hn:n=l.length):
 Fn 60 [.pointer (some ⟨b,0,none⟩),dF w,.slice B n cb] (aL (nU 129 b p A c m)) (([.seg bb ob (ax l)]++V.heap)++nU 129 b p A c m) λ _ H'=>∃ (A':OA) (c':Nat),H'=nU 129 b (.pointer (some ⟨b,0,none⟩)) A' c' (m++ic w l):=by
 subst hn;have hwl:=ef w l hl
 generalize hM:aL _=M
 refine aJ Tryz.func60 rfl rfl λ w0=>?_;refine ad (aa (ah [] rfl ?_));refine bF rfl rfl rfl rfl rfl rfl rfl (λ _=>rfl) λ g0=>?_;refine fb 1 1 (by rfl) (by decide) ?_;refine ae [] rfl ?_;refine ad (ad (aa (ae [] rfl ?_)));refine au ?_
 refine bO (σ:=Nat×OA×Nat) (λ s=>[(13,.int .i64 s.1),(12,.int .i64 l.length),(11,.slice B l.length cb),(6,.slice s.2.1 (w::(l.take s.1).map itoa).length s.2.2),(0,.pointer (some ⟨b,0,none⟩))])
  (λ s=>.own (.slice s.2.1 (w::(l.take s.1).map itoa).length s.2.2) 9 1 (w::(l.take s.1).map itoa).length (cK (w::(l.take s.1).map itoa))::(([.seg bb ob (ax l)]++V.heap)++nU 129 b p A c m))
  (λ s=>s.1<=l.length) (λ s=>l.length-s.1) (0,some ⟨g0,0,none⟩,1) [0,1,2,3,4,5,6] ⟨rfl,rfl,rfl,rfl,rfl,an⟩ (by decide) rfl (GB _) ?_
 rintro⟨k,A2,c2⟩ hk;simp only at hk ⊢;refine ad (aa (ae [] rfl ?_));refine ad (aC rfl (λ hlt=>aq ?_) (λ hge=>bc ?_))
 ·have hlt':k<l.length:=by omega
  obtain⟨x,hx⟩:∃ x,l[k]?=some x:=⟨l[k],Gq hlt'⟩;obtain rfl:=hB (by rintro rfl;simp at hlt');have hxB:=hl x (Gu hx);have hlen:(w::(l.take k).map itoa).length=k+1:=by rw[Gz,GA,GV];omega
  refine ad (au ?_);refine ad (aa (ah [] rfl ?_));refine ab [] (bR rfl hlt') rfl ?_;refine ab [] (a8 1 rfl rfl (bD hx)) rfl ?_;refine ae [] rfl ?_;refine aa (ah [] rfl ?_);refine ap [] (pY V x hxB) rfl (by kernel_rfl) ⟨⟨2,by simp,rfl⟩,⟨3,by simp,rfl⟩,⟨4,by simp,rfl⟩,an⟩ (λ _=>rfl) ?_;rintro v H' ⟨rfl,rfl⟩;refine⟨rfl,?_⟩;refine bF rfl rfl rfl rfl rfl rfl rfl (λ _=>rfl) λ g2=>?_;refine bv (n:=(w::(l.take k).map itoa).length) (m:=1) (off:=0) (news:=cK [itoa x]) 1 0 rfl rfl rfl rfl rfl rfl (by decide) rfl rfl (aF g2 _ _ (0,0)) (λ _=>rfl) rfl rfl (by omega) (by omega) (λ _ _=>rfl) λ A3 c3=>?_;refine ae [] rfl ?_;refine aa (ae [] rfl ?_);have htk:w::(l.take (k+1)).map itoa=(w::(l.take k).map itoa)++[itoa x]:=by rw[GO,hx];simp
  refine⟨(k+1,A3,c3),[1,2,3,4,5,6,7],⟨?_,rfl,rfl,?_,rfl,an⟩,by decide,?_,by simp only;omega,by simp only;omega⟩
  ·show some (Value.int .i64 (IntKind.i64.wrap ((k:Int)+1)))=_;rw[cv (by omega)];rfl
  ·simp only[htk];rw[Gx];rfl
  ·simp only[htk];rw[Gx,show cK ((w::(l.take k).map itoa)++[itoa x])=cK (w::(l.take k).map itoa)++cK [itoa x] by simp[cK]];rfl
 obtain rfl:k=l.length:=by omega
 refine bh (aW 0 rfl) (λ ho=>?_);obtain⟨g,rfl⟩:=ho.2.2.1 (by simp);rw[GY] at*;refine bu 7 (cZ [0,1,2,3]++[(4,false)]++cZ [5]++[(6,false)]) [] (by kernel_rfl) (by decide) rfl ?_;refine aB [] rfl ?_;refine bg rfl ?_;refine ap [] (qx (some ⟨g,0,none⟩) _ c2 g 0 (w::l.map itoa) rfl (λ _=>rfl) ho.2.1 (by show (fF w l).length<=_;omega) (by simp;omega)) rfl (by kernel_rfl) ⟨⟨0,_,by simp,rfl,cp,.inr rfl⟩,an⟩ (λ _=>rfl) ?_;rintro v H' ⟨rfl,rfl⟩;refine⟨rfl,?_⟩;refine ai ⟨⟨[],by decide,rfl⟩,?_⟩;refine aj [] rfl (gA (l:=fF w l) (m:=[10]) rfl rfl rfl (by simp;omega)) rfl ?_;refine bg rfl ?_;refine aw (fst:=[]) (cap:=[]) [] (Av 129 b p vT hp A c m (fF w l++[10]) (by simp;omega)) rfl rfl rfl rfl (by kernel_rfl) (K:=[]) (aH.picks [5,6] (by decide) rfl) an (λ _=>rfl) ?_;rintro v H' ⟨A',c',rfl⟩;refine⟨rfl,?_⟩;refine ai ⟨⟨[],by decide,rfl⟩,?_⟩;refine bq ?_;refine ai ?_;exact⟨_,rfl,A',c',rfl⟩
open Lib
def Fl(f:LI)(i:Nat):LU:=if 0<f.getD i 0 then ic [102] [((i+1:Nat):Int),f.getD i 0] else []
def fK(f:LI)(k:Nat):LU:=((List.range k).map (Fl f)).flatten
def xK(s:LI)(k:Nat):LU:=((s.take k).map λ x=>ic [120] [x]).flatten
def Fi(v c:Int):LU:=ic [118,97,108,117,101] [v]++ic [99,117,116] [c]
def Fv(v c:Int):LU:=if v=c then ic [112,114,111,118,101,100] [] else ic [110,111,116,32,112,114,111,118,101,100] []
def Ge(f s:LI)(v c:Int):LU:=((Fi v c++fK f f.length)++xK s s.length)++Fv v c
theorem yO(w:LU)(l:LI)(h:∀ n∈l,dn n):(ic w l).length<=w.length+l.length*21+1:=by
 have:=ef w l h;unfold ic;rw[Gx];simp only[Gz,GQ];omega
end Go.Proofs.YtmcnpaelaieniaaGreatDoor
