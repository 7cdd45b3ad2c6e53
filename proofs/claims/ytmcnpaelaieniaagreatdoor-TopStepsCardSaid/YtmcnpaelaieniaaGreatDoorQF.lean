import Derived.Test.YtmcnpaelaieniaaGreatDoorQC
import Derived.Test.YtmcnpaelaieniaaGreatDoorQB
/- A part of the proof; see NOTES.md. -/
set_option linter.unusedVariables false
set_option linter.unusedSimpArgs false
namespace Go.Proofs.YtmcnpaelaieniaaGreatDoor
open Go.RowKit
def cN(l:LB)(is:Bool)(k:Nat):LI:=((List.range k).filter λ (v:Nat)=>decide (0<v/\l[v]?=some is)).map λ (v:Nat)=>(v:Int)
theorem oz(l:LB)(is:Bool)(k:Nat):cN l is (k+1)=cN l is k++(if 0<k/\l[k]?=some is then [(k:Int)] else []):=by
 unfold cN;rw[Iz,Iu,G5]
 congr 1
 by_cases h:0<k/\l[k]?=some is<;>simp[h]
theorem lP(l:LB)(is:Bool)(k:Nat):(cN l is k).length<=k:=by
 unfold cN;rw[GH];exact HK (HN _ _) (by simp)
theorem o5{l:LB}{is:Bool}{k:Nat}{x:Int}:x∈cN l is k↔∃ v:Nat,v<k/\0<v/\l[v]?=some is/\x=v:=by
 unfold cN;simp only[G0,Ig,Hs,Ha]
 constructor
 ·rintro⟨v,⟨h1,h2,h3⟩,rfl⟩;exact⟨v,h1,h2,h3,rfl⟩
 ·rintro⟨v,h1,h2,h3,rfl⟩;exact⟨v,⟨h1,h2,h3⟩,rfl⟩
theorem z7(A:OA)(c b o:Nat)(l:LB)(hA:l≠[]->A=some ⟨b,o,none⟩)(hl:l.length<=100000)(is:Bool):
 Fn 47 [.slice A l.length c,.bool is] [] [.seg b o (ft l)] λ v H'=>∃ A' c',v=.slice A' (cN l is l.length).length c'/\H'=[.own v 3 1 (cN l is l.length).length (ay (cN l is l.length))]:=by
 refine aH Tryz.func47 rfl rfl λ w0=>?_;refine ad (aa (ae [] rfl ?_));refine ad (aa (ae [] rfl ?_));refine ad (ad (aa (ae [] rfl ?_)));refine av ?_;refine cd 3 1 ?_
 refine bP (σ:=Nat×OA×Nat) (λ s=>[(10,.int .i64 s.1),(9,.int .i64 l.length),(8,.slice A l.length c),(5,.slice s.2.1 (cN l is s.1).length s.2.2),(1,.bool is)])
  (λ s=>[.own (.slice s.2.1 (cN l is s.1).length s.2.2) 3 1 (cN l is s.1).length (ay (cN l is s.1)),.seg b o (ft l)]) (λ s=>s.1<=l.length) (λ s=>l.length-s.1)
  (0,none,0) [0,1] ⟨rfl,rfl,rfl,rfl,rfl,an⟩ (by decide) rfl (GI _) ?_
 rintro⟨k,A1,c1⟩ hk;simp only at hk ⊢;have hwl:=lP l is k;refine ad (aa (ae [] rfl ?_));refine ad (aC rfl (λ hlt=>aq ?_) (λ hge=>a9 ?_))
 ·have hlt:k<l.length:=by omega
  obtain rfl:=hA (by rintro rfl;simp at hlt);obtain⟨m,hm⟩:∃ m,l[k]?=some m:=⟨l[k],Gy hlt⟩;have hws:=oz l is k;refine ad (av ?_);refine ad (aa (ah [] rfl ?_));refine ab [] (bZ rfl hlt) rfl ?_;refine ab [] (bc 1 rfl rfl (show (ft l)[k]?=some (.bool m) from nY hm)) rfl ?_;refine ae [] rfl ?_;by_cases hgo:0<k/\m=is
  ·rw[if_pos ⟨hgo.1,by rw[hm,hgo.2]⟩] at hws;refine ad (aa (ah [] rfl ?_));refine bj 17 rfl (by omega) ?_;refine ah [2] rfl ?_;refine aI 21 (v':=.bool true) rfl (Gz Value.bool (by rw[hgo.2];simp)) ?_;refine ai ?_;refine bh rfl ?_;refine aa (ah [] rfl ?_);refine bC rfl rfl rfl rfl rfl rfl rfl (λ _=>rfl) λ g2=>?_;refine bn (n:=(cN l is k).length) (m:=1) (off:=0) (news:=ay [(k:Int)]) 1 0 rfl rfl rfl rfl rfl rfl (by decide) rfl rfl (aD g2 _ _ (0,0)) (λ _=>rfl) rfl rfl (by omega) (by omega) (λ _ _=>rfl) λ A2 c2=>?_;rw[show (cN l is k).length+1=(cN l is (k+1)).length by rw[hws];simp,show ay (cN l is k)++ay [(k:Int)]=ay (cN l is (k+1)) by rw[hws];simp[ay]];refine ae [] rfl ?_;refine aa (ae [] rfl ?_);refine⟨(k+1,A2,c2),[1,2],⟨?_,rfl,rfl,rfl,rfl,an⟩,by decide,rfl,by simp only;omega,by simp only;omega⟩;show some (Value.int .i64 (IntKind.i64.wrap ((k:Int)+1)))=_;rw[b5 (by omega)];rfl
  ·rw[if_neg (fun h=>hgo ⟨h.1,by rw[hm] at h;simpa using h.2⟩),List.append_nil] at hws
   refine eS [(21,.bool false),(10,.int .i64 k),(9,.int .i64 l.length),(8,.slice (some ⟨b,o,none⟩) l.length c),(5,.slice A1 (cN l is k).length c1),(1,.bool is)]
    [.own (.slice A1 (cN l is k).length c1) 3 1 (cN l is k).length (ay (cN l is k)),.seg b o (ft l)] ?_ ?_
   ·skip
    refine aa (ah [] rfl ?_);by_cases h0:0<k
    ·refine bj 17 rfl (by omega) ?_;refine ah [2] rfl ?_;refine aI 21 (v':=.bool false) rfl (Gz Value.bool (by have:m≠is:=λ e=>hgo ⟨h0,e⟩;simpa using this)) ?_;refine ai ?_;exact⟨[0,1],⟨rfl,rfl,rfl,rfl,rfl,rfl,an⟩,by decide,rfl⟩
    ·refine bd 17 rfl (by omega) ?_;refine ae [2] rfl ?_;exact⟨[0,1],⟨rfl,rfl,rfl,rfl,rfl,rfl,an⟩,by decide,rfl⟩
   ·refine bG rfl (aq ?_);refine aa (ae [] rfl ?_);refine⟨(k+1,A1,c1),[0,1],⟨?_,rfl,rfl,by simp only[hws];rfl,rfl,an⟩,by decide,by simp only[hws];rfl,by simp only;omega,by simp only;omega⟩;show some (Value.int .i64 (IntKind.i64.wrap ((k:Int)+1)))=_;rw[b5 (by omega)];rfl
 ·have hk':k=l.length:=by omega
  subst hk';refine ad (aa (ae [] rfl ?_));refine aA [0] (by decide) rfl (ax ⟨_,rfl,A1,c1,rfl,rfl⟩)
def EK(N:aO)(f:LI)(n:Nat)(v:Value)(H':Heap):Prop:=
 (aK N f/\¬ oH N (aW (N.arcs.zip f)) 1 N.snk/\∃ (l:LB) (A':OA) (c':Nat),l.length=n+1/\(∀ v:Nat,l[v]?=some true↔v<=n/\oH N (aW (N.arcs.zip f)) 1 v)/\v=.tuple #[.slice A' (cN l true (n+1)).length c',.int .i64 0]/\
  H'=[.own (.slice A' (cN l true (n+1)).length c') 3 1 (cN l true (n+1)).length (ay (cN l true (n+1)))])\/
 (¬ aK N f/\v=.tuple #[.slice none 0 0,.int .i64 (el N f)]/\H'=[])\/(aK N f/\oH N (aW (N.arcs.zip f)) 1 N.snk/\v=.tuple #[.slice none 0 0,.int .i64 8]/\H'=[])
theorem Ck(N:aO)(hN:N.Fits)(hR:N.Right)(A:OA)(c b o:Nat)(hA:N.arcs≠[]->A=some ⟨b,o,none⟩)(f:LI)(F:OA)(cf bf of:Nat)(hF:f≠[]->F=some ⟨bf,of,none⟩)(hf:∀ x∈f,bU x)(hfl:f.length*8<=140737488351232)
 (n:Nat) (hn:N.nodes=n):Fn 24 [bx N A c,.slice F f.length cf] [] [.seg b o (arcs N.arcs),.seg bf of (ay f)] (EK N f n):=by
 have hnn:=hR.nodes;have hsk:=hR.snk;obtain⟨s,hs⟩:∃ s:Nat,N.snk=s:=⟨N.snk.toNat,by omega⟩;refine aH Tryz.func24 rfl rfl λ w0=>?_;refine ad (aa ?_);refine bz (cs:=bJ N A c) rfl rfl rfl (λ _=>rfl) λ p=>?_;refine ae [] rfl ?_;refine ad (aa ?_);refine ab [] (v:=bx N A c) (af 0 rfl) rfl ?_;refine ah [] rfl ?_;refine ao [] (AF N hN hR A c b o hA f F cf bf of hF hf hfl 1 (by decide) n hn) rfl (by kernel_rfl) ⟨⟨1,_,by simp,rfl,ak _ _ _,au⟩,⟨2,_,by simp,rfl,ak _ _ _,au⟩,an⟩ (λ _=>rfl) ?_;rintro v H' (⟨hW,_,l,g,hl,hlr,rfl,rfl⟩|⟨hW,rfl,rfl⟩|⟨_,h1,_,_⟩)
 ·refine⟨rfl,?_⟩;refine ae [] rfl ?_;refine ad (av (ad (aa (ae [] rfl ?_))));refine aC rfl (fun h=>absurd rfl h) (fun _=>?_);obtain⟨bt,hbt⟩:∃ bt,l[s]?=some bt:=⟨l[s]'(by omega),List.getElem?_eq_getElem (by omega)⟩;have hls:=hlr s;refine ad (aa (ah [] rfl ?_));refine ab [] (af 1 rfl) rfl ?_;refine aI 21 (v':=.int .i64 (s:Int)) rfl (congrArg (Value.int .i64) hs) ?_;refine ab [] (aG rfl (by omega)) rfl ?_;refine ab [] (aE 0 rfl rfl rfl (show (ft l)[s]?=some (.bool bt) from nY hbt)) rfl ?_;refine ae [] rfl ?_
  cases bt with
  |true=>
   refine bh rfl ?_;refine ad (aa (ae [] rfl ?_));refine aA [] (by decide) rfl (ax ⟨_,rfl,.inr (.inr ⟨hW,by rw[hs];exact (hls.1 hbt).2,rfl,rfl⟩)⟩)
  |false=>
   refine bG rfl (aq ?_)
   have hno:¬ oH N (aW (N.arcs.zip f)) 1 N.snk:=λ hr=>by
    have:=hls.2 ⟨by omega,hs▸hr⟩;rw[hbt] at this;simp at this
   refine ad (aa (ah [] rfl ?_));have T:=z7 (some ⟨g,0,none⟩) (n+1) g 0 l (λ _=>rfl) (by omega) true;rw[hl] at T;refine cL [] T rfl rfl rfl rfl (by kernel_rfl) ⟨⟨0,_,by simp,rfl,cD,.inr rfl⟩,an⟩ (λ _=>rfl) ?_;rintro v H' ⟨A',c',rfl,rfl⟩;refine⟨rfl,?_⟩;refine ae [] rfl ?_;refine aA [0] (by decide) rfl (ax ⟨_,rfl,.inl ⟨hW,hno,l,A',c',hl,hlr,rfl,rfl⟩⟩)
 ·refine⟨rfl,?_⟩;refine ae [] rfl ?_;refine ad (av (ad (aa (ae [] rfl ?_))));refine aC rfl (λ h=>?_) (λ h=>absurd (cX.1 (GQ.1 h)) hW);refine ad (aa (ae [] rfl ?_));refine aA [] (by decide) rfl (ax ⟨_,rfl,.inr (.inl ⟨hW,rfl,rfl⟩)⟩)
 ·exact absurd h1 (by decide)
structure fu (N:aO) (s:LI):Prop where
 rise:s.Pairwise (·<·)
 rng:∀ x∈s,1<=x/\x<=N.nodes
 src:N.src∈s
 snk:N.snk∉s
theorem u4{s:LI}{v:Int}(h:s.Pairwise (·<·))(hl:∀ x∈s,x<v):(s++[v]).Pairwise (·<·):=by
 rw[H4];exact⟨h,In _ _,λ a ha b hb=>by rw[GF.1 hb];exact hl a ha⟩
def dB(N:aO)(s:LI)(k:Nat):LI:=((List.range k).filter λ (i:Nat)=>match N.arcs[i]? with
 |some a=>decide (a.fr∈s/\a.to∉s)
 |none=>false).map λ (i:Nat)=>(i:Int)
theorem ow{N:aO}{s:LI}{k:Nat}{a:dM}(h:N.arcs[k]?=some a):dB N s (k+1)=dB N s k++(if a.fr∈s/\a.to∉s then [(k:Int)] else []):=by
 unfold dB;rw[Iz,Iu,G5]
 congr 1
 by_cases h2:a.fr∈s/\a.to∉s<;>simp[h,h2]
theorem lI(N:aO)(s:LI)(k:Nat):(dB N s k).length<=k:=by
 unfold dB;rw[GH];exact HK (HN _ _) (by simp)
def ju(s:LI):List (Int×Value):=s.map λ v=>(v,.bool true)
theorem cz(s:LI)(n:Int):(kf (ju s) n).getD (.bool false)=.bool (dk (n∈s)):=by
 induction s with
 |nil=>rw[aZ (by simp)];rfl
 |cons v s ih=>
  show (kf ((v,.bool true)::ju s) n).getD _=_;unfold kf;by_cases h:v=n
  ·rw[if_pos h,aT (by simp[h])];rfl
  ·rw[if_neg h,ih];have:(n∈v::s)↔n∈s:=by simp[Ne.symm h]
   rw[em this]
theorem vA(N:aO)(hN:N.Fits)(hR:N.Right)(A:OA)(c b o:Nat)(hA:N.arcs≠[]->A=some ⟨b,o,none⟩)(s:LI)(hs:fu N s)(hsl:s.length<=100000)(S:OA)(cs bs os:Nat)(hS:s≠[]->S=some ⟨bs,os,none⟩):
 Fn 97 [bx N A c,.slice S s.length cs] [] [.seg b o (arcs N.arcs),.seg bs os (ay s)] λ v H'=>∃ A' c',v=.tuple #[.slice A' (dB N s N.arcs.length).length c',.int .i64 0]/\
  H'=[.own (.slice A' (dB N s N.arcs.length).length c') 3 1 (dB N s N.arcs.length).length (ay (dB N s N.arcs.length))]:=by
 have hl2:=hR.len;have hnn:=hR.nodes;refine aH Tryz.func97 rfl rfl λ w0=>?_;refine ad (aa ?_);refine bz (cs:=bJ N A c) rfl rfl rfl (λ _=>rfl) λ p=>?_;refine ae [] rfl ?_;refine ad (ad (aa ?_));refine ab [] (v:=bx N A c) (af 0 rfl) rfl ?_;refine ao [] (iz N hN A c b o hA) rfl (by kernel_rfl) ⟨⟨1,_,by simp,rfl,ak _ _ _,au⟩,an⟩ (λ _=>rfl) ?_;rintro v H' ⟨rfl,rfl⟩;refine⟨rfl,?_⟩;rw[hR.check];refine ae [] rfl ?_;refine ad (aa (ae [] rfl ?_));refine aC rfl (λ h=>absurd rfl h) (λ _=>aq ?_);refine ad (aa ?_);refine mt rfl (λ _=>rfl) λ bm=>?_;refine ae [] rfl ?_;refine ad (aa (ae [] rfl ?_));refine ad (ad (aa (ae [] rfl ?_)));refine av ?_
 refine bP (σ:=Nat) (λ k=>[(22,.int .i64 k),(21,.int .i64 s.length),(20,.slice S s.length cs),(8,.int .i64 ((s.take k).getLast?.getD 0)),(7,.map (some bm)),(2,.pointer (some ⟨p,0,none⟩))])
  (λ k=>[.obj bm (gR (ju (s.take k))),blk p 33 (bJ N A c),.seg b o (arcs N.arcs),.seg bs os (ay s)]) (λ k=>k<=s.length) (λ k=>s.length-k)
  0 [0,1,2,3] ⟨rfl,rfl,rfl,rfl,rfl,rfl,an⟩ (by decide) rfl (GI _) ?_
 intro k hk;refine ad (aa (ae [] rfl ?_));refine ad (aC rfl (λ hlt=>aq ?_) (λ hge=>a9 ?_))
 ·have hlt:k<s.length:=by omega
  obtain rfl:=hS (by rintro rfl;simp at hlt);obtain⟨x,hx⟩:∃ x,s[k]?=some x:=⟨s[k],Gy hlt⟩;have hxr:=hs.rng x (GB hx)
  have hless:∀ y∈s.take k,y<x:=by
   intro y hy;obtain⟨j,hj,hjy⟩:=Hz.1 hy;have hj':j<k:=by simp at hj;omega
   have h1:=HS.1 hs.rise j k (by omega) hlt hj';rw[IU] at hjy;obtain⟨_,h2⟩:=GC.1 hx;rw[<- hjy,<- h2];exact h1
  have hlast:(s.take k).getLast?.getD 0<x:=by
   cases h:(s.take k).getLast? with
   |none=>show (0:Int)<x;omega
   |some y=>exact hless y (HQ h)
  have htk:s.take (k+1)=s.take k++[x]:=by rw[GW,hx];rfl
  refine ad (av ?_);refine ad (aa (ah [] rfl ?_));refine ab [] (bZ rfl hlt) rfl ?_;refine ab [] (bc 3 rfl rfl (bi hx)) rfl ?_;refine ae [] rfl ?_;refine ad (ad (aa (ah [] rfl ?_)));refine bd 29 rfl (by omega) ?_;refine ah [3] rfl ?_;refine ab [3] (af 1 rfl) rfl ?_;refine ae [3] rfl ?_;refine aC rfl (λ h=>absurd h (by omega)) (λ _=>aq ?_);refine aa (ah [] rfl ?_);refine lZ 0 Tryz.underlying205 Tryz.underlying3 rfl rfl rfl rfl rfl (λ q hq=>?_) [] rfl ?_
  ·obtain⟨y,hy,rfl⟩:=G0.1 hq;have:=hless y hy;show y≠x;omega
  refine ae [] rfl ?_;refine aa (ae [] rfl ?_);refine⟨k+1,[0,1,2,3],⟨?_,rfl,rfl,?_,rfl,rfl,an⟩,by decide,?_,by omega,by omega⟩
  ·show some (Value.int .i64 (IntKind.i64.wrap ((k:Int)+1)))=_;rw[b5 (by omega)];rfl
  ·rw[htk,Hl];rfl
  ·rw[htk];unfold ju;rw[G5];rfl
 ·have hk':k=s.length:=by omega
  subst hk';rw[G8];refine ad (ad (aa (ah [] rfl ?_)));refine ab [] (af 1 rfl) rfl ?_;refine ab [] (dF 0 Tryz.underlying205 Tryz.underlying3 rfl rfl rfl rfl rfl) rfl ?_;refine aI 42 (v':=.bool true) rfl (by rw[cz,aT hs.src]) ?_;refine ah [] rfl ?_;refine aI 44 (v':=.bool false) rfl rfl ?_;refine ah [5] rfl ?_;refine ab [5] (af 1 rfl) rfl ?_;refine ab [5] (dF 0 Tryz.underlying205 Tryz.underlying3 rfl rfl rfl rfl rfl) rfl ?_;refine aI 48 (v':=.bool false) rfl (by rw[cz,aZ hs.snk]) ?_;refine ae [5] rfl ?_;refine bG rfl (aq ?_);refine ad (aa (ae [] rfl ?_));refine ad (ad (aa (ah [] rfl ?_)));refine ab [] (af 1 rfl) rfl ?_;refine ae [] rfl ?_;refine av ?_;refine cd 3 1 ?_
  refine bP (σ:=Nat×OA×Nat) (λ t=>[(53,.int .i64 t.1),(52,.int .i64 N.arcs.length),(51,.slice A N.arcs.length c),(11,.slice t.2.1 (dB N s t.1).length t.2.2),(7,.map (some bm)),(2,.pointer (some ⟨p,0,none⟩))])
   (λ t=>[.own (.slice t.2.1 (dB N s t.1).length t.2.2) 3 1 (dB N s t.1).length (ay (dB N s t.1)),.obj bm (gR (ju s)),blk p 33 (bJ N A c),.seg b o (arcs N.arcs)]) (λ t=>t.1<=N.arcs.length) (λ t=>N.arcs.length-t.1)
   (0,none,0) [0,1,2,3] ⟨rfl,rfl,rfl,rfl,rfl,rfl,an⟩ (by decide) rfl (GI _) ?_
  rintro⟨k,A1,c1⟩ hk;simp only at hk ⊢;have hwl:=lI N s k;refine ad (aa (ae [] rfl ?_));refine ad (aC rfl (λ hlt=>aq ?_) (λ hge=>a9 ?_))
  ·have hlt:k<N.arcs.length:=by omega
   obtain rfl:=hA (by intro h0;rw[h0] at hlt;simp at hlt);obtain⟨x,hx⟩:∃ x,N.arcs[k]?=some x:=⟨N.arcs[k],Gy hlt⟩;have hws:=ow (s:=s) hx;have hq:IntKind.i64.wrap ((k:Int)+1)=((k+1:Nat):Int):=b5 (by omega);refine ad (av ?_);refine ad (aa (ah [] rfl ?_));refine ab [] (eo rfl hlt) rfl ?_;refine ab [] (bc 3 rfl rfl (fX hx)) rfl ?_;refine bu rfl rfl rfl (λ _=>rfl) λ q=>?_;refine ah [] rfl ?_;refine aB 0 rfl [] rfl ?_;refine ai ?_;by_cases hgo:x.fr∈s/\x.to∉s
   ·rw[if_pos hgo] at hws;refine ad (aa (ah [] rfl ?_));refine ab [] (af 0 rfl) rfl ?_;refine ab [] (dF 2 Tryz.underlying205 Tryz.underlying3 rfl rfl rfl rfl rfl) rfl ?_;refine ah [] rfl ?_;refine aI 62 (v':=.bool true) rfl (by rw[cz,aT hgo.1]) ?_;refine ah [4] rfl ?_;refine ab [4] (af 0 rfl) rfl ?_;refine ab [4] (dF 2 Tryz.underlying205 Tryz.underlying3 rfl rfl rfl rfl rfl) rfl ?_;refine aI 66 (v':=.bool false) rfl (by rw[cz,aZ hgo.2]) ?_;refine ae [4] rfl ?_;refine bh rfl ?_;refine aa (ah [] rfl ?_);refine bC rfl rfl rfl rfl rfl rfl rfl (λ _=>rfl) λ g2=>?_;refine bn (n:=(dB N s k).length) (m:=1) (off:=0) (news:=ay [(k:Int)]) 2 0 rfl rfl rfl rfl rfl rfl (by decide) rfl rfl (aD g2 _ _ (0,0)) (λ _=>rfl) rfl rfl (by omega) (by omega) (λ _ _=>rfl) λ A2 c2=>?_;rw[show (dB N s k).length+1=(dB N s (k+1)).length by rw[hws];simp,show ay (dB N s k)++ay [(k:Int)]=ay (dB N s (k+1)) by rw[hws];simp[ay]];refine ae [] rfl ?_;refine aa (ae [] rfl ?_);exact⟨(k+1,A2,c2),[2,3,4,5],⟨Gz some (Gz (Value.int .i64) hq),rfl,rfl,rfl,rfl,rfl,an⟩,by decide,rfl,by simp only;omega,by simp only;omega⟩
   ·rw[if_neg hgo,Hc] at hws
    refine eS [(68,.bool false),(53,.int .i64 k),(52,.int .i64 N.arcs.length),(51,.slice (some ⟨b,o,none⟩) N.arcs.length c),(11,.slice A1 (dB N s k).length c1),(7,.map (some bm)),(2,.pointer (some ⟨p,0,none⟩))]
     [.own (.slice A1 (dB N s k).length c1) 3 1 (dB N s k).length (ay (dB N s k)),.obj bm (gR (ju s)),blk p 33 (bJ N (some ⟨b,o,none⟩) c),.seg b o (arcs N.arcs)] ?_ ?_
    ·skip
     refine aa (ah [] rfl ?_);refine ab [] (af 0 rfl) rfl ?_;refine ab [] (dF 2 Tryz.underlying205 Tryz.underlying3 rfl rfl rfl rfl rfl) rfl ?_;refine ah [] rfl ?_;by_cases h1:x.fr∈s
     ·have h2:x.to∈s:=GQ.1 λ h=>hgo ⟨h1,h⟩;refine aI 62 (v':=.bool true) rfl (by rw[cz,aT h1]) ?_;refine ah [4] rfl ?_;refine ab [4] (af 0 rfl) rfl ?_;refine ab [4] (dF 2 Tryz.underlying205 Tryz.underlying3 rfl rfl rfl rfl rfl) rfl ?_;refine aI 66 (v':=.bool true) rfl (by rw[cz,aT h2]) ?_;refine ae [4] rfl ?_;exact⟨[1,2,3,4],⟨rfl,rfl,rfl,rfl,rfl,rfl,rfl,an⟩,by decide,rfl⟩
     ·refine aI 62 (v':=.bool false) rfl (by rw[cz,aZ h1]) ?_;refine ae [4] rfl ?_;exact⟨[1,2,3,4],⟨rfl,rfl,rfl,rfl,rfl,rfl,rfl,an⟩,by decide,rfl⟩
    ·refine bG rfl (aq ?_);refine aa (ae [] rfl ?_);exact⟨(k+1,A1,c1),[0,1,2,3],⟨Gz some (Gz (Value.int .i64) hq),rfl,rfl,by simp only[hws];rfl,rfl,rfl,an⟩,by decide,by simp only[hws];rfl,by simp only;omega,by simp only;omega⟩
  ·have hk':k=N.arcs.length:=by omega
   subst hk';refine ad (aa (ae [] rfl ?_));exact aA [0] (by decide) rfl (ax ⟨_,rfl,A1,c1,rfl,rfl⟩)
def gF(N:aO)(i:Int):Int:=match N.arcs[i.toNat]? with
 |some a=>a.cap
 |none=>0
open Classical in
noncomputable def jb(s:LI)(l:List dM):Int:=(l.map λ a=>if a.fr∈s/\a.to∉s then a.cap else 0).sum
theorem rK(N:aO)(s:LI):∀ k,k<=N.arcs.length->((dB N s k).map (gF N)).sum=jb s (N.arcs.take k)
 |0,_=>by simp[dB,jb]
 |k+1,h=>by
  obtain⟨a,ha⟩:∃ a,N.arcs[k]?=some a:=⟨N.arcs[k],Gy (by omega)⟩;have ih:=rK N s k (by omega);rw[ow ha,GW,ha,G5,IL,ih];unfold jb;rw[G5,IL]
  congr 1
  by_cases h2:a.fr∈s/\a.to∉s
  ·simp only[if_pos h2,GM,HC,GY,List.sum_nil,Option.toList_some];show gF N (k:Int)+0=a.cap+0;unfold gF;rw[G1,ha]
  ·simp only[if_neg h2,GM,HC,GY,List.sum_nil,Option.toList_some];rfl
theorem gg:∀ (l:LI),(∀ x∈l,0<=x)->0<=l.sum
 |[],_=>by simp
 |x::l,h=>by
  have:=gg l λ y hy=>h y (by simp[hy]);have:=h x (by simp);simp only[GY];omega
theorem CB{N:aO}(hR:N.Right)(s:LI):0<=jb s N.arcs/\jb s N.arcs<=4611686018427387903:=by
 have h1:∀ (l:List dM),(∀ a∈l,0<=a.cap)->0<=jb s l/\jb s l<=(l.map (·.cap)).sum:=by
  intro l
  induction l with
  |nil=>intro _;simp[jb]
  |cons a l ih=>
   intro h;have h2:=ih λ x hx=>h x (by simp[hx]);have h3:=h a (by simp);unfold jb at h2 ⊢;simp only[GM,GY];split<;>omega
 have:=h1 N.arcs λ a ha=>(hR.arc a ha).2.2;have:=hR.sum;omega
theorem oy(N:aO)(hN:N.Fits)(hR:N.Right)(A:OA)(c b o:Nat)(hA:N.arcs≠[]->A=some ⟨b,o,none⟩)(s:LI)(hs:fu N s)(hsl:s.length<=100000)(S:OA)(cs bs os:Nat)(hS:s≠[]->S=some ⟨bs,os,none⟩):
 Fn 59 [bx N A c,.slice S s.length cs] [] [.seg b o (arcs N.arcs),.seg bs os (ay s)] λ v H'=>v=qI (jb s N.arcs,0)/\H'=[]:=by
 have hl2:=hR.len;obtain⟨l,hl⟩:∃ l,l=dB N s N.arcs.length:=⟨_,rfl⟩;have hll:=lI N s N.arcs.length;have htot:(l.map (gF N)).sum=jb s N.arcs:=by rw[hl,rK N s _ (GN _),G8]
 have hmem:∀ x∈l,∃ (i:Nat) (a:dM),x=i/\N.arcs[i]?=some a/\gF N x=a.cap/\0<=a.cap:=by
  intro x hx;rw[hl] at hx;unfold dB at hx;obtain⟨i,hi,rfl⟩:=G0.1 hx;have hi2:=(Ig.1 hi).2
  cases ha:N.arcs[i]? with
  |none=>rw[ha] at hi2;simp at hi2
  |some a=>exact⟨i,a,rfl,ha,by unfold gF;rw[G1,ha],(hR.arc a (GB ha)).2.2⟩
 have hpos:∀ x∈l.map (gF N),0<=x:=by
  intro x hx;obtain⟨y,hy,rfl⟩:=G0.1 hx;obtain⟨_,a,_,_,h3,h4⟩:=hmem y hy;rw[h3];exact h4
 have hcz:=CB hR s
 have hpart:∀ k,0<=((l.take k).map (gF N)).sum/\((l.take k).map (gF N)).sum<=4611686018427387903:=by
  intro k;have e:((l.take k).map (gF N)).sum+((l.drop k).map (gF N)).sum=jb s N.arcs:=by rw[<- IL,<- G5,HD,htot]
  have h1:=gg ((l.take k).map (gF N)) λ x hx=>hpos x (by rw[List.map_take] at hx;exact HA hx);have h2:=gg ((l.drop k).map (gF N)) λ x hx=>hpos x (by rw[List.map_drop] at hx;exact List.mem_of_mem_drop hx);omega
 refine aH Tryz.func59 rfl rfl λ w0=>?_;refine ad (aa ?_);refine bz (cs:=bJ N A c) rfl rfl rfl (λ _=>rfl) λ p=>?_;refine ae [] rfl ?_;refine ad (aa ?_);refine ab [] (v:=bx N A c) (af 0 rfl) rfl ?_;refine ah [] rfl ?_;refine ao [] (vA N hN hR A c b o hA s hs hsl S cs bs os hS) rfl (by kernel_rfl) ⟨⟨1,_,by simp,rfl,ak _ _ _,au⟩,⟨2,_,by simp,rfl,ak _ _ _,au⟩,an⟩ (λ _=>rfl) ?_;rintro v H' ⟨A1,c1,rfl,rfl⟩;refine⟨rfl,?_⟩;rw[<- hl] at hll ⊢;refine ae [] rfl ?_;refine ad (aa (ae [] rfl ?_));refine ad (ad (aa (ae [] rfl ?_)));refine bv (a8 0 rfl) λ ⟨_,_,hA1,_⟩=>?_;refine av ?_
 refine bP (σ:=Nat) (λ k=>[(19,.int .i64 k),(18,.int .i64 l.length),(17,.slice A1 l.length c1),(8,.int .i64 ((l.take k).map (gF N)).sum),(7,.int .i64 0),(2,.pointer (some ⟨p,0,none⟩))])
  (λ k=>[.own (.slice A1 l.length c1) 3 1 l.length (ay l),blk p 33 (bJ N A c),.seg b o (arcs N.arcs)]) (λ k=>k<=l.length) (λ k=>l.length-k)
  0 [0,1,2] ⟨rfl,rfl,rfl,rfl,rfl,rfl,an⟩ (by decide) rfl (GI _) ?_
 intro k hk;refine ad (aa (ae [] rfl ?_));refine ad (aC rfl (λ hlt=>aq ?_) (λ hge=>a9 ?_))
 ·have hlt:k<l.length:=by omega
  obtain⟨g1,rfl⟩:=hA1 (by omega);obtain⟨x,hx⟩:∃ x,l[k]?=some x:=⟨l[k],Gy hlt⟩;obtain⟨i,a,rfl,ha,hcap,hc0⟩:=hmem x (GB hx);have hil:i<N.arcs.length:=(GC.1 ha).1;obtain rfl:=hA (by intro h0;rw[h0] at hil;simp at hil);obtain⟨_,_,hac⟩:=eg ha;have htk:((l.take (k+1)).map (gF N)).sum=((l.take k).map (gF N)).sum+a.cap:=by rw[GW,hx,G5,IL];simp[hcap]
  have hb1:=hpart (k+1);rw[htk] at hb1;refine ad (av ?_);refine ad (aa (ah [] rfl ?_));refine ab [] (aG rfl hlt) rfl ?_;refine ab [] (aE 0 rfl rfl rfl (bi hx)) rfl ?_;refine ae [] rfl ?_;refine aa (ah [] rfl ?_);refine ab [] (af 1 rfl) rfl ?_;refine ah [] rfl ?_;refine ab [] (eo rfl hil) rfl ?_;refine ah [] rfl ?_;refine ab [] (bc 2 rfl rfl hac) rfl ?_;refine ae [] rfl ?_;refine aa (ae [] rfl ?_);refine⟨k+1,[0,1,2],⟨?_,rfl,rfl,?_,rfl,rfl,an⟩,by decide,rfl,by omega,by omega⟩
  ·show some (Value.int .i64 (IntKind.i64.wrap ((k:Int)+1)))=_;rw[b5 (by omega)];rfl
  ·show some (Value.int .i64 (IntKind.i64.wrap (((l.take k).map (gF N)).sum+a.cap)))=_;rw[htk,b5 (by omega)]
 ·have hk':k=l.length:=by omega
  subst hk';refine ad (aa (ae [] rfl ?_));refine aA [] (by decide) rfl (ax ⟨_,rfl,?_,rfl⟩);rw[G8,htot];rfl
theorem sO:∀ (al:List dM) (f:LI) (i:Nat) (a:dM) (x m v:Int),al[i]?=some a->f[i]?=some x->
 da (al.zip (f.set i (x+m))) v=da (al.zip f) v+((if a.to=v then m else 0)-(if a.fr=v then m else 0))
 |[],_,_,_,_,_,_,h,_=>by simp at h
 |_::_,[],_,_,_,_,_,_,h=>by simp at h
 |b::al,y::f,0,a,x,m,v,ha,hx=>by
  simp only[HP,GA] at ha hx;subst ha hx;simp only[Id,IK,da,GM,GY];split<;>split<;>omega
 |b::al,y::f,i+1,a,x,m,v,ha,hx=>by
  have:=sO al f i a x m v (by simpa using ha) (by simpa using hx);simp only[da] at this;simp only[List.set_cons_succ,IK,da,GM,GY];omega
def iu(N:aO):Int->LN->Int->Prop
 |a,[],z=>a=z
 |a,i::W,z=>∃ r:dM,N.arcs[i]?=some r/\r.fr=a/\iu N r.to W z
theorem lR{N:aO}{i:Nat}{r:dM}(h:N.arcs[i]?=some r):∀ {W:LN} {a:Int},iu N a W r.fr->iu N a (W++[i]) r.to
 |[],_,hw=>⟨r,h,hw.symm,rfl⟩
 |_::_,_,⟨q,h1,h2,h3⟩=>⟨q,h1,h2,lR h h3⟩
theorem sq(t x:Int):∀ (s:LI),s.Nodup->(s.map λ v=>if t=v then x else 0).sum=if t∈s then x else 0
 |[],_=>by simp
 |v::s,h=>by
  have h1:=GZ.1 h;simp only[GM,GY,sq t x s h1.2];by_cases e:t=v
  ·subst e;rw[if_pos rfl,if_neg h1.1,if_pos (by simp)];omega
  ·rw[if_neg e];by_cases e2:t∈s
   ·rw[if_pos e2,if_pos (by simp[e2])];omega
   ·rw[if_neg e2,if_neg (by simp[e,e2])];omega
def ki(s:LI)(ps:List (dM×Int)):Int:=(ps.map λ p=>(if p.1.fr∈s then p.2 else 0)-(if p.1.to∈s then p.2 else 0)).sum
theorem wX(f g:Int->Int):∀ s:LI,(s.map λ v=>f v-g v).sum=(s.map f).sum-(s.map g).sum
 |[]=>by simp
 |v::s=>by simp only[GM,GY,wX f g s];omega
theorem xk(f g:Int->Int):∀ s:LI,(s.map λ v=>f v+g v).sum=(s.map f).sum+(s.map g).sum
 |[]=>by simp
 |v::s=>by simp only[GM,GY,xk f g s];omega
theorem vt{s:LI}(hs:s.Nodup):∀ ps:List (dM×Int),(s.map (da ps)).sum=-ki s ps
 |[]=>by
  have:∀ s:LI,(s.map (da [])).sum=0:=by
   intro s
   induction s with
   |nil=>rfl
   |cons v s ih=>simp only[GM,GY,ih];simp[da]
  rw[this];simp[ki]
 |p::ps=>by
  have ih:=vt hs ps
  have e:(s.map (da (p::ps)))=s.map λ v=>((if p.1.to=v then p.2 else 0)-(if p.1.fr=v then p.2 else 0))+da ps v:=by
   refine HM λ v _=>?_;simp only[da,GM,GY]
  rw[e,xk,wX,sq _ _ s hs,sq _ _ s hs,ih];simp only[ki,GM,GY];omega
theorem tm(g:Int->Int):∀ s:LI,(∀ v∈s,g v=0)->(s.map g).sum=0
 |[],_=>by simp
 |v::s,h=>by simp only[GM,GY,tm g s λ w hw=>h w (by simp[hw]),h v (by simp)];omega
theorem mm(g:Int->Int)(a:Int):∀ s:LI,s.Nodup->a∈s->(∀ v∈s,v≠a->g v=0)->(s.map g).sum=g a
 |[],_,h,_=>by simp at h
 |v::s,hn,ha,h=>by
  have h1:=GZ.1 hn;simp only[GM,GY];by_cases e:v=a
  ·subst e;rw[tm g s λ w hw=>h w (by simp[hw]) (λ e=>h1.1 (e▸hw))];omega
  ·have ha':a∈s:=(GL.1 ha).resolve_left (λ h=>e h.symm);rw[mm g a s h1.2 ha' λ w hw=>h w (by simp[hw]),h v (by simp) e];omega
theorem pS{s:LI}(h:s.Pairwise (·<·)):s.Nodup:=h.imp λ h=>by omega
theorem xz{N:aO}{f:LI}(hf:aK N f){s:LI}(hs:fu N s):da (N.arcs.zip f) N.src=-ki s (N.arcs.zip f):=by
 rw[<- vt (pS hs.rise),mm _ N.src s (pS hs.rise) hs.src λ v hv hne=>hf.kept v (hs.rng v hv) hne λ e=>hs.snk (e▸hv)]
def qC(n:Nat)(z:Int):LI:=((List.range (n+1)).map λ (v:Nat)=>(v:Int)).filter λ v=>decide (1<=v/\v≠z)
theorem l9{n:Nat}{z x:Int}:x∈qC n z↔1<=x/\x<=n/\x≠z:=by
 unfold qC;simp only[Ig,G0,Hs,Ha]
 constructor
 ·rintro⟨⟨v,hv,rfl⟩,h1,h2⟩;exact⟨h1,by omega,h2⟩
 ·rintro⟨h1,h2,h3⟩;exact⟨⟨x.toNat,by omega,by omega⟩,h1,h3⟩
theorem wI{N:aO}(hR:N.Right)(n:Nat)(hn:N.nodes=n)(s:LI)(hs:∀ x:Int,x∈s↔1<=x/\x<=n/\x≠N.snk):∀ ps:List (dM×Int),(∀ p∈ps,p.1∈N.arcs)->ki s ps=da ps N.snk
 |[],_=>by simp[ki,da]
 |p::ps,h=>by
  have ih:=wI hR n hn s hs ps λ q hq=>h q (by simp[hq]);have h1:=hR.arc p.1 (h p (by simp));have e1:p.1.fr∈s↔p.1.fr≠N.snk:=by rw[hs];omega
  have e2:p.1.to∈s↔p.1.to≠N.snk:=by rw[hs];omega
  have e3:N.snk∉s:=by rw[hs];omega
  simp only[ki,da,GM,GY] at ih ⊢;rw[ih];by_cases a1:p.1.fr=N.snk<;>by_cases a2:p.1.to=N.snk<;>simp[e1,e2,e3,a1,a2]<;>omega
theorem mL(n:Nat)(z:Int):(qC n z).Nodup:=by
 unfold qC
 have h:((List.range (n+1)).map λ (v:Nat)=>(v:Int)).Nodup:=by
  rw[List.nodup_iff_pairwise_ne,List.pairwise_map];exact List.nodup_range.imp λ h e=>h (by omega)
 exact List.Pairwise.filter _ h
theorem kY{N:aO}(hR:N.Right){f:LI}(hf:aK N f){s:LI}(hs:fu N s):da (N.arcs.zip f) N.snk=ki s (N.arcs.zip f):=by
 have hnn:=hR.nodes;have hsr:=hR.src;have hd:=hR.diff;obtain⟨n,hn⟩:∃ n:Nat,N.nodes=n:=⟨N.nodes.toNat,by omega⟩;have h1:=wI hR n hn (qC n N.snk) (λ x=>l9) (N.arcs.zip f) λ p hp=>(List.of_mem_zip hp).1;have h2:=vt (mL n N.snk) (N.arcs.zip f)
 rw[mm _ N.src _ (mL n N.snk) (l9.2 ⟨by omega,by omega,hd⟩) λ v hv hne=>by
  have:=l9.1 hv;exact hf.kept v (by omega) hne this.2.2,xz hf hs,h1] at h2
 omega
def gK(m:Int):LN->LI->LI
 |[],f=>f
 |i::W,f=>gK m W (f.set i (f.getD i 0+m))
theorem i7(m:Int):∀ (W:LN) (f:LI),(gK m W f).length=f.length
 |[],_=>rfl
 |i::W,f=>by rw[gK,i7 m W];simp
theorem m0{N:aO}{z m v:Int}:∀ (W:LN) (a:Int) (f:LI),f.length=N.arcs.length->iu N a W z->da (N.arcs.zip (gK m W f)) v=da (N.arcs.zip f) v+((if z=v then m else 0)-(if a=v then m else 0))
 |[],a,f,_,h=>by
  have h':a=z:=h;rw[gK,h'];omega
 |i::W,a,f,hl,⟨r,h1,h2,h3⟩=>by
  have hi:i<N.arcs.length:=(GC.1 h1).1;have hx:f[i]?=some (f.getD i 0):=by rw[GD,Gy (by omega)];rfl
  rw[gK,m0 W r.to _ (by simp[hl]) h3,sO N.arcs f i r _ m v h1 hx,h2];omega
theorem uH(m:Int):∀ (W:LN) (f:LI) (j:Nat),W.Nodup->(∀ i∈W,i<f.length)->(gK m W f)[j]?=if j∈W then some (f.getD j 0+m) else f[j]?
 |[],f,j,_,_=>by simp[gK]
 |i::W,f,j,hn,hi=>by
  have h1:=GZ.1 hn;rw[gK,uH m W _ j h1.2 (λ k hk=>by simp;exact hi k (by simp[hk]))];by_cases e:j=i
  ·subst e;rw[if_neg h1.1,if_pos (by simp),GO (hi j (by simp))]
  ·by_cases e2:j∈W
   ·rw[if_pos e2,if_pos (by simp[e2])];simp only[GD];rw[GR (λ h=>e h.symm)]
   ·rw[if_neg e2,if_neg (by simp[e,e2]),GR (λ h=>e h.symm)]
theorem mb:∀ {l:LI},(∀ x∈l,0<=x)->∀ {x},x∈l->x<=l.sum
 |[],_,_,h=>by cases h
 |y::l,h,x,hx=>by
  have h0:0<=l.sum:=by
   clear hx
   have h':∀ x∈l,0<=x:=λ x hx=>h x (by simp[hx])
   clear h
   induction l with
   |nil=>simp
   |cons z l ih=>
    have:=h' z (by simp);have:=ih (λ x hx=>h' x (by simp[hx]));rw[GY];omega
  rw[GY]
  rcases GL.1 hx with rfl|hx
  ·omega
  ·have:=h y (by simp);have:=mb (λ x hx=>h x (by simp[hx])) hx;omega
theorem aO.Right.cap{N:aO}(h:N.Right){a:dM}(ha:a∈N.arcs):a.cap<=4611686018427387903:=
 Je (mb (l:=N.arcs.map (·.cap)) (λ x hx=>by obtain⟨b,hb,rfl⟩:=G0.1 hx;exact (h.arc b hb).2.2) (G0.2 ⟨a,ha,rfl⟩)) h.sum
theorem aK.inB{N:aO}(hR:N.Right){f:LI}(hf:Ranged N f):∀ x∈f,bU x:=by
 intro x hx;obtain⟨j,hj,rfl⟩:=Hz.1 hx;have hl:=hf.len;have ha:N.arcs[j]?=some (N.arcs[j]'(by omega)):=Gy (by omega);have h2:=hf.all (N.arcs[j]'(by omega),f[j]) (GB (Hr.2 ⟨ha,Gy hj⟩));have h3:=hR.cap (GB ha);simp only at h2;unfold Go.Proofs.YtmcnpaelaieniaaGreatDoor.bU;omega
theorem fG(N:aO)(hR:N.Right):aK N (List.replicate N.arcs.length 0):=by
 have hz:∀ (l:List dM) (v:Int),da (l.zip (List.replicate l.length 0)) v=0:=by
  intro l v
  induction l with
  |nil=>simp[da]
  |cons a l ih=>
   simp only[da] at ih;simp only[da,GG,HE,IK,GM,GY,ih];split<;>split<;>rfl
 refine⟨⟨by simp,λ p hp=>?_⟩,λ v _ _ _=>hz _ _⟩;obtain⟨h1,h2⟩:=List.of_mem_zip hp;have:=(hR.arc p.1 h1).2.2;have:=List.eq_of_mem_replicate h2;omega
def dG(N:aO)(r:Nat):Nat:=(cE N r).1.toNat
def eX(N:aO)(r:Nat):Nat:=(cE N r).2.toNat
theorem kN{N:aO}(hR:N.Right){r:Nat}(hr:r<2*N.arcs.length):(cE N r).1=(dG N r:Int)/\1<=dG N r/\(dG N r:Int)<=N.nodes:=by
 have:=gN hR hr;unfold dG;omega
theorem gV{N:aO}(hR:N.Right){r:Nat}(hr:r<2*N.arcs.length):(cE N r).2=(eX N r:Int)/\1<=eX N r/\(eX N r:Int)<=N.nodes:=by
 have:=gN hR hr;unfold eX;omega
def bN(r:Nat):Nat:=if r%2=1 then r-1 else r+1
theorem jK(r:Nat):bN (bN r)=r:=by unfold bN;split<;>split<;>omega
theorem uP(r:Nat):bN r≠r:=by unfold bN;split<;>omega
theorem vd{r m:Nat}(h:r<2*m):bN r<2*m:=by unfold bN;split<;>omega
theorem vG(r:Nat):bN r/2=r/2:=by unfold bN;split<;>omega
theorem fJ(N:aO)(r:Nat):dG N (bN r)=eX N r:=by
 unfold dG eX cE;rw[vG]
 cases N.arcs[r/2]? with
 |none=>rfl
 |some a=>
  show (dn a (bN r)).1.toNat=(dn a r).2.toNat;unfold dn bN;split<;>split<;>first|rfl|omega
theorem iL(N:aO)(r:Nat):eX N (bN r)=dG N r:=by
 have:=fJ N (bN r);rw[jK] at this;exact this.symm
def Tr(N:aO):Nat->LN->Nat->Prop
 |a,[],z=>a=z
 |a,r::W,z=>dG N r=a/\Tr N (eX N r) W z
theorem Cp{N:aO}{r:Nat}:∀ {W:LN} {a:Nat},Tr N a W (dG N r)->Tr N a (W++[r]) (eX N r)
 |[],_,h=>⟨h.symm,rfl⟩
 |_::_,_,⟨h1,h2⟩=>⟨h1,Cp h2⟩
theorem mK{N:aO}{r z:Nat}:∀ {W:LN} {a:Nat},Tr N a (W++[r]) z->Tr N a W (dG N r)/\z=eX N r
 |[],_,⟨h1,h2⟩=>⟨h1.symm,h2.symm⟩
 |_::_,_,⟨h1,h2⟩=>⟨⟨h1,(mK h2).1⟩,(mK h2).2⟩
theorem sx{N:aO}:∀ {W:LN} {a z:Nat} (k:Nat),Tr N a W z->∃ y,Tr N a (W.take k) y
 |[],a,_,k,_=>⟨a,by rw[List.take_nil];exact rfl⟩
 |r::W,a,z,0,_=>⟨a,rfl⟩
 |r::W,a,z,k+1,⟨h1,h2⟩=>by obtain⟨y,hy⟩:=sx k h2;exact⟨y,h1,hy⟩
def cV(N:aO)(W:LN):Nat:=match W.getLast? with
 |none=>N.src.toNat
 |some r=>eX N r
theorem nm(N:aO)(W:LN)(r:Nat):cV N (W++[r])=eX N r:=by unfold cV;rw[Hl];rfl
theorem v8{N:aO}{W:LN}{z:Nat}(h:Tr N N.src.toNat W z):z=cV N W:=by
 rcases Ht W with rfl|⟨W0,r,rfl⟩
 ·exact h.symm
 ·rw[Hu] at h ⊢;rw[(mK h).2,nm]
structure eE (N:aO) (L:Nat->LN) (lv:Nat->Int):Prop where
 ok:∀ v r,r∈L v->r<2*N.arcs.length/\dG N r=v/\lv (eX N r)=lv v+1
 hi:∀ v,-1<=lv v/\lv v<N.nodes
theorem mF{N:aO}{L:Nat->LN}{lv:Nat->Int}(hG:eE N L lv):∀ {W:LN} {a z:Nat},Tr N a W z->(∀ r∈W,r∈L (dG N r))->lv z=lv a+W.length/\∀ r∈W,lv a<=lv (dG N r)/\lv (dG N r)<lv z
 |[],a,z,h,_=>by rw[show a=z from h];simp
 |r::W,a,z,⟨h1,h2⟩,hW=>by
  have h3:=(hG.ok _ _ (hW r (by simp))).2.2;obtain⟨h4,h5⟩:=mF hG h2 λ q hq=>hW q (by simp[hq]);rw[h1] at h3;refine⟨by rw[h4,h3,GG];omega,λ q hq=>?_⟩
  rcases GL.1 hq with rfl|hq
  ·rw[h1];omega
  ·have:=h5 q hq;omega
theorem qn{N:aO}{L:Nat->LN}{lv:Nat->Int}(hG:eE N L lv):∀ {W:LN} {a z:Nat},Tr N a W z->(∀ r∈W,r∈L (dG N r))->W.Nodup/\∀ r∈W,∀ q∈W,bN r≠q
 |[],a,z,h,_=>⟨IX,λ _ h=>by cases h⟩
 |r::W,a,z,⟨h1,h2⟩,hW=>by
  obtain⟨h3,h4⟩:=qn hG h2 λ q hq=>hW q (by simp[hq]);have hr:=(hG.ok _ _ (hW r (by simp))).2.2;have h5:=(mF hG h2 λ q hq=>hW q (by simp[hq])).2
  have hf:∀ s∈r::W,∀ q∈r::W,bN s=q->False:=by
   intro s hs q hq e;have h6:=(hG.ok _ _ (hW s hs)).2.2;have h7:=(hG.ok _ _ (hW q hq)).2.2;rw[<- e,iL,fJ] at h7;omega
  refine⟨GZ.2 ⟨λ hin=>?_,h3⟩,λ s hs q hq e=>hf s hs q hq e⟩;have:=(h5 r hin).1;omega
def mC(L:Nat->LN)(pos:LN)(u:Nat):Prop:=∀ p,pos[u]?=some p->(L u).length<=p
structure PI (N:aO) (L:Nat->LN) (least:Int) (rm:LI) (pos W:LN):Prop where
 pl:pos.length=N.nodes.toNat+1
 tr:∃ z,Tr N N.src.toNat W z
 head:∀ r∈W,∃ p,pos[dG N r]?=some p/\(L (dG N r))[p]?=some r/\least<=rm.getD r 0
 pass:∀ v p,pos[v]?=some p->∀ j r,j<p->(L v)[j]?=some r->rm.getD r 0<least\/(eX N r≠N.snk.toNat/\mC L pos (eX N r))
theorem uh{pos:LN}{v p u q:Nat}(h:pos[v]?=some p)(hq:(pos.set v (p+1))[u]?=some q):∃ q0,pos[u]?=some q0/\q0<=q/\(u≠v->q0=q):=by
 by_cases e:v=u
 ·subst e;rw[GO (GC.1 h).1] at hq;simp only[GA] at hq;exact⟨p,h,by omega,λ h=>absurd rfl h⟩
 ·rw[GR e] at hq;exact⟨q,hq,GN _,λ _=>rfl⟩
theorem mC.more{L:Nat->LN}{pos:LN}{v p u:Nat}(h:mC L pos u)(hp:pos[v]?=some p):mC L (pos.set v (p+1)) u:=by
 intro q hq;obtain⟨q0,h1,h2,_⟩:=uh hp hq;exact HK (h q0 h1) h2
section
variable {N:aO} {L:Nat->LN} {lv:Nat->Int} {least:Int} {rm:LI} {pos W:LN}
theorem PI.on(h:PI N L least rm pos W):Tr N N.src.toNat W (cV N W):=by
 obtain⟨z,hz⟩:=h.tr;rw[<- v8 hz];exact hz
theorem PI.mem(h:PI N L least rm pos W):∀ r∈W,r∈L (dG N r):=λ r hr=>by
 obtain⟨p,_,h2,_⟩:=h.head r hr;exact GB h2
theorem PI.go(h:PI N L least rm pos W)(hG:eE N L lv){p r:Nat}(hp:pos[cV N W]?=some p)(hr:(L (cV N W))[p]?=some r)(hl:least<=rm.getD r 0):PI N L least rm pos (W++[r]):=by
 have hf:=(hG.ok _ _ (GB hr)).2.1;refine⟨h.pl,⟨_,Cp (hf.symm▸h.on)⟩,λ q hq=>?_,h.pass⟩
 rcases GK.1 hq with hq|hq
 ·exact h.head q hq
 ·rw[GF.1 hq,hf];exact⟨p,hp,hr,hl⟩
theorem PI.bump(h:PI N L least rm pos W){v p r:Nat}(hv:∀ q∈W,dG N q≠v)(hp:pos[v]?=some p)(hr:(L v)[p]?=some r)(hl:rm.getD r 0<least\/(eX N r≠N.snk.toNat/\mC L pos (eX N r))):PI N L least rm (pos.set v (p+1)) W:=by
 refine⟨by rw[Hp];exact h.pl,h.tr,λ q hq=>?_,λ u q hq j s hj hs=>?_⟩
 ·obtain⟨k,h1,h2,h3⟩:=h.head q hq;exact⟨k,by rw[GR (hv q hq).symm];exact h1,h2,h3⟩
 ·obtain⟨q0,h1,h2,h3⟩:=uh hp hq
  have key:rm.getD s 0<least\/(eX N s≠N.snk.toNat/\mC L pos (eX N s)):=by
   by_cases e:u=v
   ·subst e;rw[hp] at h1;simp only[GA] at h1;rw[GO (GC.1 hp).1] at hq;simp only[GA] at hq;by_cases ej:j=p
    ·subst ej;rw[hr] at hs;simp only[GA] at hs;rw[<- hs];exact hl
    ·exact h.pass u p hp j s (by omega) hs
   ·have:=h3 e;subst this;exact h.pass u q0 h1 j s hj hs
  rcases key with k|⟨k1,k2⟩
  ·exact .inl k
  ·exact .inr ⟨k1,k2.more hp⟩
theorem PI.skip(h:PI N L least rm pos W)(hG:eE N L lv){p r:Nat}(hp:pos[cV N W]?=some p)(hr:(L (cV N W))[p]?=some r)(hl:rm.getD r 0<least):PI N L least rm (pos.set (cV N W) (p+1)) W:=
 h.bump (λ q hq e=>by have:=((mF hG h.on h.mem).2 q hq).2;rw[e] at this;omega) hp hr (.inl hl)
theorem PI.drop{r:Nat}(h:PI N L least rm pos (W++[r])):PI N L least rm pos W:=by
 obtain⟨z,hz⟩:=h.tr;exact⟨h.pl,⟨_,(mK hz).1⟩,λ q hq=>h.head q (by simp[hq]),h.pass⟩
theorem PI.back_at{r:Nat}(h:PI N L least rm pos (W++[r])):∃ q,pos[cV N W]?=some q/\(L (cV N W))[q]?=some r/\dG N r=cV N W:=by
 obtain⟨z,hz⟩:=h.tr;have e:=v8 (mK hz).1;obtain⟨p,h1,h2,_⟩:=h.head r (by simp);rw[e] at h1 h2;exact⟨p,h1,h2,e⟩
theorem PI.back{r p q:Nat}(h:PI N L least rm pos (W++[r]))(hG:eE N L lv)(hs:cV N (W++[r])≠N.snk.toNat)(hp:pos[cV N (W++[r])]?=some p)(hl:(L (cV N (W++[r]))).length<=p)(hq:pos[cV N W]?=some q):
 PI N L least rm (pos.set (cV N W) (q+1)) W:=by
 obtain⟨q',h1,h2,h3⟩:=h.back_at;rw[hq] at h1;simp only[GA] at h1;subst h1;rw[nm] at hs hp hl;refine h.drop.bump (λ s hs' e=>?_) hq h2 (.inr ⟨hs,λ p' hp'=>?_⟩)
 ·have:=((mF hG h.drop.on h.drop.mem).2 s hs').2;rw[e] at this;omega
 ·rw[hp] at hp';simp only[GA] at hp';rw[<- hp'];exact hl
end
inductive Nx (N:aO) (L:Nat->LN) (least:Int) (rm:LI):LN->LN->Bool->LN->LN->Prop
 |hit {pos W:LN}:cV N W=N.snk.toNat->Nx N L least rm pos W true pos W
 |go {pos W pos' W':LN} {r p:Nat} {b:Bool}:cV N W≠N.snk.toNat->pos[cV N W]?=some p->(L (cV N W))[p]?=some r->least<=rm.getD r 0->Nx N L least rm pos (W++[r]) b pos' W'->Nx N L least rm pos W b pos' W'
 |skip {pos W pos' W':LN} {r p:Nat} {b:Bool}:cV N W≠N.snk.toNat->pos[cV N W]?=some p->(L (cV N W))[p]?=some r->rm.getD r 0<least->Nx N L least rm (pos.set (cV N W) (p+1)) W b pos' W'->Nx N L least rm pos W b pos' W'
 |back {pos W pos' W':LN} {r p q:Nat} {b:Bool}:cV N (W++[r])≠N.snk.toNat->pos[cV N (W++[r])]?=some p->(L (cV N (W++[r]))).length<=p->pos[cV N W]?=some q->Nx N L least rm (pos.set (cV N W) (q+1)) W b pos' W'->Nx N L least rm pos (W++[r]) b pos' W'
 |stop {pos:LN} {p:Nat}:N.src.toNat≠N.snk.toNat->pos[N.src.toNat]?=some p->(L N.src.toNat).length<=p->Nx N L least rm pos [] false pos []
theorem Nx.keeps{N:aO}{L:Nat->LN}{lv:Nat->Int}{least:Int}{rm:LI}(hG:eE N L lv){pos W pos' W':LN}{b:Bool}(h:Nx N L least rm pos W b pos' W'):
 PI N L least rm pos W->PI N L least rm pos' W'/\(b=true->cV N W'=N.snk.toNat)/\(b=false->W'=[]/\mC L pos' N.src.toNat):=by
 induction h with
 |hit h=>exact λ hI=>⟨hI,λ _=>h,λ h=>(by cases h)⟩
 |go _ h2 h3 h4 _ ih=>exact λ hI=>ih (hI.go hG h2 h3 h4)
 |skip _ h2 h3 h4 _ ih=>exact λ hI=>ih (hI.skip hG h2 h3 h4)
 |back h1 h2 h3 h4 _ ih=>exact λ hI=>ih (hI.back hG h1 h2 h3 h4)
 |stop _ h2 h3=>exact λ hI=>⟨hI,λ h=>(by cases h),λ _=>⟨rfl,λ p hp=>by rw[h2] at hp;simp only[GA] at hp;rw[<- hp];exact h3⟩⟩
inductive LP (N:aO) (L:Nat->LN) (least:Int) (rm:LI):Nat->Prop
 |src:LP N L least rm N.src.toNat
 |step {r:Nat}:LP N L least rm (dG N r)->r∈L (dG N r)->least<=rm.getD r 0->LP N L least rm (eX N r)
theorem xu{N:aO}(hR:N.Right){L:Nat->LN}{lv:Nat->Int}{least:Int}{rm:LI}(hG:eE N L lv){pos:LN}(hI:PI N L least rm pos [])(hd:mC L pos N.src.toNat)(hs:N.src.toNat≠N.snk.toNat):
 ∀ {u},LP N L least rm u->u≠N.snk.toNat/\mC L pos u:=by
 intro u h
 induction h with
 |src=>exact⟨hs,hd⟩
 |@step r _ hr hl ih=>
  obtain⟨j,hj,hjr⟩:=Hz.1 hr;have hlt:=(hG.ok _ _ hr).1;have hf:=kN hR hlt;have hlen:dG N r<pos.length:=by rw[hI.pl];omega
  obtain⟨p,hp⟩:∃ p,pos[dG N r]?=some p:=⟨pos[dG N r],Gy hlen⟩;have:=ih.2 p hp
  rcases hI.pass _ p hp j r (by omega) (by rw[Gy hj,hjr]) with k|k
  ·omega
  ·exact k
def mP(a:Int)(r:Nat)(rm:LI):LI:=(rm.set r (rm.getD r 0-a)).set (bN r) (rm.getD (bN r) 0+a)
def cm(a:Int):LN->LI->LI
 |[],rm=>rm
 |r::W,rm=>cm a W (mP a r rm)
theorem j8(a:Int)(r:Nat)(rm:LI):(mP a r rm).length=rm.length:=by simp[mP]
theorem fL(a:Int):∀ (W:LN) (rm:LI),(cm a W rm).length=rm.length
 |[],_=>rfl
 |r::W,rm=>by rw[cm,fL a W,j8]
theorem rM(a:Int)(r:Nat):∀ (W:LN) (rm:LI),cm a (W++[r]) rm=mP a r (cm a W rm)
 |[],_=>rfl
 |q::W,rm=>by simp only[Hv,cm];exact rM a r W _
theorem iw{l:LI}{i j:Nat}{x d:Int}(hi:i<l.length):(l.set i x).getD j d=if i=j then x else l.getD j d:=by
 simp only[GD];by_cases e:i=j
 ·subst e;rw[if_pos rfl,GO hi];rfl
 ·rw[if_neg e,GR e]
theorem qN{a:Int}{r m:Nat}{rm:LI}(hl:rm.length=2*m)(hr:r<2*m)(q:Nat):
 (mP a r rm).getD q 0=rm.getD q 0+(if bN q=r then a else 0)-(if q=r then a else 0):=by
 have hf:=vd hr;unfold mP;rw[iw (by rw[Hp];omega),iw (by omega)];have hne:=uP r;by_cases e1:bN r=q
 ·subst e1;rw[if_pos rfl,jK,if_pos rfl,if_neg hne];omega
 ·have e2:bN q≠r:=fun h=>e1 (by rw[← h,jK]);rw[if_neg e1,if_neg e2];by_cases e3:r=q
  ·subst e3;rw[if_pos rfl,if_pos rfl];omega
  ·rw[if_neg e3,if_neg (λ h=>e3 h.symm)];omega
open Classical in
theorem f8{a:Int}{m:Nat}:∀ {W:LN} {rm:LI},rm.length=2*m->(∀ r∈W,r<2*m)->W.Nodup->(∀ q:Nat,(cm a W rm).getD q 0=rm.getD q 0+(if bN q∈W then a else 0)-(if q∈W then a else 0))
 |[],rm,_,_,_,q=>by simp[cm]
 |r::W,rm,hl,hW,hn,q=>by
  have h1:=GZ.1 hn;rw[cm,f8 (by rw[j8];exact hl) (λ x hx=>hW x (by simp[hx])) h1.2 q,qN hl (hW r (by simp))]
  have e1:(if bN q∈r::W then a else 0)=(if bN q=r then a else 0)+(if bN q∈W then a else 0):=by
   by_cases e:bN q=r
   ·rw[if_pos e,if_pos (by simp[e]),if_neg (by rw[e];exact h1.1)];omega
   ·rw[if_neg e];by_cases e2:bN q∈W
    ·rw[if_pos e2,if_pos (by simp[e2])];omega
    ·rw[if_neg e2,if_neg (by simp[e,e2])];omega
  have e2:(if q∈r::W then a else 0)=(if q=r then a else 0)+(if q∈W then a else 0):=by
   by_cases e:q=r
   ·rw[if_pos e,if_pos (by simp[e]),if_neg (by rw[e];exact h1.1)];omega
   ·rw[if_neg e];by_cases e2:q∈W
    ·rw[if_pos e2,if_pos (by simp[e2])];omega
    ·rw[if_neg e2,if_neg (by simp[e,e2])];omega
  rw[e1,e2];omega
def cJ(rm:LI)(W:LN):Int:=W.foldl (λ m q=>if rm.getD q 0<m then rm.getD q 0 else m) (rm.getD (W.headD 0) 0)
theorem pr(rm:LI):∀ (W:LN) (x:Int),(W.foldl (λ m q=>if rm.getD q 0<m then rm.getD q 0 else m) x<=x)/\(∀ r∈W,W.foldl (λ m q=>if rm.getD q 0<m then rm.getD q 0 else m) x<=rm.getD r 0)/\
 (W.foldl (λ m q=>if rm.getD q 0<m then rm.getD q 0 else m) x=x\/∃ r∈W,W.foldl (λ m q=>if rm.getD q 0<m then rm.getD q 0 else m) x=rm.getD r 0)
 |[],x=>⟨HO _,λ _ h=>(by cases h),.inl rfl⟩
 |r::W,x=>by
  obtain⟨h1,h2,h3⟩:=pr rm W (if rm.getD r 0<x then rm.getD r 0 else x);simp only[Ja];refine⟨Je h1 (by split<;>omega),λ q hq=>?_,?_⟩
  ·rcases GL.1 hq with rfl|hq
   ·exact Je h1 (by split<;>omega)
   ·exact h2 q hq
  ·rcases h3 with h3|⟨q,hq,h3⟩
   ·split at h3
    ·exact .inr ⟨r,by simp,by rename_i hlt;rw[if_pos hlt];exact h3⟩
    ·rename_i hlt;exact .inl (by rw[if_neg hlt];exact h3)
   ·exact .inr ⟨q,by simp[hq],h3⟩
theorem mZ{rm:LI}{W:LN}:∀ r∈W,cJ rm W<=rm.getD r 0:=(pr rm W _).2.1
theorem ky{rm:LI}{W:LN}(h:W≠[]):∃ r∈W,cJ rm W=rm.getD r 0:=by
 rcases (pr rm W (rm.getD (W.headD 0) 0)).2.2 with h1|h1
 ·cases W with
  |nil=>exact absurd rfl h
  |cons r W=>exact⟨r,by simp,h1⟩
 ·exact h1
def mE(least:Int)(rm:LI)(W:LN):Nat:=W.findIdx λ r=>decide (rm.getD r 0<least)
inductive Bl (N:aO) (L:Nat->LN) (least:Int):LI->LN->LN->List (LN×Int)->LI->Prop
 |stop {rm:LI} {pos W pos' W':LN}:Nx N L least rm pos W false pos' W'->Bl N L least rm pos W [] rm
 |walk {rm rm':LI} {pos W pos' W':LN} {ws:List (LN×Int)}:Nx N L least rm pos W true pos' W'->
  Bl N L least (cm (cJ rm W') W' rm) pos' (W'.take (mE least (cm (cJ rm W') W' rm) W')) ws rm'->Bl N L least rm pos W ((W',cJ rm W')::ws) rm'
theorem fg{l:List dM}{f:LI}{i:Nat}{a:dM}{x:Int}(h:l[i]?=some a)(k:f[i]?=some x):(l.zip f)[i]?=some (a,x):=Hr.2 ⟨h,k⟩
theorem dD:∀ {ps:List (dM×Int)} {i:Nat} {p:dM×Int},ps[i]?=some p->(aW ps)[2*i]?=some (p.1.cap-p.2)/\(aW ps)[2*i+1]?=some p.2
 |[],_,_,h=>by simp at h
 |q::ps,0,p,h=>by
  simp only[HP,GA] at h;subst h;exact⟨rfl,rfl⟩
 |q::ps,i+1,p,h=>by
  have ih:=dD (ps:=ps) (i:=i) (by simpa using h);have e:aW (q::ps)=[q.1.cap-q.2,q.2]++aW ps:=by simp[aW]
  rw[e,GS (by simp;omega),GS (by simp;omega)];exact⟨by rw[show 2*(i+1)-[q.1.cap-q.2,q.2].length=2*i by simp;omega];exact ih.1,by rw[show 2*(i+1)+1-[q.1.cap-q.2,q.2].length=2*i+1 by simp;omega];exact ih.2⟩
def fA(a:Int)(r:Nat)(f:LI):LI:=f.set (r/2) (f.getD (r/2) 0+if r%2=1 then-a else a)
def lL(a:Int):LN->LI->LI
 |[],f=>f
 |r::W,f=>lL a W (fA a r f)
theorem jc(a:Int)(r:Nat)(f:LI):(fA a r f).length=f.length:=by simp[fA]
theorem wF{N:aO}{a:Int}{r:Nat}{f:LI}(hl:f.length=N.arcs.length)(hr:r<2*N.arcs.length):mP a r (aW (N.arcs.zip f))=aW (N.arcs.zip (fA a r f)):=by
 have hzl:(N.arcs.zip f).length=N.arcs.length:=by simp;omega
 have hzl2:(N.arcs.zip (fA a r f)).length=N.arcs.length:=by simp[jc];omega
 have hrl:=de (N.arcs.zip f);have hrl2:=de (N.arcs.zip (fA a r f));rw[hzl] at hrl;rw[hzl2] at hrl2
 have hext:∀ q:Nat,q<2*N.arcs.length->(mP a r (aW (N.arcs.zip f))).getD q 0=(aW (N.arcs.zip (fA a r f))).getD q 0:=by
  intro q hq;rw[qN hrl hr];have hqi:q/2<N.arcs.length:=by omega
  obtain⟨ar,har⟩:∃ x,N.arcs[q/2]?=some x:=⟨N.arcs[q/2],Gy hqi⟩;have hx:f[q/2]?=some (f.getD (q/2) 0):=by rw[GD,Gy (by omega)];rfl
  have hy:(fA a r f)[q/2]?=some ((fA a r f).getD (q/2) 0):=by rw[GD,Gy (by rw[jc];omega)];rfl
  obtain⟨g1,g2⟩:=dD (fg har hx);obtain⟨g3,g4⟩:=dD (fg har hy)
  have hv:(fA a r f).getD (q/2) 0=f.getD (q/2) 0+if r/2=q/2 then (if r%2=1 then-a else a) else 0:=by
   unfold fA;rw[iw (by omega)];by_cases e:r/2=q/2
   ·rw[if_pos e,if_pos e,e]
   ·rw[if_neg e,if_neg e];omega
  simp only at g1 g2 g3 g4
  rcases IB q with hm|hm
  ·have e:2*(q/2)=q:=by omega
   rw[e] at g1 g3;simp only[GD] at hv ⊢;rw[g1,g3];simp only[G9,GD] at hv ⊢;rw[hv];unfold bN;rw[if_neg (by omega:¬ q%2=1)];split<;>split<;>split<;>(try split)<;>omega
  ·have e:2*(q/2)+1=q:=by omega
   rw[e] at g2 g4;simp only[GD] at hv ⊢;rw[g2,g4];simp only[G9,GD] at hv ⊢;rw[hv];unfold bN;rw[if_pos hm];split<;>split<;>split<;>(try split)<;>omega
 refine I0 (by rw[j8,hrl,hrl2]) λ q h1 h2=>?_;have:=hext q (by omega);simp only[GD] at this;rw[Gy h1,Gy h2] at this;exact this
theorem yH{N:aO}{a v:Int}{r:Nat}{f:LI}(hl:f.length=N.arcs.length)(hr:r<2*N.arcs.length):
 da (N.arcs.zip (fA a r f)) v=da (N.arcs.zip f) v+((if (cE N r).2=v then a else 0)-(if (cE N r).1=v then a else 0)):=by
 obtain⟨ar,har⟩:∃ x,N.arcs[r/2]?=some x:=⟨N.arcs[r/2]'(by omega),Gy (by omega)⟩;have hx:f[r/2]?=some (f.getD (r/2) 0):=by rw[GD,Gy (by omega)];rfl
 have he:cE N r=dn ar r:=by unfold cE;rw[har]
 unfold fA;rw[sO N.arcs f (r/2) ar _ _ v har hx,he];unfold dn;by_cases hm:r%2=1
 ·rw[if_pos hm,if_pos hm];simp only;split<;>split<;>omega
 ·rw[if_neg hm,if_neg hm]
theorem rg{N:aO}(hR:N.Right){a:Int}:∀ {W:LN} {f:LI} {x z:Nat},f.length=N.arcs.length->(∀ r∈W,r<2*N.arcs.length)->Tr N x W z->
 (lL a W f).length=N.arcs.length/\cm a W (aW (N.arcs.zip f))=aW (N.arcs.zip (lL a W f))/\∀ v:Int,da (N.arcs.zip (lL a W f)) v=da (N.arcs.zip f) v+((if (z:Int)=v then a else 0)-(if (x:Int)=v then a else 0))
 |[],f,x,z,hl,_,h=>⟨hl,rfl,λ v=>by rw[show x=z from h];simp only[lL];omega⟩
 |r::W,f,x,z,hl,hW,⟨h1,h2⟩=>by
  have hr:=hW r (by simp);obtain⟨k1,k2,k3⟩:=rg hR (a:=a) (f:=fA a r f) (by rw[jc];exact hl) (λ q hq=>hW q (by simp[hq])) h2;refine⟨k1,by rw[cm,wF hl hr,k2];rfl,λ v=>?_⟩;rw[lL,k3,yH hl hr,(gV hR hr).1,(kN hR hr).1,h1];omega
theorem jM{N:aO}{f:LI}(hl:f.length=N.arcs.length):Ranged N f↔∀ q,q<2*N.arcs.length->0<=(aW (N.arcs.zip f)).getD q 0:=by
 constructor
 ·intro h q hq;obtain⟨ar,har⟩:∃ x,N.arcs[q/2]?=some x:=⟨N.arcs[q/2]'(by omega),List.getElem?_eq_getElem (by omega)⟩;have hx:f[q/2]?=some (f.getD (q/2) 0):=by rw[List.getD_eq_getElem?_getD,List.getElem?_eq_getElem (by omega)];rfl
  have hz:=fg har hx;obtain⟨g1,g2⟩:=dD hz;have:=h.all _ (GB hz);simp only at g1 g2 this
  rcases IB q with hm|hm
  ·rw[show 2*(q/2)=q by omega] at g1;rw[GD,g1,G9];omega
  ·rw[show 2*(q/2)+1=q by omega] at g2;rw[GD,g2,G9];omega
 ·intro h;refine⟨hl,fun p hp=>?_⟩;obtain⟨j,hj,hjp⟩:=List.mem_iff_getElem.1 hp;have hz:(N.arcs.zip f)[j]?=some p:=by rw[List.getElem?_eq_getElem hj,hjp]
  have hjl:j<N.arcs.length:=by have:=hj;simp at this;omega
  obtain⟨g1,g2⟩:=dD hz;have h1:=h (2*j) (by omega);have h2:=h (2*j+1) (by omega);rw[GD,g1,G9] at h1;rw[GD,g2,G9] at h2;omega
theorem rO{N:aO}(hR:N.Right){f:LI}(hf:aK N f){W:LN}(hW:∀ r∈W,r<2*N.arcs.length)(hn:W.Nodup)(ht:Tr N N.src.toNat W N.snk.toNat){a:Int}(ha:0<=a)(hm:∀ r∈W,a<=(aW (N.arcs.zip f)).getD r 0):
 aK N (lL a W f)/\cm a W (aW (N.arcs.zip f))=aW (N.arcs.zip (lL a W f))/\da (N.arcs.zip (lL a W f)) N.snk=da (N.arcs.zip f) N.snk+a:=by
 obtain⟨h1,h2,h3⟩:=rg hR (a:=a) hf.len hW ht;have hsr:=hR.src;have hsk:=hR.snk;have hd:=hR.diff;have e1:((N.src.toNat:Nat):Int)=N.src:=by omega
 have e2:((N.snk.toNat:Nat):Int)=N.snk:=by omega
 rw[e1,e2] at h3;have hzl:(N.arcs.zip f).length=N.arcs.length:=by have:=hf.len;simp;omega
 refine⟨⟨(jM h1).2 λ q hq=>?_,λ v hv hvs hvt=>?_⟩,h2,?_⟩
 ·rw[← h2,f8 (by rw[de,hzl]) hW hn];have h0:=(jM hf.len).1 hf.toRanged q hq;by_cases e:q∈W
  ·have:=hm q e;rw[if_pos e];split<;>omega
  ·rw[if_neg e];split<;>omega
 ·rw[h3,hf.kept v hv hvs hvt,if_neg (λ e=>hvt e.symm),if_neg (λ e=>hvs e.symm)];rfl
 ·rw[h3,if_pos rfl,if_neg hd];omega
theorem Bl.keeps{N:aO}(hR:N.Right){L:Nat->LN}{lv:Nat->Int}{least:Int}(hG:eE N L lv)(hle:1<=least){rm rm':LI}{pos W:LN}{ws:List (LN×Int)}(h:Bl N L least rm pos W ws rm'):
 ∀ f,aK N f->rm=aW (N.arcs.zip f)->PI N L least rm pos W->
   ∃ f',aK N f'/\rm'=aW (N.arcs.zip f')/\da (N.arcs.zip f) N.snk+least*ws.length<=da (N.arcs.zip f') N.snk/\(∀ u,LP N L least rm' u->u≠N.snk.toNat)/\(∀ v r,r∈L v->rm'.getD r 0<=rm.getD r 0)/\
     (∀ q,q<2*N.arcs.length->rm.getD q 0<rm'.getD q 0->bN q∈L (dG N (bN q))):=by
 induction h with
 |@stop rm pos W pos' W' hn=>
  intro f hf he hI;obtain⟨h1,_,h3⟩:=hn.keeps hG hI;obtain⟨rfl,hd⟩:=h3 rfl;have hsr:=hR.src;have hsk:=hR.snk;have hdf:=hR.diff;exact⟨f,hf,he,by simp,λ u hu=>(xu hR hG h1 hd (by omega) hu).1,λ _ _ _=>HO _,λ q _ h=>by omega⟩
 |@walk rm rm' pos W pos' W' ws hn _ ih=>
  intro f hf he hI;obtain⟨h1,h2,_⟩:=hn.keeps hG hI;have hend:=h2 rfl;have hon:=h1.on;rw[hend] at hon;have hnd:=qn hG hon h1.mem;have hlt:∀ r∈W',r<2*N.arcs.length:=λ r hr=>(hG.ok _ _ (h1.mem r hr)).1;have hroom:∀ r∈W',least<=rm.getD r 0:=λ r hr=>by obtain⟨_,_,_,h⟩:=h1.head r hr;exact h
  have hWne:W'≠[]:=by
   intro h0;have hsr:=hR.src;have hsk:=hR.snk;have hdf:=hR.diff;rw[h0] at hend;simp only[cV,List.getLast?_nil] at hend;omega
  obtain⟨r0,hr0,hmo⟩:=ky (rm:=rm) hWne;have hma:=hroom r0 hr0;rw[<- hmo] at hma;obtain⟨a,haeq⟩:∃ a,a=cJ rm W':=⟨_,rfl⟩;rw[<- haeq] at hma ih ⊢;have hmle:∀ r∈W',a<=rm.getD r 0:=λ r hr=>haeq▸mZ r hr;obtain⟨k1,k2,k3⟩:=rO hR hf hlt hnd.1 hon (by omega:0<=a) (he▸hmle);rw[<- he] at k2;have hzl:rm.length=2*N.arcs.length:=by rw[he,de];have:=hf.len;simp;omega
  have hget:=f8 (a:=a) hzl hlt hnd.1
  have hmono:∀ v r,r∈L v->(cm a W' rm).getD r 0<=rm.getD r 0:=by
   intro v r hr;rw[hget]
   have:bN r∉W':=by
    intro hin;have g1:=(hG.ok _ _ hr);have g2:=(hG.ok _ _ (h1.mem _ hin)).2.2;have g3:=g1.2.2;rw[iL,fJ] at g2;rw[<- g1.2.1] at g3;omega
   rw[if_neg this];split<;>omega
  have hI':PI N L least (cm a W' rm) pos' (W'.take (mE least (cm a W' rm) W')):=by
   refine⟨h1.pl,sx _ hon,λ r hr=>?_,λ v p hp j r hj hjr=>?_⟩
   ·obtain⟨p,g1,g2,_⟩:=h1.head r (List.mem_of_mem_take hr);refine⟨p,g1,g2,?_⟩;obtain⟨i,hi,hir⟩:=List.mem_iff_getElem.1 hr;have hi':i<mE least (cm a W' rm) W':=by rw[List.length_take] at hi;omega
    rw[IU] at hir;have:=IP hi';rw[hir] at this
    simpa using this
   ·rcases h1.pass v p hp j r hj hjr with k|k
    ·exact .inl (by have:=hmono v r (GB hjr);omega)
    ·exact .inr k
  obtain⟨f',g1,g2,g3,g4,g5,g6⟩:=ih (lL a W' f) k1 k2 hI';refine⟨f',g1,g2,?_,g4,λ v r hr=>Je (g5 v r hr) (hmono v r hr),λ q hq hqlt=>?_⟩
  ·rw[k3] at g3;rw[List.length_cons];have:least*((ws.length+1:Nat):Int)=least*ws.length+least:=by grind
   omega
  ·by_cases hc:rm.getD q 0<(cm a W' rm).getD q 0
   ·rw[hget] at hc;by_cases hin:bN q∈W'
    ·exact h1.mem _ hin
    ·rw[if_neg hin] at hc;split at hc<;>omega
   ·exact g6 q hq (by omega)
def cQ(lv:LI)(v:Nat):Int:=lv.getD v (-1)
theorem sP{lv:LI}{v:Nat}{x:Int}(h:lv[v]?=some x):cQ lv v=x:=by unfold cQ;rw[GD,h];rfl
theorem kJ{lv:LI}{v:Nat}(h:v<lv.length):lv[v]?=some (cQ lv v):=by unfold cQ;rw[GD,Gy h];rfl
theorem xb{lv:LI}{t v:Nat}{x:Int}(h:t<lv.length):cQ (lv.set t x) v=if t=v then x else cQ lv v:=iw h
theorem xe{lv:LI}{v:Nat}(h:lv.length<=v):cQ lv v=-1:=by unfold cQ;rw[GD,Hb h];rfl
structure eb (N:aO) (rm:LI) (least:Int) (lv:LI):Prop where
 len:lv.length=N.nodes.toNat+1
 src:cQ lv N.src.toNat=0
 nil:cQ lv 0=-1
 rng:∀ v,-1<=cQ lv v/\cQ lv v<N.nodes
 zero:∀ v,cQ lv v=0->v=N.src.toNat
 step:∀ r,r<2*N.arcs.length->least<=rm.getD r 0->0<=cQ lv (dG N r)->0<=cQ lv (eX N r)/\cQ lv (eX N r)<=cQ lv (dG N r)+1
 back:∀ v,0<cQ lv v->∃ r,r<2*N.arcs.length/\least<=rm.getD r 0/\eX N r=v/\cQ lv (dG N r)=cQ lv v-1
structure LH (N:aO) (rm:LI) (least:Int) (k:Nat) (fr:LN) (lv:LI):Prop where
 k1:1<=k
 len:lv.length=N.nodes.toNat+1
 src:cQ lv N.src.toNat=0
 nil:cQ lv 0=-1
 rng:∀ v,cQ lv v=-1\/0<=cQ lv v/\cQ lv v<=(k:Int)-1
 zero:∀ v,cQ lv v=0->v=N.src.toNat
 front:∀ v,cQ lv v=(k:Int)-1↔v∈fr
 done:∀ r,r<2*N.arcs.length->least<=rm.getD r 0->0<=cQ lv (dG N r)->cQ lv (dG N r)<(k:Int)-1->0<=cQ lv (eX N r)/\cQ lv (eX N r)<=cQ lv (dG N r)+1
 back:∀ v,0<cQ lv v->∃ r,r<2*N.arcs.length/\least<=rm.getD r 0/\eX N r=v/\cQ lv (dG N r)=cQ lv v-1
 cnt:k+fr.length+lv.count (-1)<=N.nodes.toNat+2
structure LV (N:aO) (rm:LI) (least:Int) (k:Nat) (now:LN) (i j:Nat) (nxt:LN) (lv:LI):Prop where
 k1:1<=k
 len:lv.length=N.nodes.toNat+1
 src:cQ lv N.src.toNat=0
 nil:cQ lv 0=-1
 rng:∀ v,cQ lv v=-1\/0<=cQ lv v/\cQ lv v<=(k:Int)
 zero:∀ v,cQ lv v=0->v=N.src.toNat
 old:∀ v,cQ lv v=(k:Int)-1↔v∈now
 new:∀ v,cQ lv v=(k:Int)↔v∈nxt
 done:∀ r,r<2*N.arcs.length->least<=rm.getD r 0->0<=cQ lv (dG N r)->(cQ lv (dG N r)<(k:Int)-1\/dG N r∈now.take i\/(now[i]?=some (dG N r)/\∃ a,a<j/\(tr N (2*N.arcs.length) (dG N r))[a]?=some (r:Int)))->
  0<=cQ lv (eX N r)/\cQ lv (eX N r)<=cQ lv (dG N r)+1
 back:∀ v,0<cQ lv v->∃ r,r<2*N.arcs.length/\least<=rm.getD r 0/\eX N r=v/\cQ lv (dG N r)=cQ lv v-1
 cnt:k+nxt.length+lv.count (-1)<=N.nodes.toNat+1
section
variable {N:aO} {rm:LI} {least:Int} {k:Nat} {lv:LI}
theorem gy:∀ (l:LI) (t:Nat) (x:Int),l[t]?=some (-1)->x≠-1->(l.set t x).count (-1)+1=l.count (-1)
 |[],_,_,h,_=>by simp at h
 |y::l,0,x,h,hx=>by
  simp only[HP,GA] at h;subst h;simp[hx]
 |y::l,t+1,x,h,hx=>by
  have:=gy l t x (by simpa using h) hx;simp only[List.set_cons_succ,List.count_cons];omega
theorem LH.init(hR:N.Right):LH N rm least 1 [N.src.toNat] ((List.replicate (N.nodes.toNat+1) (-1)).set N.src.toNat 0):=by
 have hsr:=hR.src;have hnn:=hR.nodes;have hlt:N.src.toNat<(List.replicate (N.nodes.toNat+1) (-1:Int)).length:=by rw[G3];omega
 have hr:∀ v,cQ (List.replicate (N.nodes.toNat+1) (-1)) v=-1:=by
  intro v;by_cases h:v<N.nodes.toNat+1
  ·exact sP (by rw[GU,if_pos h])
  ·exact xe (by rw[G3];omega)
 have hv:∀ v,cQ ((List.replicate (N.nodes.toNat+1) (-1)).set N.src.toNat 0) v=if N.src.toNat=v then 0 else-1:=λ v=>by rw[xb hlt,hr]
 refine⟨GN _,by simp,by rw[hv,if_pos rfl],by rw[hv,if_neg (by omega)],λ v=>?_,λ v h=>?_,λ v=>?_,λ r _ _ h1 h2=>by omega,λ v h=>?_,?_⟩
 ·rw[hv];split
  ·exact .inr ⟨by omega,by omega⟩
  ·exact .inl rfl
 ·rw[hv] at h;split at h
  ·rename_i e;exact e.symm
  ·omega
 ·rw[hv,GF]
  constructor
  ·intro h;split at h
   ·rename_i e;exact e.symm
   ·omega
  ·rintro rfl;rw[if_pos rfl];omega
 ·rw[hv] at h;split at h<;>omega
 ·have:=gy (List.replicate (N.nodes.toNat+1) (-1)) N.src.toNat 0 (by rw[List.getElem?_replicate,if_pos (by omega)]) (by decide);have h2:(List.replicate (N.nodes.toNat+1) (-1:Int)).count (-1)=N.nodes.toNat+1:=by simp
  simp only[G7];omega
theorem LH.turn{fr:LN}(h:LH N rm least k fr lv)(hne:fr≠[]):LV N rm least k fr 0 0 [] lv:=by
 have hk:=h.k1;have hlen:0<fr.length:=Hj.2 hne;refine⟨h.k1,h.len,h.src,h.nil,λ v=>?_,h.zero,h.front,λ v=>⟨λ e=>?_,λ e=>by cases e⟩,λ r h1 h2 h3 h4=>?_,h.back,?_⟩
 ·rcases h.rng v with e|e
  ·exact .inl e
  ·exact .inr ⟨e.1,by omega⟩
 ·rcases h.rng v with e'|e'<;>omega
 ·rcases h4 with h4|h4|⟨_,a,ha,_⟩
  ·exact h.done r h1 h2 h3 h4
  ·simp at h4
  ·omega
 ·have:=h.cnt;simp only[GX];omega
theorem LV.row{now nxt:LN}{i j:Nat}(h:LV N rm least k now i j nxt lv)(hj:∀ v,now[i]?=some v->(tr N (2*N.arcs.length) v).length<=j):LV N rm least k now (i+1) 0 nxt lv:=by
 refine⟨h.k1,h.len,h.src,h.nil,h.rng,h.zero,h.old,h.new,λ r h1 h2 h3 h4=>?_,h.back,h.cnt⟩
 rcases h4 with h4|h4|⟨_,a,ha,_⟩
 ·exact h.done r h1 h2 h3 (.inl h4)
 ·rw[GW] at h4
  rcases GK.1 h4 with h4|h4
  ·exact h.done r h1 h2 h3 (.inr (.inl h4))
  ·cases hv:now[i]? with
   |none=>rw[hv] at h4;simp at h4
   |some v=>
    rw[hv] at h4;have e:dG N r=v:=by simpa using h4
    refine h.done r h1 h2 h3 (.inr (.inr ⟨by rw[hv,e],?_⟩))
    have hm:(r:Int)∈tr N (2*N.arcs.length) (dG N r):=by
     refine sb.2 ⟨r,h1,?_,rfl⟩;unfold dG
     have hfz:0<=(cE N r).1:=by
      by_cases hz:0<=(cE N r).1
      ·exact hz
      ·exfalso;have:dG N r=0:=by unfold dG;omega
       rw[this,h.nil] at h3;omega
     omega
    obtain⟨a,ha,hae⟩:=Hz.1 hm;exact⟨a,Is ha (e▸hj v hv),by rw[Gy ha,hae]⟩
 ·omega
theorem LV.final{now nxt:LN}{i j:Nat}(h:LV N rm least k now i j nxt lv)(hi:now.length<=i):LH N rm least (k+1) nxt lv:=by
 have hk:=h.k1;refine⟨by omega,h.len,h.src,h.nil,λ v=>?_,h.zero,λ v=>?_,λ r h1 h2 h3 h4=>?_,h.back,?_⟩
 ·rcases h.rng v with e|e
  ·exact .inl e
  ·exact .inr ⟨e.1,by omega⟩
 ·have:=h.new v;rw[show (((k+1:Nat):Int)-1)=(k:Int) by omega];exact this
 ·refine h.done r h1 h2 h3 ?_;by_cases e:cQ lv (dG N r)<(k:Int)-1
  ·exact .inl e
  ·refine .inr (.inl ?_);rw[Hy hi];exact (h.old _).1 (by omega)
 ·have:=h.cnt;omega
theorem LV.pass{now nxt:LN}{i j r:Nat}(h:LV N rm least k now i j nxt lv)(hr:∃ v,now[i]?=some v/\(tr N (2*N.arcs.length) v)[j]?=some (r:Int))(hf:rm.getD r 0<least\/cQ lv (eX N r)≠-1):LV N rm least k now i (j+1) nxt lv:=by
 refine⟨h.k1,h.len,h.src,h.nil,h.rng,h.zero,h.old,h.new,λ q h1 h2 h3 h4=>?_,h.back,h.cnt⟩
 rcases h4 with h4|h4|⟨h4,a,ha,hq⟩
 ·exact h.done q h1 h2 h3 (.inl h4)
 ·exact h.done q h1 h2 h3 (.inr (.inl h4))
 ·by_cases e:a=j
  ·subst e;obtain⟨v,hv,hvr⟩:=hr;rw[hv] at h4;simp only[GA] at h4;rw[<- h4,hvr] at hq
   have e2:r=q:=by
    have e3:(r:Int)=q:=by simpa using hq
    omega
   subst e2;have hlv:=(h.old v).2 (GB hv)
   rcases hf with hf|hf
   ·omega
   ·rcases h.rng (eX N r) with e3|e3
    ·exact absurd e3 hf
    ·rw[h4] at hlv;exact⟨e3.1,by omega⟩
  ·exact h.done q h1 h2 h3 (.inr (.inr ⟨h4,a,by omega,hq⟩))
theorem LV.put{now nxt:LN}{i j r:Nat}(h:LV N rm least k now i j nxt lv)(hr:∃ v,now[i]?=some v/\dG N r=v/\(tr N (2*N.arcs.length) v)[j]?=some (r:Int))(hrl:r<2*N.arcs.length)(ht:1<=eX N r/\eX N r<lv.length)(hl:least<=rm.getD r 0)(hf:cQ lv (eX N r)=-1):
 LV N rm least k now i (j+1) (nxt++[eX N r]) (lv.set (eX N r) (k:Int)):=by
 obtain⟨v,hv,hfr,hvr⟩:=hr;obtain⟨t,rfl⟩:∃ t,t=eX N r:=⟨_,rfl⟩;have hk:=h.k1;have hs:∀ u,cQ (lv.set (eX N r) (k:Int)) u=if eX N r=u then (k:Int) else cQ lv u:=λ u=>xb ht.2
 have hvl:=(h.old v).2 (GB hv);have hne:eX N r≠v:=λ e=>by rw[e] at hf;omega
 refine⟨h.k1,by rw[Hp];exact h.len,?_,?_,λ u=>?_,λ u hu=>?_,λ u=>?_,λ u=>?_,λ q h1 h2 h3 h4=>?_,λ u hu=>?_,?_⟩
 ·rw[hs,if_neg (λ e=>by rw[e,h.src] at hf;omega)];exact h.src
 ·rw[hs,if_neg (by omega)];exact h.nil
 ·rw[hs];split
  ·exact .inr ⟨by omega,by omega⟩
  ·exact h.rng u
 ·rw[hs] at hu;split at hu
  ·omega
  ·exact h.zero u hu
 ·rw[hs];split
  ·rename_i e;subst e
   constructor
   ·intro e;omega
   ·intro e;have:=(h.old _).2 e;omega
  ·exact h.old u
 ·rw[hs,GK,GF];split
  ·rename_i e;exact⟨λ _=>.inr e.symm,λ _=>rfl⟩
  ·rename_i e;rw[h.new u];exact⟨.inl,λ hh=>hh.resolve_right λ e2=>e e2.symm⟩
 ·rw[hs] at h3 h4 ⊢
  have key:eX N r≠dG N q:=by
   intro e;rw[if_pos e] at h4
   rcases h4 with h4|h4|⟨h4,_⟩
   ·omega
   ·have:=(h.old _).2 (HA h4);rw[<- e] at this;omega
   ·rw[hv] at h4;simp only[GA] at h4;exact hne (e.trans h4.symm)
  rw[if_neg key] at h3 h4;have hfq:cQ (lv.set (eX N r) (k:Int)) (dG N q)=cQ lv (dG N q):=by rw[hs,if_neg key]
  rw[hfq]
  have hle:cQ lv (dG N q)<=k/\(∀ (_:dG N q=v),cQ lv (dG N q)=k-1):=by
   constructor
   ·rcases h.rng (dG N q) with e|e<;>omega
   ·intro e;rw[e];exact hvl
  by_cases e:eX N r=eX N q
  ·rw[if_pos e];refine⟨by omega,?_⟩
   rcases h4 with h4|h4|⟨h4,_⟩
   ·have:=h.done q h1 h2 h3 (.inl h4);rw[<- e,hf] at this;omega
   ·have:=(h.old _).2 (HA h4);omega
   ·rw[hv] at h4;simp only[GA] at h4;have:=hle.2 h4.symm;omega
  ·rw[if_neg e]
   rcases h4 with h4|h4|⟨h4,a,ha,hq⟩
   ·exact h.done q h1 h2 h3 (.inl h4)
   ·exact h.done q h1 h2 h3 (.inr (.inl h4))
   ·by_cases ea:a=j
    ·subst ea;rw[hv] at h4;simp only[GA] at h4;rw[<- h4,hvr] at hq
     have e2:r=q:=by
      have e3:(r:Int)=q:=by simpa using hq
      omega
     exact absurd (by rw[e2]) e
    ·exact h.done q h1 h2 h3 (.inr (.inr ⟨h4,a,by omega,hq⟩))
 ·rw[hs] at hu;by_cases e:eX N r=u
  ·refine⟨r,hrl,hl,e,?_⟩;rw[hs,hs,if_pos e,if_neg (λ e2=>hne (e2.trans hfr)),hfr,hvl]
  ·rw[if_neg e] at hu;obtain⟨q,g1,g2,g3,g4⟩:=h.back u hu;refine⟨q,g1,g2,g3,?_⟩;rw[hs,hs,if_neg e,if_neg,g4];intro e2;rw[<- e2,hf] at g4;omega
 ·have:=h.cnt;have hc:=gy lv (eX N r) (k:Int) (by rw[kJ ht.2,hf]) (by omega);rw[GE,G7];omega
theorem LH.lev(hR:N.Right)(h:LH N rm least k [] lv):eb N rm least lv:=by
 have hk:=h.k1;have hnn:=hR.nodes
 have hc:1<=lv.count (-1):=by
  have h0:(-1:Int)∈lv:=by
   have:=kJ (lv:=lv) (v:=0) (by rw[h.len];omega);rw[h.nil] at this;exact GB this
  exact List.one_le_count_iff.2 h0
 have hcnt:=h.cnt;have hf:∀ v,cQ lv v≠(k:Int)-1:=λ v e=>by have:=(h.front v).1 e;simp at this
 refine⟨h.len,h.src,h.nil,λ v=>?_,h.zero,λ r h1 h2 h3=>?_,h.back⟩
 ·have:=hf v;simp only[GX] at hcnt
  rcases h.rng v with e|e<;>omega
 ·refine h.done r h1 h2 h3 ?_;have:=hf (dG N r)
  rcases h.rng (dG N r) with e|e<;>omega
end
def cq(N:aO)(rm:LI)(least:Int)(lv:LI)(k:Nat):LN:=(List.range k).filter λ r=>decide (least<=rm.getD r 0/\cQ lv (dG N r)≠-1/\cQ lv (eX N r)=cQ lv (dG N r)+1)
def en(N:aO)(ls:LN)(v:Nat):LN:=ls.filter λ r=>decide (dG N r=v)
theorem eh{N:aO}{rm:LI}{least:Int}{lv:LI}{k r:Nat}:r∈cq N rm least lv k↔r<k/\least<=rm.getD r 0/\cQ lv (dG N r)≠-1/\cQ lv (eX N r)=cQ lv (dG N r)+1:=by
 unfold cq;rw[Ig,Hs,Ha]
theorem fy{N:aO}{ls:LN}{v r:Nat}:r∈en N ls v↔r∈ls/\dG N r=v:=by
 unfold en;rw[Ig,Ha]
theorem ii{N:aO}{rm:LI}{least:Int}{lv:LI}(h:eb N rm least lv):eE N (en N (cq N rm least lv (2*N.arcs.length))) (cQ lv):=by
 refine⟨λ v r hr=>?_,h.rng⟩;obtain⟨h1,h2⟩:=fy.1 hr;obtain⟨h3,_,_,h6⟩:=eh.1 h1;exact⟨h3,h2,by rw[h6,h2]⟩
theorem Bi{N:aO}{rm:LI}{least:Int}{lv:LI}(h:eb N rm least lv):∀ (k v:Nat),cQ lv v=k->LP N (en N (cq N rm least lv (2*N.arcs.length))) least rm v
 |0,v,hv=>by rw[h.zero v (by simpa using hv)];exact .src
 |k+1,v,hv=>by
  obtain⟨r,h1,h2,h3,h4⟩:=h.back v (by omega);have ih:=Bi h k (dG N r) (by omega);rw[<- h3];exact .step ih (fy.2 ⟨eh.2 ⟨h1,h2,by omega,by rw[h3];omega⟩,rfl⟩) h2
theorem DB{N:aO}{rm:LI}{least:Int}{lv:LI}(h:eb N rm least lv)(hl:rm.length=2*N.arcs.length):∀ {v:Int},oH N rm least v->0<=cQ lv v.toNat:=by
 intro v hv
 induction hv with
 |src=>rw[h.src];omega
 |step u r _ h1 h2 h3 ih=>
  have:=h.step r (by omega) h3 (by unfold dG;rw[h2];exact ih);exact this.1
end Go.Proofs.YtmcnpaelaieniaaGreatDoor
