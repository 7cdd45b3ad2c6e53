import Derived.Test.YtmcnpaelaieniaaGreatDoorQC
import Derived.Test.YtmcnpaelaieniaaGreatDoorQB
/- A part of the proof; see NOTES.md. -/
set_option linter.unusedVariables false
set_option linter.unusedSimpArgs false
namespace Go.Proofs.YtmcnpaelaieniaaGreatDoor
open Go.RowKit
def bX(l:LB)(is:Bool)(k:Nat):LI:=((List.range k).filter λ (v:Nat)=>decide (0<v/\l[v]?=some is)).map λ (v:Nat)=>(v:Int)
theorem oL(l:LB)(is:Bool)(k:Nat):bX l is (k+1)=bX l is k++(if 0<k/\l[k]?=some is then [(k:Int)] else []):=by
 unfold bX;rw[Ir,Im,GX]
 congr 1
 by_cases h:0<k/\l[k]?=some is<;>simp[h]
theorem fq(l:LB)(is:Bool)(k:Nat):(bX l is k).length<=k:=by
 unfold bX;rw[GA];exact HG (HI _ _) (by simp)
theorem lX{l:LB}{is:Bool}{k:Nat}{x:Int}:x∈bX l is k↔∃ v:Nat,v<k/\0<v/\l[v]?=some is/\x=v:=by
 unfold bX;simp only[GR,Ia,Hm,G3]
 constructor
 ·rintro⟨v,⟨h1,h2,h3⟩,rfl⟩;exact⟨v,h1,h2,h3,rfl⟩
 ·rintro⟨v,h1,h2,h3,rfl⟩;exact⟨v,⟨h1,h2,h3⟩,rfl⟩
theorem ud(A:OA)(c b o:Nat)(l:LB)(hA:l≠[]->A=some ⟨b,o,none⟩)(hl:l.length<=100000)(is:Bool):
 Fn 47 [.slice A l.length c,.bool is] [] [.seg b o (eb l)] λ v H'=>∃ A' c',v=.slice A' (bX l is l.length).length c'/\H'=[.own v 3 1 (bX l is l.length).length (ax (bX l is l.length))]:=by
 refine aJ Tryz.func47 rfl rfl λ w0=>?_;refine ad (aa (ae [] rfl ?_));refine ad (aa (ae [] rfl ?_));refine ad (ad (aa (ae [] rfl ?_)));refine au ?_;refine cd 3 1 ?_
 refine bO (σ:=Nat×OA×Nat) (λ s=>[(10,.int .i64 s.1),(9,.int .i64 l.length),(8,.slice A l.length c),(5,.slice s.2.1 (bX l is s.1).length s.2.2),(1,.bool is)])
  (λ s=>[.own (.slice s.2.1 (bX l is s.1).length s.2.2) 3 1 (bX l is s.1).length (ax (bX l is s.1)),.seg b o (eb l)]) (λ s=>s.1<=l.length) (λ s=>l.length-s.1)
  (0,none,0) [0,1] ⟨rfl,rfl,rfl,rfl,rfl,an⟩ (by decide) rfl (GB _) ?_
 rintro⟨k,A1,c1⟩ hk;simp only at hk ⊢;have hwl:=fq l is k;refine ad (aa (ae [] rfl ?_));refine ad (aC rfl (λ hlt=>aq ?_) (λ hge=>bc ?_))
 ·have hlt:k<l.length:=by omega
  obtain rfl:=hA (by rintro rfl;simp at hlt);obtain⟨m,hm⟩:∃ m,l[k]?=some m:=⟨l[k],Gq hlt⟩;have hws:=oL l is k;refine ad (au ?_);refine ad (aa (ah [] rfl ?_));refine ab [] (bR rfl hlt) rfl ?_;refine ab [] (a8 1 rfl rfl (show (eb l)[k]?=some (.bool m) from fA hm)) rfl ?_;refine ae [] rfl ?_;by_cases hgo:0<k/\m=is
  ·rw[if_pos ⟨hgo.1,by rw[hm,hgo.2]⟩] at hws;refine ad (aa (ah [] rfl ?_));refine bd 17 rfl (by omega) ?_;refine ah [2] rfl ?_;refine aI 21 (v':=.bool true) rfl (Gt Value.bool (by rw[hgo.2];simp)) ?_;refine ai ?_;refine bi rfl ?_;refine aa (ah [] rfl ?_);refine bF rfl rfl rfl rfl rfl rfl rfl (λ _=>rfl) λ g2=>?_;refine bv (n:=(bX l is k).length) (m:=1) (off:=0) (news:=ax [(k:Int)]) 1 0 rfl rfl rfl rfl rfl rfl (by decide) rfl rfl (aF g2 _ _ (0,0)) (λ _=>rfl) rfl rfl (by omega) (by omega) (λ _ _=>rfl) λ A2 c2=>?_;rw[show (bX l is k).length+1=(bX l is (k+1)).length by rw[hws];simp,show ax (bX l is k)++ax [(k:Int)]=ax (bX l is (k+1)) by rw[hws];simp[ax]];refine ae [] rfl ?_;refine aa (ae [] rfl ?_);refine⟨(k+1,A2,c2),[1,2],⟨?_,rfl,rfl,rfl,rfl,an⟩,by decide,rfl,by simp only;omega,by simp only;omega⟩;show some (Value.int .i64 (IntKind.i64.wrap ((k:Int)+1)))=_;rw[cv (by omega)];rfl
  ·rw[if_neg (fun h=>hgo ⟨h.1,by rw[hm] at h;simpa using h.2⟩),List.append_nil] at hws
   refine fj [(21,.bool false),(10,.int .i64 k),(9,.int .i64 l.length),(8,.slice (some ⟨b,o,none⟩) l.length c),(5,.slice A1 (bX l is k).length c1),(1,.bool is)]
    [.own (.slice A1 (bX l is k).length c1) 3 1 (bX l is k).length (ax (bX l is k)),.seg b o (eb l)] ?_ ?_
   ·skip
    refine aa (ah [] rfl ?_);by_cases h0:0<k
    ·refine bd 17 rfl (by omega) ?_;refine ah [2] rfl ?_;refine aI 21 (v':=.bool false) rfl (Gt Value.bool (by have:m≠is:=λ e=>hgo ⟨h0,e⟩;simpa using this)) ?_;refine ai ?_;exact⟨[0,1],⟨rfl,rfl,rfl,rfl,rfl,rfl,an⟩,by decide,rfl⟩
    ·refine aX 17 rfl (by omega) ?_;refine ae [2] rfl ?_;exact⟨[0,1],⟨rfl,rfl,rfl,rfl,rfl,rfl,an⟩,by decide,rfl⟩
   ·refine bG rfl (aq ?_);refine aa (ae [] rfl ?_);refine⟨(k+1,A1,c1),[0,1],⟨?_,rfl,rfl,by simp only[hws];rfl,rfl,an⟩,by decide,by simp only[hws];rfl,by simp only;omega,by simp only;omega⟩;show some (Value.int .i64 (IntKind.i64.wrap ((k:Int)+1)))=_;rw[cv (by omega)];rfl
 ·have hk':k=l.length:=by omega
  subst hk';refine ad (aa (ae [] rfl ?_));refine az [0] (by decide) rfl (ay ⟨_,rfl,A1,c1,rfl,rfl⟩)
def Er(N:aU)(f:LI)(n:Nat)(v:Value)(H':Heap):Prop:=
 (aK N f/\¬ kL N (aP (N.arcs.zip f)) 1 N.snk/\∃ (l:LB) (A':OA) (c':Nat),l.length=n+1/\(∀ v:Nat,l[v]?=some true↔v<=n/\kL N (aP (N.arcs.zip f)) 1 v)/\v=.tuple #[.slice A' (bX l true (n+1)).length c',.int .i64 0]/\
  H'=[.own (.slice A' (bX l true (n+1)).length c') 3 1 (bX l true (n+1)).length (ax (bX l true (n+1)))])\/
 (¬ aK N f/\v=.tuple #[.slice none 0 0,.int .i64 (en N f)]/\H'=[])\/(aK N f/\kL N (aP (N.arcs.zip f)) 1 N.snk/\v=.tuple #[.slice none 0 0,.int .i64 8]/\H'=[])
theorem mT(N:aU)(hN:N.Fits)(hR:N.Right)(A:OA)(c b o:Nat)(hA:N.arcs≠[]->A=some ⟨b,o,none⟩)(f:LI)(F:OA)(cf bf of:Nat)(hF:f≠[]->F=some ⟨bf,of,none⟩)(hf:∀ x∈f,dn x)(hfl:f.length*8<=140737488351232)
 (n:Nat) (hn:N.nodes=n):Fn 24 [bp N A c,.slice F f.length cf] [] [.seg b o (arcs N.arcs),.seg bf of (ax f)] (Er N f n):=by
 have hnn:=hR.nodes;have hsk:=hR.snk;obtain⟨s,hs⟩:∃ s:Nat,N.snk=s:=⟨N.snk.toNat,by omega⟩;refine aJ Tryz.func24 rfl rfl λ w0=>?_;refine ad (aa ?_);refine bx (cs:=bI N A c) rfl rfl rfl (λ _=>rfl) λ p=>?_;refine ae [] rfl ?_;refine ad (aa ?_);refine ab [] (v:=bp N A c) (af 0 rfl) rfl ?_;refine ah [] rfl ?_;refine ap [] (tz N hN hR A c b o hA f F cf bf of hF hf hfl 1 (by decide) n hn) rfl (by kernel_rfl) ⟨⟨1,_,by simp,rfl,ak _ _ _,av⟩,⟨2,_,by simp,rfl,ak _ _ _,av⟩,an⟩ (λ _=>rfl) ?_;rintro v H' (⟨hW,_,l,g,hl,hlr,rfl,rfl⟩|⟨hW,rfl,rfl⟩|⟨_,h1,_,_⟩)
 ·refine⟨rfl,?_⟩;refine ae [] rfl ?_;refine ad (au (ad (aa (ae [] rfl ?_))));refine aC rfl (fun h=>absurd rfl h) (fun _=>?_);obtain⟨bt,hbt⟩:∃ bt,l[s]?=some bt:=⟨l[s]'(by omega),List.getElem?_eq_getElem (by omega)⟩;have hls:=hlr s;refine ad (aa (ah [] rfl ?_));refine ab [] (af 1 rfl) rfl ?_;refine aI 21 (v':=.int .i64 (s:Int)) rfl (congrArg (Value.int .i64) hs) ?_;refine ab [] (aG rfl (by omega)) rfl ?_;refine ab [] (aD 0 rfl rfl rfl (show (eb l)[s]?=some (.bool bt) from fA hbt)) rfl ?_;refine ae [] rfl ?_
  cases bt with
  |true=>
   refine bi rfl ?_;refine ad (aa (ae [] rfl ?_));refine az [] (by decide) rfl (ay ⟨_,rfl,.inr (.inr ⟨hW,by rw[hs];exact (hls.1 hbt).2,rfl,rfl⟩)⟩)
  |false=>
   refine bG rfl (aq ?_)
   have hno:¬ kL N (aP (N.arcs.zip f)) 1 N.snk:=λ hr=>by
    have:=hls.2 ⟨by omega,hs▸hr⟩;rw[hbt] at this;simp at this
   refine ad (aa (ah [] rfl ?_));have T:=ud (some ⟨g,0,none⟩) (n+1) g 0 l (λ _=>rfl) (by omega) true;rw[hl] at T;refine b9 [] T rfl rfl rfl rfl (by kernel_rfl) ⟨⟨0,_,by simp,rfl,cp,.inr rfl⟩,an⟩ (λ _=>rfl) ?_;rintro v H' ⟨A',c',rfl,rfl⟩;refine⟨rfl,?_⟩;refine ae [] rfl ?_;refine az [0] (by decide) rfl (ay ⟨_,rfl,.inl ⟨hW,hno,l,A',c',hl,hlr,rfl,rfl⟩⟩)
 ·refine⟨rfl,?_⟩;refine ae [] rfl ?_;refine ad (au (ad (aa (ae [] rfl ?_))));refine aC rfl (λ h=>?_) (λ h=>absurd (cU.1 (GK.1 h)) hW);refine ad (aa (ae [] rfl ?_));refine az [] (by decide) rfl (ay ⟨_,rfl,.inr (.inl ⟨hW,rfl,rfl⟩)⟩)
 ·exact absurd h1 (by decide)
structure e8 (N:aU) (s:LI):Prop where
 rise:s.Pairwise (·<·)
 rng:∀ x∈s,1<=x/\x<=N.nodes
 src:N.src∈s
 snk:N.snk∉s
theorem ur{s:LI}{v:Int}(h:s.Pairwise (·<·))(hl:∀ x∈s,x<v):(s++[v]).Pairwise (·<·):=by
 rw[HV];exact⟨h,If _ _,λ a ha b hb=>by rw[Gy.1 hb];exact hl a ha⟩
def dq(N:aU)(s:LI)(k:Nat):LI:=((List.range k).filter λ (i:Nat)=>match N.arcs[i]? with
 |some a=>decide (a.fr∈s/\a.to∉s)
 |none=>false).map λ (i:Nat)=>(i:Int)
theorem oO{N:aU}{s:LI}{k:Nat}{a:dI}(h:N.arcs[k]?=some a):dq N s (k+1)=dq N s k++(if a.fr∈s/\a.to∉s then [(k:Int)] else []):=by
 unfold dq;rw[Ir,Im,GX]
 congr 1
 by_cases h2:a.fr∈s/\a.to∉s<;>simp[h,h2]
theorem lT(N:aU)(s:LI)(k:Nat):(dq N s k).length<=k:=by
 unfold dq;rw[GA];exact HG (HI _ _) (by simp)
def jF(s:LI):List (Int×Value):=s.map λ v=>(v,.bool true)
theorem cq(s:LI)(n:Int):(ki (jF s) n).getD (.bool false)=.bool (di (n∈s)):=by
 induction s with
 |nil=>rw[a6 (by simp)];rfl
 |cons v s ih=>
  show (ki ((v,.bool true)::jF s) n).getD _=_;unfold ki;by_cases h:v=n
  ·rw[if_pos h,aR (by simp[h])];rfl
  ·rw[if_neg h,ih];have:(n∈v::s)↔n∈s:=by simp[Ne.symm h]
   rw[ey this]
theorem vw(N:aU)(hN:N.Fits)(hR:N.Right)(A:OA)(c b o:Nat)(hA:N.arcs≠[]->A=some ⟨b,o,none⟩)(s:LI)(hs:e8 N s)(hsl:s.length<=100000)(S:OA)(cs bs os:Nat)(hS:s≠[]->S=some ⟨bs,os,none⟩):
 Fn 97 [bp N A c,.slice S s.length cs] [] [.seg b o (arcs N.arcs),.seg bs os (ax s)] λ v H'=>∃ A' c',v=.tuple #[.slice A' (dq N s N.arcs.length).length c',.int .i64 0]/\
  H'=[.own (.slice A' (dq N s N.arcs.length).length c') 3 1 (dq N s N.arcs.length).length (ax (dq N s N.arcs.length))]:=by
 have hl2:=hR.len;have hnn:=hR.nodes;refine aJ Tryz.func97 rfl rfl λ w0=>?_;refine ad (aa ?_);refine bx (cs:=bI N A c) rfl rfl rfl (λ _=>rfl) λ p=>?_;refine ae [] rfl ?_;refine ad (ad (aa ?_));refine ab [] (v:=bp N A c) (af 0 rfl) rfl ?_;refine ap [] (iJ N hN A c b o hA) rfl (by kernel_rfl) ⟨⟨1,_,by simp,rfl,ak _ _ _,av⟩,an⟩ (λ _=>rfl) ?_;rintro v H' ⟨rfl,rfl⟩;refine⟨rfl,?_⟩;rw[hR.check];refine ae [] rfl ?_;refine ad (aa (ae [] rfl ?_));refine aC rfl (λ h=>absurd rfl h) (λ _=>aq ?_);refine ad (aa ?_);refine mw rfl (λ _=>rfl) λ bm=>?_;refine ae [] rfl ?_;refine ad (aa (ae [] rfl ?_));refine ad (ad (aa (ae [] rfl ?_)));refine au ?_
 refine bO (σ:=Nat) (λ k=>[(22,.int .i64 k),(21,.int .i64 s.length),(20,.slice S s.length cs),(8,.int .i64 ((s.take k).getLast?.getD 0)),(7,.map (some bm)),(2,.pointer (some ⟨p,0,none⟩))])
  (λ k=>[.obj bm (gX (jF (s.take k))),blk p 33 (bI N A c),.seg b o (arcs N.arcs),.seg bs os (ax s)]) (λ k=>k<=s.length) (λ k=>s.length-k)
  0 [0,1,2,3] ⟨rfl,rfl,rfl,rfl,rfl,rfl,an⟩ (by decide) rfl (GB _) ?_
 intro k hk;refine ad (aa (ae [] rfl ?_));refine ad (aC rfl (λ hlt=>aq ?_) (λ hge=>bc ?_))
 ·have hlt:k<s.length:=by omega
  obtain rfl:=hS (by rintro rfl;simp at hlt);obtain⟨x,hx⟩:∃ x,s[k]?=some x:=⟨s[k],Gq hlt⟩;have hxr:=hs.rng x (Gu hx)
  have hless:∀ y∈s.take k,y<x:=by
   intro y hy;obtain⟨j,hj,hjy⟩:=Hj.1 hy;have hj':j<k:=by simp at hj;omega
   have h1:=HD.1 hs.rise j k (by omega) hlt hj';rw[Iz] at hjy;obtain⟨_,h2⟩:=Gv.1 hx;rw[<- hjy,<- h2];exact h1
  have hlast:(s.take k).getLast?.getD 0<x:=by
   cases h:(s.take k).getLast? with
   |none=>show (0:Int)<x;omega
   |some y=>exact hless y (HL h)
  have htk:s.take (k+1)=s.take k++[x]:=by rw[GO,hx];rfl
  refine ad (au ?_);refine ad (aa (ah [] rfl ?_));refine ab [] (bR rfl hlt) rfl ?_;refine ab [] (a8 3 rfl rfl (be hx)) rfl ?_;refine ae [] rfl ?_;refine ad (ad (aa (ah [] rfl ?_)));refine aX 29 rfl (by omega) ?_;refine ah [3] rfl ?_;refine ab [3] (af 1 rfl) rfl ?_;refine ae [3] rfl ?_;refine aC rfl (λ h=>absurd h (by omega)) (λ _=>aq ?_);refine aa (ah [] rfl ?_);refine mb 0 Tryz.underlying205 Tryz.underlying3 rfl rfl rfl rfl rfl (λ q hq=>?_) [] rfl ?_
  ·obtain⟨y,hy,rfl⟩:=GR.1 hq;have:=hless y hy;show y≠x;omega
  refine ae [] rfl ?_;refine aa (ae [] rfl ?_);refine⟨k+1,[0,1,2,3],⟨?_,rfl,rfl,?_,rfl,rfl,an⟩,by decide,?_,by omega,by omega⟩
  ·show some (Value.int .i64 (IntKind.i64.wrap ((k:Int)+1)))=_;rw[cv (by omega)];rfl
  ·rw[htk,Hd];rfl
  ·rw[htk];unfold jF;rw[GX];rfl
 ·have hk':k=s.length:=by omega
  subst hk';rw[GY];refine ad (ad (aa (ah [] rfl ?_)));refine ab [] (af 1 rfl) rfl ?_;refine ab [] (dB 0 Tryz.underlying205 Tryz.underlying3 rfl rfl rfl rfl rfl) rfl ?_;refine aI 42 (v':=.bool true) rfl (by rw[cq,aR hs.src]) ?_;refine ah [] rfl ?_;refine aI 44 (v':=.bool false) rfl rfl ?_;refine ah [5] rfl ?_;refine ab [5] (af 1 rfl) rfl ?_;refine ab [5] (dB 0 Tryz.underlying205 Tryz.underlying3 rfl rfl rfl rfl rfl) rfl ?_;refine aI 48 (v':=.bool false) rfl (by rw[cq,a6 hs.snk]) ?_;refine ae [5] rfl ?_;refine bG rfl (aq ?_);refine ad (aa (ae [] rfl ?_));refine ad (ad (aa (ah [] rfl ?_)));refine ab [] (af 1 rfl) rfl ?_;refine ae [] rfl ?_;refine au ?_;refine cd 3 1 ?_
  refine bO (σ:=Nat×OA×Nat) (λ t=>[(53,.int .i64 t.1),(52,.int .i64 N.arcs.length),(51,.slice A N.arcs.length c),(11,.slice t.2.1 (dq N s t.1).length t.2.2),(7,.map (some bm)),(2,.pointer (some ⟨p,0,none⟩))])
   (λ t=>[.own (.slice t.2.1 (dq N s t.1).length t.2.2) 3 1 (dq N s t.1).length (ax (dq N s t.1)),.obj bm (gX (jF s)),blk p 33 (bI N A c),.seg b o (arcs N.arcs)]) (λ t=>t.1<=N.arcs.length) (λ t=>N.arcs.length-t.1)
   (0,none,0) [0,1,2,3] ⟨rfl,rfl,rfl,rfl,rfl,rfl,an⟩ (by decide) rfl (GB _) ?_
  rintro⟨k,A1,c1⟩ hk;simp only at hk ⊢;have hwl:=lT N s k;refine ad (aa (ae [] rfl ?_));refine ad (aC rfl (λ hlt=>aq ?_) (λ hge=>bc ?_))
  ·have hlt:k<N.arcs.length:=by omega
   obtain rfl:=hA (by intro h0;rw[h0] at hlt;simp at hlt);obtain⟨x,hx⟩:∃ x,N.arcs[k]?=some x:=⟨N.arcs[k],Gq hlt⟩;have hws:=oO (s:=s) hx;have hq:IntKind.i64.wrap ((k:Int)+1)=((k+1:Nat):Int):=cv (by omega);refine ad (au ?_);refine ad (aa (ah [] rfl ?_));refine ab [] (e6 rfl hlt) rfl ?_;refine ab [] (a8 3 rfl rfl (eY hx)) rfl ?_;refine bo rfl rfl rfl (λ _=>rfl) λ q=>?_;refine ah [] rfl ?_;refine aA 0 rfl [] rfl ?_;refine ai ?_;by_cases hgo:x.fr∈s/\x.to∉s
   ·rw[if_pos hgo] at hws;refine ad (aa (ah [] rfl ?_));refine ab [] (af 0 rfl) rfl ?_;refine ab [] (dB 2 Tryz.underlying205 Tryz.underlying3 rfl rfl rfl rfl rfl) rfl ?_;refine ah [] rfl ?_;refine aI 62 (v':=.bool true) rfl (by rw[cq,aR hgo.1]) ?_;refine ah [4] rfl ?_;refine ab [4] (af 0 rfl) rfl ?_;refine ab [4] (dB 2 Tryz.underlying205 Tryz.underlying3 rfl rfl rfl rfl rfl) rfl ?_;refine aI 66 (v':=.bool false) rfl (by rw[cq,a6 hgo.2]) ?_;refine ae [4] rfl ?_;refine bi rfl ?_;refine aa (ah [] rfl ?_);refine bF rfl rfl rfl rfl rfl rfl rfl (λ _=>rfl) λ g2=>?_;refine bv (n:=(dq N s k).length) (m:=1) (off:=0) (news:=ax [(k:Int)]) 2 0 rfl rfl rfl rfl rfl rfl (by decide) rfl rfl (aF g2 _ _ (0,0)) (λ _=>rfl) rfl rfl (by omega) (by omega) (λ _ _=>rfl) λ A2 c2=>?_;rw[show (dq N s k).length+1=(dq N s (k+1)).length by rw[hws];simp,show ax (dq N s k)++ax [(k:Int)]=ax (dq N s (k+1)) by rw[hws];simp[ax]];refine ae [] rfl ?_;refine aa (ae [] rfl ?_);exact⟨(k+1,A2,c2),[2,3,4,5],⟨Gt some (Gt (Value.int .i64) hq),rfl,rfl,rfl,rfl,rfl,an⟩,by decide,rfl,by simp only;omega,by simp only;omega⟩
   ·rw[if_neg hgo,G5] at hws
    refine fj [(68,.bool false),(53,.int .i64 k),(52,.int .i64 N.arcs.length),(51,.slice (some ⟨b,o,none⟩) N.arcs.length c),(11,.slice A1 (dq N s k).length c1),(7,.map (some bm)),(2,.pointer (some ⟨p,0,none⟩))]
     [.own (.slice A1 (dq N s k).length c1) 3 1 (dq N s k).length (ax (dq N s k)),.obj bm (gX (jF s)),blk p 33 (bI N (some ⟨b,o,none⟩) c),.seg b o (arcs N.arcs)] ?_ ?_
    ·skip
     refine aa (ah [] rfl ?_);refine ab [] (af 0 rfl) rfl ?_;refine ab [] (dB 2 Tryz.underlying205 Tryz.underlying3 rfl rfl rfl rfl rfl) rfl ?_;refine ah [] rfl ?_;by_cases h1:x.fr∈s
     ·have h2:x.to∈s:=GK.1 λ h=>hgo ⟨h1,h⟩;refine aI 62 (v':=.bool true) rfl (by rw[cq,aR h1]) ?_;refine ah [4] rfl ?_;refine ab [4] (af 0 rfl) rfl ?_;refine ab [4] (dB 2 Tryz.underlying205 Tryz.underlying3 rfl rfl rfl rfl rfl) rfl ?_;refine aI 66 (v':=.bool true) rfl (by rw[cq,aR h2]) ?_;refine ae [4] rfl ?_;exact⟨[1,2,3,4],⟨rfl,rfl,rfl,rfl,rfl,rfl,rfl,an⟩,by decide,rfl⟩
     ·refine aI 62 (v':=.bool false) rfl (by rw[cq,a6 h1]) ?_;refine ae [4] rfl ?_;exact⟨[1,2,3,4],⟨rfl,rfl,rfl,rfl,rfl,rfl,rfl,an⟩,by decide,rfl⟩
    ·refine bG rfl (aq ?_);refine aa (ae [] rfl ?_);exact⟨(k+1,A1,c1),[0,1,2,3],⟨Gt some (Gt (Value.int .i64) hq),rfl,rfl,by simp only[hws];rfl,rfl,rfl,an⟩,by decide,by simp only[hws];rfl,by simp only;omega,by simp only;omega⟩
  ·have hk':k=N.arcs.length:=by omega
   subst hk';refine ad (aa (ae [] rfl ?_));exact az [0] (by decide) rfl (ay ⟨_,rfl,A1,c1,rfl,rfl⟩)
def gL(N:aU)(i:Int):Int:=match N.arcs[i.toNat]? with
 |some a=>a.cap
 |none=>0
open Classical in
noncomputable def eL(s:LI)(l:List dI):Int:=(l.map λ a=>if a.fr∈s/\a.to∉s then a.cap else 0).sum
theorem qX(N:aU)(s:LI):∀ k,k<=N.arcs.length->((dq N s k).map (gL N)).sum=eL s (N.arcs.take k)
 |0,_=>by simp[dq,eL]
 |k+1,h=>by
  obtain⟨a,ha⟩:∃ a,N.arcs[k]?=some a:=⟨N.arcs[k],Gq (by omega)⟩;have ih:=qX N s k (by omega);rw[oO ha,GO,ha,GX,Iu,ih];unfold eL;rw[GX,Iu]
  congr 1
  by_cases h2:a.fr∈s/\a.to∉s
  ·simp only[if_pos h2,GG,Hy,GT,List.sum_nil,Option.toList_some];show gL N (k:Int)+0=a.cap+0;unfold gL;rw[GW,ha]
  ·simp only[if_neg h2,GG,Hy,GT,List.sum_nil,Option.toList_some];rfl
theorem fv:∀ (l:LI),(∀ x∈l,0<=x)->0<=l.sum
 |[],_=>by simp
 |x::l,h=>by
  have:=fv l λ y hy=>h y (by simp[hy]);have:=h x (by simp);simp only[GT];omega
theorem wL{N:aU}(hR:N.Right)(s:LI):0<=eL s N.arcs/\eL s N.arcs<=4611686018427387903:=by
 have h1:∀ (l:List dI),(∀ a∈l,0<=a.cap)->0<=eL s l/\eL s l<=(l.map (·.cap)).sum:=by
  intro l
  induction l with
  |nil=>intro _;simp[eL]
  |cons a l ih=>
   intro h;have h2:=ih λ x hx=>h x (by simp[hx]);have h3:=h a (by simp);unfold eL at h2 ⊢;simp only[GG,GT];split<;>omega
 have:=h1 N.arcs λ a ha=>(hR.arc a ha).2.2;have:=hR.sum;omega
theorem oF(N:aU)(hN:N.Fits)(hR:N.Right)(A:OA)(c b o:Nat)(hA:N.arcs≠[]->A=some ⟨b,o,none⟩)(s:LI)(hs:e8 N s)(hsl:s.length<=100000)(S:OA)(cs bs os:Nat)(hS:s≠[]->S=some ⟨bs,os,none⟩):
 Fn 59 [bp N A c,.slice S s.length cs] [] [.seg b o (arcs N.arcs),.seg bs os (ax s)] λ v H'=>v=tj (eL s N.arcs,0)/\H'=[]:=by
 have hl2:=hR.len;obtain⟨l,hl⟩:∃ l,l=dq N s N.arcs.length:=⟨_,rfl⟩;have hll:=lT N s N.arcs.length;have htot:(l.map (gL N)).sum=eL s N.arcs:=by rw[hl,qX N s _ (GF _),GY]
 have hmem:∀ x∈l,∃ (i:Nat) (a:dI),x=i/\N.arcs[i]?=some a/\gL N x=a.cap/\0<=a.cap:=by
  intro x hx;rw[hl] at hx;unfold dq at hx;obtain⟨i,hi,rfl⟩:=GR.1 hx;have hi2:=(Ia.1 hi).2
  cases ha:N.arcs[i]? with
  |none=>rw[ha] at hi2;simp at hi2
  |some a=>exact⟨i,a,rfl,ha,by unfold gL;rw[GW,ha],(hR.arc a (Gu ha)).2.2⟩
 have hpos:∀ x∈l.map (gL N),0<=x:=by
  intro x hx;obtain⟨y,hy,rfl⟩:=GR.1 hx;obtain⟨_,a,_,_,h3,h4⟩:=hmem y hy;rw[h3];exact h4
 have hcz:=wL hR s
 have hpart:∀ k,0<=((l.take k).map (gL N)).sum/\((l.take k).map (gL N)).sum<=4611686018427387903:=by
  intro k;have e:((l.take k).map (gL N)).sum+((l.drop k).map (gL N)).sum=eL s N.arcs:=by rw[<- Iu,<- GX,Hs,htot]
  have h1:=fv ((l.take k).map (gL N)) λ x hx=>hpos x (by rw[List.map_take] at hx;exact Hl hx);have h2:=fv ((l.drop k).map (gL N)) λ x hx=>hpos x (by rw[List.map_drop] at hx;exact IU hx);omega
 refine aJ Tryz.func59 rfl rfl λ w0=>?_;refine ad (aa ?_);refine bx (cs:=bI N A c) rfl rfl rfl (λ _=>rfl) λ p=>?_;refine ae [] rfl ?_;refine ad (aa ?_);refine ab [] (v:=bp N A c) (af 0 rfl) rfl ?_;refine ah [] rfl ?_;refine ap [] (vw N hN hR A c b o hA s hs hsl S cs bs os hS) rfl (by kernel_rfl) ⟨⟨1,_,by simp,rfl,ak _ _ _,av⟩,⟨2,_,by simp,rfl,ak _ _ _,av⟩,an⟩ (λ _=>rfl) ?_;rintro v H' ⟨A1,c1,rfl,rfl⟩;refine⟨rfl,?_⟩;rw[<- hl] at hll ⊢;refine ae [] rfl ?_;refine ad (aa (ae [] rfl ?_));refine ad (ad (aa (ae [] rfl ?_)));refine bh (aW 0 rfl) λ ⟨_,_,hA1,_⟩=>?_;refine au ?_
 refine bO (σ:=Nat) (λ k=>[(19,.int .i64 k),(18,.int .i64 l.length),(17,.slice A1 l.length c1),(8,.int .i64 ((l.take k).map (gL N)).sum),(7,.int .i64 0),(2,.pointer (some ⟨p,0,none⟩))])
  (λ k=>[.own (.slice A1 l.length c1) 3 1 l.length (ax l),blk p 33 (bI N A c),.seg b o (arcs N.arcs)]) (λ k=>k<=l.length) (λ k=>l.length-k)
  0 [0,1,2] ⟨rfl,rfl,rfl,rfl,rfl,rfl,an⟩ (by decide) rfl (GB _) ?_
 intro k hk;refine ad (aa (ae [] rfl ?_));refine ad (aC rfl (λ hlt=>aq ?_) (λ hge=>bc ?_))
 ·have hlt:k<l.length:=by omega
  obtain⟨g1,rfl⟩:=hA1 (by omega);obtain⟨x,hx⟩:∃ x,l[k]?=some x:=⟨l[k],Gq hlt⟩;obtain⟨i,a,rfl,ha,hcap,hc0⟩:=hmem x (Gu hx);have hil:i<N.arcs.length:=(Gv.1 ha).1;obtain rfl:=hA (by intro h0;rw[h0] at hil;simp at hil);obtain⟨_,_,hac⟩:=eO ha;have htk:((l.take (k+1)).map (gL N)).sum=((l.take k).map (gL N)).sum+a.cap:=by rw[GO,hx,GX,Iu];simp[hcap]
  have hb1:=hpart (k+1);rw[htk] at hb1;refine ad (au ?_);refine ad (aa (ah [] rfl ?_));refine ab [] (aG rfl hlt) rfl ?_;refine ab [] (aD 0 rfl rfl rfl (be hx)) rfl ?_;refine ae [] rfl ?_;refine aa (ah [] rfl ?_);refine ab [] (af 1 rfl) rfl ?_;refine ah [] rfl ?_;refine ab [] (e6 rfl hil) rfl ?_;refine ah [] rfl ?_;refine ab [] (a8 2 rfl rfl hac) rfl ?_;refine ae [] rfl ?_;refine aa (ae [] rfl ?_);refine⟨k+1,[0,1,2],⟨?_,rfl,rfl,?_,rfl,rfl,an⟩,by decide,rfl,by omega,by omega⟩
  ·show some (Value.int .i64 (IntKind.i64.wrap ((k:Int)+1)))=_;rw[cv (by omega)];rfl
  ·show some (Value.int .i64 (IntKind.i64.wrap (((l.take k).map (gL N)).sum+a.cap)))=_;rw[htk,cv (by omega)]
 ·have hk':k=l.length:=by omega
  subst hk';refine ad (aa (ae [] rfl ?_));refine az [] (by decide) rfl (ay ⟨_,rfl,?_,rfl⟩);rw[GY,htot];rfl
theorem sq:∀ (al:List dI) (f:LI) (i:Nat) (a:dI) (x m v:Int),al[i]?=some a->f[i]?=some x->
 cS (al.zip (f.set i (x+m))) v=cS (al.zip f) v+((if a.to=v then m else 0)-(if a.fr=v then m else 0))
 |[],_,_,_,_,_,_,h,_=>by simp at h
 |_::_,[],_,_,_,_,_,_,h=>by simp at h
 |b::al,y::f,0,a,x,m,v,ha,hx=>by
  simp only[HB,Gs] at ha hx;subst ha hx;simp only[HU,H7,cS,GG,GT];split<;>split<;>omega
 |b::al,y::f,i+1,a,x,m,v,ha,hx=>by
  have:=sq al f i a x m v (by simpa using ha) (by simpa using hx);simp only[cS] at this;simp only[List.set_cons_succ,H7,cS,GG,GT];omega
def iz(N:aU):Int->LN->Int->Prop
 |a,[],z=>a=z
 |a,i::W,z=>∃ r:dI,N.arcs[i]?=some r/\r.fr=a/\iz N r.to W z
theorem mv{N:aU}{i:Nat}{r:dI}(h:N.arcs[i]?=some r):∀ {W:LN} {a:Int},iz N a W r.fr->iz N a (W++[i]) r.to
 |[],_,hw=>⟨r,h,hw.symm,rfl⟩
 |_::_,_,⟨q,h1,h2,h3⟩=>⟨q,h1,h2,mv h h3⟩
theorem sK(t x:Int):∀ (s:LI),s.Nodup->(s.map λ v=>if t=v then x else 0).sum=if t∈s then x else 0
 |[],_=>by simp
 |v::s,h=>by
  have h1:=GS.1 h;simp only[GG,GT,sK t x s h1.2];by_cases e:t=v
  ·subst e;rw[if_pos rfl,if_neg h1.1,if_pos (by simp)];omega
  ·rw[if_neg e];by_cases e2:t∈s
   ·rw[if_pos e2,if_pos (by simp[e2])];omega
   ·rw[if_neg e2,if_neg (by simp[e,e2])];omega
def kP(s:LI)(ps:List (dI×Int)):Int:=(ps.map λ p=>(if p.1.fr∈s then p.2 else 0)-(if p.1.to∈s then p.2 else 0)).sum
theorem wJ(f g:Int->Int):∀ s:LI,(s.map λ v=>f v-g v).sum=(s.map f).sum-(s.map g).sum
 |[]=>by simp
 |v::s=>by simp only[GG,GT,wJ f g s];omega
theorem xv(f g:Int->Int):∀ s:LI,(s.map λ v=>f v+g v).sum=(s.map f).sum+(s.map g).sum
 |[]=>by simp
 |v::s=>by simp only[GG,GT,xv f g s];omega
theorem wi{s:LI}(hs:s.Nodup):∀ ps:List (dI×Int),(s.map (cS ps)).sum=-kP s ps
 |[]=>by
  have:∀ s:LI,(s.map (cS [])).sum=0:=by
   intro s
   induction s with
   |nil=>rfl
   |cons v s ih=>simp only[GG,GT,ih];simp[cS]
  rw[this];simp[kP]
 |p::ps=>by
  have ih:=wi hs ps
  have e:(s.map (cS (p::ps)))=s.map λ v=>((if p.1.to=v then p.2 else 0)-(if p.1.fr=v then p.2 else 0))+cS ps v:=by
   refine HH λ v _=>?_;simp only[cS,GG,GT]
  rw[e,xv,wJ,sK _ _ s hs,sK _ _ s hs,ih];simp only[kP,GG,GT];omega
theorem tD(g:Int->Int):∀ s:LI,(∀ v∈s,g v=0)->(s.map g).sum=0
 |[],_=>by simp
 |v::s,h=>by simp only[GG,GT,tD g s λ w hw=>h w (by simp[hw]),h v (by simp)];omega
theorem mr(g:Int->Int)(a:Int):∀ s:LI,s.Nodup->a∈s->(∀ v∈s,v≠a->g v=0)->(s.map g).sum=g a
 |[],_,h,_=>by simp at h
 |v::s,hn,ha,h=>by
  have h1:=GS.1 hn;simp only[GG,GT];by_cases e:v=a
  ·subst e;rw[tD g s λ w hw=>h w (by simp[hw]) (λ e=>h1.1 (e▸hw))];omega
  ·have ha':a∈s:=(GD.1 ha).resolve_left (λ h=>e h.symm);rw[mr g a s h1.2 ha' λ w hw=>h w (by simp[hw]),h v (by simp) e];omega
theorem qp{s:LI}(h:s.Pairwise (·<·)):s.Nodup:=h.imp λ h=>by omega
theorem xF{N:aU}{f:LI}(hf:aK N f){s:LI}(hs:e8 N s):cS (N.arcs.zip f) N.src=-kP s (N.arcs.zip f):=by
 rw[<- wi (qp hs.rise),mr _ N.src s (qp hs.rise) hs.src λ v hv hne=>hf.kept v (hs.rng v hv) hne λ e=>hs.snk (e▸hv)]
def qF(n:Nat)(z:Int):LI:=((List.range (n+1)).map λ (v:Nat)=>(v:Int)).filter λ v=>decide (1<=v/\v≠z)
theorem mj{n:Nat}{z x:Int}:x∈qF n z↔1<=x/\x<=n/\x≠z:=by
 unfold qF;simp only[Ia,GR,Hm,G3]
 constructor
 ·rintro⟨⟨v,hv,rfl⟩,h1,h2⟩;exact⟨h1,by omega,h2⟩
 ·rintro⟨h1,h2,h3⟩;exact⟨⟨x.toNat,by omega,by omega⟩,h1,h3⟩
theorem wP{N:aU}(hR:N.Right)(n:Nat)(hn:N.nodes=n)(s:LI)(hs:∀ x:Int,x∈s↔1<=x/\x<=n/\x≠N.snk):∀ ps:List (dI×Int),(∀ p∈ps,p.1∈N.arcs)->kP s ps=cS ps N.snk
 |[],_=>by simp[kP,cS]
 |p::ps,h=>by
  have ih:=wP hR n hn s hs ps λ q hq=>h q (by simp[hq]);have h1:=hR.arc p.1 (h p (by simp));have e1:p.1.fr∈s↔p.1.fr≠N.snk:=by rw[hs];omega
  have e2:p.1.to∈s↔p.1.to≠N.snk:=by rw[hs];omega
  have e3:N.snk∉s:=by rw[hs];omega
  simp only[kP,cS,GG,GT] at ih ⊢;rw[ih];by_cases a1:p.1.fr=N.snk<;>by_cases a2:p.1.to=N.snk<;>simp[e1,e2,e3,a1,a2]<;>omega
theorem nk(n:Nat)(z:Int):(qF n z).Nodup:=by
 unfold qF
 have h:((List.range (n+1)).map λ (v:Nat)=>(v:Int)).Nodup:=by
  rw[List.nodup_iff_pairwise_ne,List.pairwise_map];exact List.nodup_range.imp λ h e=>h (by omega)
 exact List.Pairwise.filter _ h
theorem lE{N:aU}(hR:N.Right){f:LI}(hf:aK N f){s:LI}(hs:e8 N s):cS (N.arcs.zip f) N.snk=kP s (N.arcs.zip f):=by
 have hnn:=hR.nodes;have hsr:=hR.src;have hd:=hR.diff;obtain⟨n,hn⟩:∃ n:Nat,N.nodes=n:=⟨N.nodes.toNat,by omega⟩;have h1:=wP hR n hn (qF n N.snk) (λ x=>mj) (N.arcs.zip f) λ p hp=>(List.of_mem_zip hp).1;have h2:=wi (nk n N.snk) (N.arcs.zip f)
 rw[mr _ N.src _ (nk n N.snk) (mj.2 ⟨by omega,by omega,hd⟩) λ v hv hne=>by
  have:=mj.1 hv;exact hf.kept v (by omega) hne this.2.2,xF hf hs,h1] at h2
 omega
def gS(m:Int):LN->LI->LI
 |[],f=>f
 |i::W,f=>gS m W (f.set i (f.getD i 0+m))
theorem i5(m:Int):∀ (W:LN) (f:LI),(gS m W f).length=f.length
 |[],_=>rfl
 |i::W,f=>by rw[gS,i5 m W];simp
theorem nt{N:aU}{z m v:Int}:∀ (W:LN) (a:Int) (f:LI),f.length=N.arcs.length->iz N a W z->cS (N.arcs.zip (gS m W f)) v=cS (N.arcs.zip f) v+((if z=v then m else 0)-(if a=v then m else 0))
 |[],a,f,_,h=>by
  have h':a=z:=h;rw[gS,h'];omega
 |i::W,a,f,hl,⟨r,h1,h2,h3⟩=>by
  have hi:i<N.arcs.length:=(Gv.1 h1).1;have hx:f[i]?=some (f.getD i 0):=by rw[Gw,Gq (by omega)];rfl
  rw[gS,nt W r.to _ (by simp[hl]) h3,sq N.arcs f i r _ m v h1 hx,h2];omega
theorem u7(m:Int):∀ (W:LN) (f:LI) (j:Nat),W.Nodup->(∀ i∈W,i<f.length)->(gS m W f)[j]?=if j∈W then some (f.getD j 0+m) else f[j]?
 |[],f,j,_,_=>by simp[gS]
 |i::W,f,j,hn,hi=>by
  have h1:=GS.1 hn;rw[gS,u7 m W _ j h1.2 (λ k hk=>by simp;exact hi k (by simp[hk]))];by_cases e:j=i
  ·subst e;rw[if_neg h1.1,if_pos (by simp),GH (hi j (by simp))]
  ·by_cases e2:j∈W
   ·rw[if_pos e2,if_pos (by simp[e2])];simp only[Gw];rw[GJ (λ h=>e h.symm)]
   ·rw[if_neg e2,if_neg (by simp[e,e2]),GJ (λ h=>e h.symm)]
theorem mf:∀ {l:LI},(∀ x∈l,0<=x)->∀ {x},x∈l->x<=l.sum
 |[],_,_,h=>by cases h
 |y::l,h,x,hx=>by
  have h0:0<=l.sum:=by
   clear hx
   have h':∀ x∈l,0<=x:=λ x hx=>h x (by simp[hx])
   clear h
   induction l with
   |nil=>simp
   |cons z l ih=>
    have:=h' z (by simp);have:=ih (λ x hx=>h' x (by simp[hx]));rw[GT];omega
  rw[GT]
  rcases GD.1 hx with rfl|hx
  ·omega
  ·have:=h y (by simp);have:=mf (λ x hx=>h x (by simp[hx])) hx;omega
theorem aU.Right.cap{N:aU}(h:N.Right){a:dI}(ha:a∈N.arcs):a.cap<=4611686018427387903:=
 I3 (mf (l:=N.arcs.map (·.cap)) (λ x hx=>by obtain⟨b,hb,rfl⟩:=GR.1 hx;exact (h.arc b hb).2.2) (GR.2 ⟨a,ha,rfl⟩)) h.sum
theorem aK.inB{N:aU}(hR:N.Right){f:LI}(hf:Ranged N f):∀ x∈f,dn x:=by
 intro x hx;obtain⟨j,hj,rfl⟩:=Hj.1 hx;have hl:=hf.len;have ha:N.arcs[j]?=some (N.arcs[j]'(by omega)):=Gq (by omega);have h2:=hf.all (N.arcs[j]'(by omega),f[j]) (Gu (G7.2 ⟨ha,Gq hj⟩));have h3:=hR.cap (Gu ha);simp only at h2;unfold Go.Proofs.YtmcnpaelaieniaaGreatDoor.dn;omega
theorem km(N:aU)(hR:N.Right):aK N (List.replicate N.arcs.length 0):=by
 have hz:∀ (l:List dI) (v:Int),cS (l.zip (List.replicate l.length 0)) v=0:=by
  intro l v
  induction l with
  |nil=>simp[cS]
  |cons a l ih=>
   simp only[cS] at ih;simp only[cS,Gz,Hw,H7,GG,GT,ih];split<;>split<;>rfl
 refine⟨⟨by simp,λ p hp=>?_⟩,λ v _ _ _=>hz _ _⟩;obtain⟨h1,h2⟩:=List.of_mem_zip hp;have:=(hR.arc p.1 h1).2.2;have:=List.eq_of_mem_replicate h2;omega
def dC(N:aU)(r:Nat):Nat:=(b8 N r).1.toNat
def eV(N:aU)(r:Nat):Nat:=(b8 N r).2.toNat
theorem kn{N:aU}(hR:N.Right){r:Nat}(hr:r<2*N.arcs.length):(b8 N r).1=(dC N r:Int)/\1<=dC N r/\(dC N r:Int)<=N.nodes:=by
 have:=fG hR hr;unfold dC;omega
theorem gU{N:aU}(hR:N.Right){r:Nat}(hr:r<2*N.arcs.length):(b8 N r).2=(eV N r:Int)/\1<=eV N r/\(eV N r:Int)<=N.nodes:=by
 have:=fG hR hr;unfold eV;omega
def bP(r:Nat):Nat:=if r%2=1 then r-1 else r+1
theorem jJ(r:Nat):bP (bP r)=r:=by unfold bP;split<;>split<;>omega
theorem u0(r:Nat):bP r≠r:=by unfold bP;split<;>omega
theorem uJ{r m:Nat}(h:r<2*m):bP r<2*m:=by unfold bP;split<;>omega
theorem wa(r:Nat):bP r/2=r/2:=by unfold bP;split<;>omega
theorem fM(N:aU)(r:Nat):dC N (bP r)=eV N r:=by
 unfold dC eV b8;rw[wa]
 cases N.arcs[r/2]? with
 |none=>rfl
 |some a=>
  show (cV a (bP r)).1.toNat=(cV a r).2.toNat;unfold cV bP;split<;>split<;>first|rfl|omega
theorem iF(N:aU)(r:Nat):eV N (bP r)=dC N r:=by
 have:=fM N (bP r);rw[jJ] at this;exact this.symm
def Tr(N:aU):Nat->LN->Nat->Prop
 |a,[],z=>a=z
 |a,r::W,z=>dC N r=a/\Tr N (eV N r) W z
theorem zX{N:aU}{r:Nat}:∀ {W:LN} {a:Nat},Tr N a W (dC N r)->Tr N a (W++[r]) (eV N r)
 |[],_,h=>⟨h.symm,rfl⟩
 |_::_,_,⟨h1,h2⟩=>⟨h1,zX h2⟩
theorem mF{N:aU}{r z:Nat}:∀ {W:LN} {a:Nat},Tr N a (W++[r]) z->Tr N a W (dC N r)/\z=eV N r
 |[],_,⟨h1,h2⟩=>⟨h1.symm,h2.symm⟩
 |_::_,_,⟨h1,h2⟩=>⟨⟨h1,(mF h2).1⟩,(mF h2).2⟩
theorem sW{N:aU}:∀ {W:LN} {a z:Nat} (k:Nat),Tr N a W z->∃ y,Tr N a (W.take k) y
 |[],a,_,k,_=>⟨a,by rw[List.take_nil];exact rfl⟩
 |r::W,a,z,0,_=>⟨a,rfl⟩
 |r::W,a,z,k+1,⟨h1,h2⟩=>by obtain⟨y,hy⟩:=sW k h2;exact⟨y,h1,hy⟩
def cR(N:aU)(W:LN):Nat:=match W.getLast? with
 |none=>N.src.toNat
 |some r=>eV N r
theorem mQ(N:aU)(W:LN)(r:Nat):cR N (W++[r])=eV N r:=by unfold cR;rw[Hd];rfl
theorem vq{N:aU}{W:LN}{z:Nat}(h:Tr N N.src.toNat W z):z=cR N W:=by
 rcases Hn W with rfl|⟨W0,r,rfl⟩
 ·exact h.symm
 ·rw[Ho] at h ⊢;rw[(mF h).2,mQ]
structure eF (N:aU) (L:Nat->LN) (lv:Nat->Int):Prop where
 ok:∀ v r,r∈L v->r<2*N.arcs.length/\dC N r=v/\lv (eV N r)=lv v+1
 hi:∀ v,-1<=lv v/\lv v<N.nodes
theorem na{N:aU}{L:Nat->LN}{lv:Nat->Int}(hG:eF N L lv):∀ {W:LN} {a z:Nat},Tr N a W z->(∀ r∈W,r∈L (dC N r))->lv z=lv a+W.length/\∀ r∈W,lv a<=lv (dC N r)/\lv (dC N r)<lv z
 |[],a,z,h,_=>by rw[show a=z from h];simp
 |r::W,a,z,⟨h1,h2⟩,hW=>by
  have h3:=(hG.ok _ _ (hW r (by simp))).2.2;obtain⟨h4,h5⟩:=na hG h2 λ q hq=>hW q (by simp[hq]);rw[h1] at h3;refine⟨by rw[h4,h3,Gz];omega,λ q hq=>?_⟩
  rcases GD.1 hq with rfl|hq
  ·rw[h1];omega
  ·have:=h5 q hq;omega
theorem pA{N:aU}{L:Nat->LN}{lv:Nat->Int}(hG:eF N L lv):∀ {W:LN} {a z:Nat},Tr N a W z->(∀ r∈W,r∈L (dC N r))->W.Nodup/\∀ r∈W,∀ q∈W,bP r≠q
 |[],a,z,h,_=>⟨IP,λ _ h=>by cases h⟩
 |r::W,a,z,⟨h1,h2⟩,hW=>by
  obtain⟨h3,h4⟩:=pA hG h2 λ q hq=>hW q (by simp[hq]);have hr:=(hG.ok _ _ (hW r (by simp))).2.2;have h5:=(na hG h2 λ q hq=>hW q (by simp[hq])).2
  have hf:∀ s∈r::W,∀ q∈r::W,bP s=q->False:=by
   intro s hs q hq e;have h6:=(hG.ok _ _ (hW s hs)).2.2;have h7:=(hG.ok _ _ (hW q hq)).2.2;rw[<- e,iF,fM] at h7;omega
  refine⟨GS.2 ⟨λ hin=>?_,h3⟩,λ s hs q hq e=>hf s hs q hq e⟩;have:=(h5 r hin).1;omega
def m0(L:Nat->LN)(pos:LN)(u:Nat):Prop:=∀ p,pos[u]?=some p->(L u).length<=p
structure PI (N:aU) (L:Nat->LN) (least:Int) (rm:LI) (pos W:LN):Prop where
 pl:pos.length=N.nodes.toNat+1
 tr:∃ z,Tr N N.src.toNat W z
 head:∀ r∈W,∃ p,pos[dC N r]?=some p/\(L (dC N r))[p]?=some r/\least<=rm.getD r 0
 pass:∀ v p,pos[v]?=some p->∀ j r,j<p->(L v)[j]?=some r->rm.getD r 0<least\/(eV N r≠N.snk.toNat/\m0 L pos (eV N r))
theorem ul{pos:LN}{v p u q:Nat}(h:pos[v]?=some p)(hq:(pos.set v (p+1))[u]?=some q):∃ q0,pos[u]?=some q0/\q0<=q/\(u≠v->q0=q):=by
 by_cases e:v=u
 ·subst e;rw[GH (Gv.1 h).1] at hq;simp only[Gs] at hq;exact⟨p,h,by omega,λ h=>absurd rfl h⟩
 ·rw[GJ e] at hq;exact⟨q,hq,GF _,λ _=>rfl⟩
theorem m0.more{L:Nat->LN}{pos:LN}{v p u:Nat}(h:m0 L pos u)(hp:pos[v]?=some p):m0 L (pos.set v (p+1)) u:=by
 intro q hq;obtain⟨q0,h1,h2,_⟩:=ul hp hq;exact HG (h q0 h1) h2
section
variable {N:aU} {L:Nat->LN} {lv:Nat->Int} {least:Int} {rm:LI} {pos W:LN}
theorem PI.on(h:PI N L least rm pos W):Tr N N.src.toNat W (cR N W):=by
 obtain⟨z,hz⟩:=h.tr;rw[<- vq hz];exact hz
theorem PI.mem(h:PI N L least rm pos W):∀ r∈W,r∈L (dC N r):=λ r hr=>by
 obtain⟨p,_,h2,_⟩:=h.head r hr;exact Gu h2
theorem PI.go(h:PI N L least rm pos W)(hG:eF N L lv){p r:Nat}(hp:pos[cR N W]?=some p)(hr:(L (cR N W))[p]?=some r)(hl:least<=rm.getD r 0):PI N L least rm pos (W++[r]):=by
 have hf:=(hG.ok _ _ (Gu hr)).2.1;refine⟨h.pl,⟨_,zX (hf.symm▸h.on)⟩,λ q hq=>?_,h.pass⟩
 rcases GE.1 hq with hq|hq
 ·exact h.head q hq
 ·rw[Gy.1 hq,hf];exact⟨p,hp,hr,hl⟩
theorem PI.bump(h:PI N L least rm pos W){v p r:Nat}(hv:∀ q∈W,dC N q≠v)(hp:pos[v]?=some p)(hr:(L v)[p]?=some r)(hl:rm.getD r 0<least\/(eV N r≠N.snk.toNat/\m0 L pos (eV N r))):PI N L least rm (pos.set v (p+1)) W:=by
 refine⟨by rw[Ha];exact h.pl,h.tr,λ q hq=>?_,λ u q hq j s hj hs=>?_⟩
 ·obtain⟨k,h1,h2,h3⟩:=h.head q hq;exact⟨k,by rw[GJ (hv q hq).symm];exact h1,h2,h3⟩
 ·obtain⟨q0,h1,h2,h3⟩:=ul hp hq
  have key:rm.getD s 0<least\/(eV N s≠N.snk.toNat/\m0 L pos (eV N s)):=by
   by_cases e:u=v
   ·subst e;rw[hp] at h1;simp only[Gs] at h1;rw[GH (Gv.1 hp).1] at hq;simp only[Gs] at hq;by_cases ej:j=p
    ·subst ej;rw[hr] at hs;simp only[Gs] at hs;rw[<- hs];exact hl
    ·exact h.pass u p hp j s (by omega) hs
   ·have:=h3 e;subst this;exact h.pass u q0 h1 j s hj hs
  rcases key with k|⟨k1,k2⟩
  ·exact .inl k
  ·exact .inr ⟨k1,k2.more hp⟩
theorem PI.skip(h:PI N L least rm pos W)(hG:eF N L lv){p r:Nat}(hp:pos[cR N W]?=some p)(hr:(L (cR N W))[p]?=some r)(hl:rm.getD r 0<least):PI N L least rm (pos.set (cR N W) (p+1)) W:=
 h.bump (λ q hq e=>by have:=((na hG h.on h.mem).2 q hq).2;rw[e] at this;omega) hp hr (.inl hl)
theorem PI.drop{r:Nat}(h:PI N L least rm pos (W++[r])):PI N L least rm pos W:=by
 obtain⟨z,hz⟩:=h.tr;exact⟨h.pl,⟨_,(mF hz).1⟩,λ q hq=>h.head q (by simp[hq]),h.pass⟩
theorem PI.back_at{r:Nat}(h:PI N L least rm pos (W++[r])):∃ q,pos[cR N W]?=some q/\(L (cR N W))[q]?=some r/\dC N r=cR N W:=by
 obtain⟨z,hz⟩:=h.tr;have e:=vq (mF hz).1;obtain⟨p,h1,h2,_⟩:=h.head r (by simp);rw[e] at h1 h2;exact⟨p,h1,h2,e⟩
theorem PI.back{r p q:Nat}(h:PI N L least rm pos (W++[r]))(hG:eF N L lv)(hs:cR N (W++[r])≠N.snk.toNat)(hp:pos[cR N (W++[r])]?=some p)(hl:(L (cR N (W++[r]))).length<=p)(hq:pos[cR N W]?=some q):
 PI N L least rm (pos.set (cR N W) (q+1)) W:=by
 obtain⟨q',h1,h2,h3⟩:=h.back_at;rw[hq] at h1;simp only[Gs] at h1;subst h1;rw[mQ] at hs hp hl;refine h.drop.bump (λ s hs' e=>?_) hq h2 (.inr ⟨hs,λ p' hp'=>?_⟩)
 ·have:=((na hG h.drop.on h.drop.mem).2 s hs').2;rw[e] at this;omega
 ·rw[hp] at hp';simp only[Gs] at hp';rw[<- hp'];exact hl
end
inductive Nx (N:aU) (L:Nat->LN) (least:Int) (rm:LI):LN->LN->Bool->LN->LN->Prop
 |hit {pos W:LN}:cR N W=N.snk.toNat->Nx N L least rm pos W true pos W
 |go {pos W pos' W':LN} {r p:Nat} {b:Bool}:cR N W≠N.snk.toNat->pos[cR N W]?=some p->(L (cR N W))[p]?=some r->least<=rm.getD r 0->Nx N L least rm pos (W++[r]) b pos' W'->Nx N L least rm pos W b pos' W'
 |skip {pos W pos' W':LN} {r p:Nat} {b:Bool}:cR N W≠N.snk.toNat->pos[cR N W]?=some p->(L (cR N W))[p]?=some r->rm.getD r 0<least->Nx N L least rm (pos.set (cR N W) (p+1)) W b pos' W'->Nx N L least rm pos W b pos' W'
 |back {pos W pos' W':LN} {r p q:Nat} {b:Bool}:cR N (W++[r])≠N.snk.toNat->pos[cR N (W++[r])]?=some p->(L (cR N (W++[r]))).length<=p->pos[cR N W]?=some q->Nx N L least rm (pos.set (cR N W) (q+1)) W b pos' W'->Nx N L least rm pos (W++[r]) b pos' W'
 |stop {pos:LN} {p:Nat}:N.src.toNat≠N.snk.toNat->pos[N.src.toNat]?=some p->(L N.src.toNat).length<=p->Nx N L least rm pos [] false pos []
theorem Nx.keeps{N:aU}{L:Nat->LN}{lv:Nat->Int}{least:Int}{rm:LI}(hG:eF N L lv){pos W pos' W':LN}{b:Bool}(h:Nx N L least rm pos W b pos' W'):
 PI N L least rm pos W->PI N L least rm pos' W'/\(b=true->cR N W'=N.snk.toNat)/\(b=false->W'=[]/\m0 L pos' N.src.toNat):=by
 induction h with
 |hit h=>exact λ hI=>⟨hI,λ _=>h,λ h=>(by cases h)⟩
 |go _ h2 h3 h4 _ ih=>exact λ hI=>ih (hI.go hG h2 h3 h4)
 |skip _ h2 h3 h4 _ ih=>exact λ hI=>ih (hI.skip hG h2 h3 h4)
 |back h1 h2 h3 h4 _ ih=>exact λ hI=>ih (hI.back hG h1 h2 h3 h4)
 |stop _ h2 h3=>exact λ hI=>⟨hI,λ h=>(by cases h),λ _=>⟨rfl,λ p hp=>by rw[h2] at hp;simp only[Gs] at hp;rw[<- hp];exact h3⟩⟩
inductive LP (N:aU) (L:Nat->LN) (least:Int) (rm:LI):Nat->Prop
 |src:LP N L least rm N.src.toNat
 |step {r:Nat}:LP N L least rm (dC N r)->r∈L (dC N r)->least<=rm.getD r 0->LP N L least rm (eV N r)
theorem xf{N:aU}(hR:N.Right){L:Nat->LN}{lv:Nat->Int}{least:Int}{rm:LI}(hG:eF N L lv){pos:LN}(hI:PI N L least rm pos [])(hd:m0 L pos N.src.toNat)(hs:N.src.toNat≠N.snk.toNat):
 ∀ {u},LP N L least rm u->u≠N.snk.toNat/\m0 L pos u:=by
 intro u h
 induction h with
 |src=>exact⟨hs,hd⟩
 |@step r _ hr hl ih=>
  obtain⟨j,hj,hjr⟩:=Hj.1 hr;have hlt:=(hG.ok _ _ hr).1;have hf:=kn hR hlt;have hlen:dC N r<pos.length:=by rw[hI.pl];omega
  obtain⟨p,hp⟩:∃ p,pos[dC N r]?=some p:=⟨pos[dC N r],Gq hlen⟩;have:=ih.2 p hp
  rcases hI.pass _ p hp j r (by omega) (by rw[Gq hj,hjr]) with k|k
  ·omega
  ·exact k
def nm(a:Int)(r:Nat)(rm:LI):LI:=(rm.set r (rm.getD r 0-a)).set (bP r) (rm.getD (bP r) 0+a)
def cj(a:Int):LN->LI->LI
 |[],rm=>rm
 |r::W,rm=>cj a W (nm a r rm)
theorem jS(a:Int)(r:Nat)(rm:LI):(nm a r rm).length=rm.length:=by simp[nm]
theorem fJ(a:Int):∀ (W:LN) (rm:LI),(cj a W rm).length=rm.length
 |[],_=>rfl
 |r::W,rm=>by rw[cj,fJ a W,jS]
theorem ri(a:Int)(r:Nat):∀ (W:LN) (rm:LI),cj a (W++[r]) rm=nm a r (cj a W rm)
 |[],_=>rfl
 |q::W,rm=>by simp only[Hp,cj];exact ri a r W _
theorem iG{l:LI}{i j:Nat}{x d:Int}(hi:i<l.length):(l.set i x).getD j d=if i=j then x else l.getD j d:=by
 simp only[Gw];by_cases e:i=j
 ·subst e;rw[if_pos rfl,GH hi];rfl
 ·rw[if_neg e,GJ e]
theorem rK{a:Int}{r m:Nat}{rm:LI}(hl:rm.length=2*m)(hr:r<2*m)(q:Nat):
 (nm a r rm).getD q 0=rm.getD q 0+(if bP q=r then a else 0)-(if q=r then a else 0):=by
 have hf:=uJ hr;unfold nm;rw[iG (by rw[Ha];omega),iG (by omega)];have hne:=u0 r;by_cases e1:bP r=q
 ·subst e1;rw[if_pos rfl,jJ,if_pos rfl,if_neg hne];omega
 ·have e2:bP q≠r:=fun h=>e1 (by rw[← h,jJ]);rw[if_neg e1,if_neg e2];by_cases e3:r=q
  ·subst e3;rw[if_pos rfl,if_pos rfl];omega
  ·rw[if_neg e3,if_neg (λ h=>e3 h.symm)];omega
open Classical in
theorem f7{a:Int}{m:Nat}:∀ {W:LN} {rm:LI},rm.length=2*m->(∀ r∈W,r<2*m)->W.Nodup->(∀ q:Nat,(cj a W rm).getD q 0=rm.getD q 0+(if bP q∈W then a else 0)-(if q∈W then a else 0))
 |[],rm,_,_,_,q=>by simp[cj]
 |r::W,rm,hl,hW,hn,q=>by
  have h1:=GS.1 hn;rw[cj,f7 (by rw[jS];exact hl) (λ x hx=>hW x (by simp[hx])) h1.2 q,rK hl (hW r (by simp))]
  have e1:(if bP q∈r::W then a else 0)=(if bP q=r then a else 0)+(if bP q∈W then a else 0):=by
   by_cases e:bP q=r
   ·rw[if_pos e,if_pos (by simp[e]),if_neg (by rw[e];exact h1.1)];omega
   ·rw[if_neg e];by_cases e2:bP q∈W
    ·rw[if_pos e2,if_pos (by simp[e2])];omega
    ·rw[if_neg e2,if_neg (by simp[e,e2])];omega
  have e2:(if q∈r::W then a else 0)=(if q=r then a else 0)+(if q∈W then a else 0):=by
   by_cases e:q=r
   ·rw[if_pos e,if_pos (by simp[e]),if_neg (by rw[e];exact h1.1)];omega
   ·rw[if_neg e];by_cases e2:q∈W
    ·rw[if_pos e2,if_pos (by simp[e2])];omega
    ·rw[if_neg e2,if_neg (by simp[e,e2])];omega
  rw[e1,e2];omega
def cH(rm:LI)(W:LN):Int:=W.foldl (λ m q=>if rm.getD q 0<m then rm.getD q 0 else m) (rm.getD (W.headD 0) 0)
theorem pM(rm:LI):∀ (W:LN) (x:Int),(W.foldl (λ m q=>if rm.getD q 0<m then rm.getD q 0 else m) x<=x)/\(∀ r∈W,W.foldl (λ m q=>if rm.getD q 0<m then rm.getD q 0 else m) x<=rm.getD r 0)/\
 (W.foldl (λ m q=>if rm.getD q 0<m then rm.getD q 0 else m) x=x\/∃ r∈W,W.foldl (λ m q=>if rm.getD q 0<m then rm.getD q 0 else m) x=rm.getD r 0)
 |[],x=>⟨HK _,λ _ h=>(by cases h),.inl rfl⟩
 |r::W,x=>by
  obtain⟨h1,h2,h3⟩:=pM rm W (if rm.getD r 0<x then rm.getD r 0 else x);simp only[IE];refine⟨I3 h1 (by split<;>omega),λ q hq=>?_,?_⟩
  ·rcases GD.1 hq with rfl|hq
   ·exact I3 h1 (by split<;>omega)
   ·exact h2 q hq
  ·rcases h3 with h3|⟨q,hq,h3⟩
   ·split at h3
    ·exact .inr ⟨r,by simp,by rename_i hlt;rw[if_pos hlt];exact h3⟩
    ·rename_i hlt;exact .inl (by rw[if_neg hlt];exact h3)
   ·exact .inr ⟨q,by simp[hq],h3⟩
theorem mX{rm:LI}{W:LN}:∀ r∈W,cH rm W<=rm.getD r 0:=(pM rm W _).2.1
theorem kN{rm:LI}{W:LN}(h:W≠[]):∃ r∈W,cH rm W=rm.getD r 0:=by
 rcases (pM rm W (rm.getD (W.headD 0) 0)).2.2 with h1|h1
 ·cases W with
  |nil=>exact absurd rfl h
  |cons r W=>exact⟨r,by simp,h1⟩
 ·exact h1
def mA(least:Int)(rm:LI)(W:LN):Nat:=W.findIdx λ r=>decide (rm.getD r 0<least)
inductive Bl (N:aU) (L:Nat->LN) (least:Int):LI->LN->LN->List (LN×Int)->LI->Prop
 |stop {rm:LI} {pos W pos' W':LN}:Nx N L least rm pos W false pos' W'->Bl N L least rm pos W [] rm
 |walk {rm rm':LI} {pos W pos' W':LN} {ws:List (LN×Int)}:Nx N L least rm pos W true pos' W'->
  Bl N L least (cj (cH rm W') W' rm) pos' (W'.take (mA least (cj (cH rm W') W' rm) W')) ws rm'->Bl N L least rm pos W ((W',cH rm W')::ws) rm'
theorem fi{l:List dI}{f:LI}{i:Nat}{a:dI}{x:Int}(h:l[i]?=some a)(k:f[i]?=some x):(l.zip f)[i]?=some (a,x):=G7.2 ⟨h,k⟩
theorem dA:∀ {ps:List (dI×Int)} {i:Nat} {p:dI×Int},ps[i]?=some p->(aP ps)[2*i]?=some (p.1.cap-p.2)/\(aP ps)[2*i+1]?=some p.2
 |[],_,_,h=>by simp at h
 |q::ps,0,p,h=>by
  simp only[HB,Gs] at h;subst h;exact⟨rfl,rfl⟩
 |q::ps,i+1,p,h=>by
  have ih:=dA (ps:=ps) (i:=i) (by simpa using h);have e:aP (q::ps)=[q.1.cap-q.2,q.2]++aP ps:=by simp[aP]
  rw[e,GL (by simp;omega),GL (by simp;omega)];exact⟨by rw[show 2*(i+1)-[q.1.cap-q.2,q.2].length=2*i by simp;omega];exact ih.1,by rw[show 2*(i+1)+1-[q.1.cap-q.2,q.2].length=2*i+1 by simp;omega];exact ih.2⟩
def fP(a:Int)(r:Nat)(f:LI):LI:=f.set (r/2) (f.getD (r/2) 0+if r%2=1 then-a else a)
def lR(a:Int):LN->LI->LI
 |[],f=>f
 |r::W,f=>lR a W (fP a r f)
theorem jj(a:Int)(r:Nat)(f:LI):(fP a r f).length=f.length:=by simp[fP]
theorem wz{N:aU}{a:Int}{r:Nat}{f:LI}(hl:f.length=N.arcs.length)(hr:r<2*N.arcs.length):nm a r (aP (N.arcs.zip f))=aP (N.arcs.zip (fP a r f)):=by
 have hzl:(N.arcs.zip f).length=N.arcs.length:=by simp;omega
 have hzl2:(N.arcs.zip (fP a r f)).length=N.arcs.length:=by simp[jj];omega
 have hrl:=cL (N.arcs.zip f);have hrl2:=cL (N.arcs.zip (fP a r f));rw[hzl] at hrl;rw[hzl2] at hrl2
 have hext:∀ q:Nat,q<2*N.arcs.length->(nm a r (aP (N.arcs.zip f))).getD q 0=(aP (N.arcs.zip (fP a r f))).getD q 0:=by
  intro q hq;rw[rK hrl hr];have hqi:q/2<N.arcs.length:=by omega
  obtain⟨ar,har⟩:∃ x,N.arcs[q/2]?=some x:=⟨N.arcs[q/2],Gq hqi⟩;have hx:f[q/2]?=some (f.getD (q/2) 0):=by rw[Gw,Gq (by omega)];rfl
  have hy:(fP a r f)[q/2]?=some ((fP a r f).getD (q/2) 0):=by rw[Gw,Gq (by rw[jj];omega)];rfl
  obtain⟨g1,g2⟩:=dA (fi har hx);obtain⟨g3,g4⟩:=dA (fi har hy)
  have hv:(fP a r f).getD (q/2) 0=f.getD (q/2) 0+if r/2=q/2 then (if r%2=1 then-a else a) else 0:=by
   unfold fP;rw[iG (by omega)];by_cases e:r/2=q/2
   ·rw[if_pos e,if_pos e,e]
   ·rw[if_neg e,if_neg e];omega
  simp only at g1 g2 g3 g4
  rcases Iv q with hm|hm
  ·have e:2*(q/2)=q:=by omega
   rw[e] at g1 g3;simp only[Gw] at hv ⊢;rw[g1,g3];simp only[G1,Gw] at hv ⊢;rw[hv];unfold bP;rw[if_neg (by omega:¬ q%2=1)];split<;>split<;>split<;>(try split)<;>omega
  ·have e:2*(q/2)+1=q:=by omega
   rw[e] at g2 g4;simp only[Gw] at hv ⊢;rw[g2,g4];simp only[G1,Gw] at hv ⊢;rw[hv];unfold bP;rw[if_pos hm];split<;>split<;>split<;>(try split)<;>omega
 refine IS (by rw[jS,hrl,hrl2]) λ q h1 h2=>?_;have:=hext q (by omega);simp only[Gw] at this;rw[Gq h1,Gq h2] at this;exact this
theorem yX{N:aU}{a v:Int}{r:Nat}{f:LI}(hl:f.length=N.arcs.length)(hr:r<2*N.arcs.length):
 cS (N.arcs.zip (fP a r f)) v=cS (N.arcs.zip f) v+((if (b8 N r).2=v then a else 0)-(if (b8 N r).1=v then a else 0)):=by
 obtain⟨ar,har⟩:∃ x,N.arcs[r/2]?=some x:=⟨N.arcs[r/2]'(by omega),Gq (by omega)⟩;have hx:f[r/2]?=some (f.getD (r/2) 0):=by rw[Gw,Gq (by omega)];rfl
 have he:b8 N r=cV ar r:=by unfold b8;rw[har]
 unfold fP;rw[sq N.arcs f (r/2) ar _ _ v har hx,he];unfold cV;by_cases hm:r%2=1
 ·rw[if_pos hm,if_pos hm];simp only;split<;>split<;>omega
 ·rw[if_neg hm,if_neg hm]
theorem rn{N:aU}(hR:N.Right){a:Int}:∀ {W:LN} {f:LI} {x z:Nat},f.length=N.arcs.length->(∀ r∈W,r<2*N.arcs.length)->Tr N x W z->
 (lR a W f).length=N.arcs.length/\cj a W (aP (N.arcs.zip f))=aP (N.arcs.zip (lR a W f))/\∀ v:Int,cS (N.arcs.zip (lR a W f)) v=cS (N.arcs.zip f) v+((if (z:Int)=v then a else 0)-(if (x:Int)=v then a else 0))
 |[],f,x,z,hl,_,h=>⟨hl,rfl,λ v=>by rw[show x=z from h];simp only[lR];omega⟩
 |r::W,f,x,z,hl,hW,⟨h1,h2⟩=>by
  have hr:=hW r (by simp);obtain⟨k1,k2,k3⟩:=rn hR (a:=a) (f:=fP a r f) (by rw[jj];exact hl) (λ q hq=>hW q (by simp[hq])) h2;refine⟨k1,by rw[cj,wz hl hr,k2];rfl,λ v=>?_⟩;rw[lR,k3,yX hl hr,(gU hR hr).1,(kn hR hr).1,h1];omega
theorem jX{N:aU}{f:LI}(hl:f.length=N.arcs.length):Ranged N f↔∀ q,q<2*N.arcs.length->0<=(aP (N.arcs.zip f)).getD q 0:=by
 constructor
 ·intro h q hq;obtain⟨ar,har⟩:∃ x,N.arcs[q/2]?=some x:=⟨N.arcs[q/2]'(by omega),List.getElem?_eq_getElem (by omega)⟩;have hx:f[q/2]?=some (f.getD (q/2) 0):=by rw[List.getD_eq_getElem?_getD,List.getElem?_eq_getElem (by omega)];rfl
  have hz:=fi har hx;obtain⟨g1,g2⟩:=dA hz;have:=h.all _ (Gu hz);simp only at g1 g2 this
  rcases Iv q with hm|hm
  ·rw[show 2*(q/2)=q by omega] at g1;rw[Gw,g1,G1];omega
  ·rw[show 2*(q/2)+1=q by omega] at g2;rw[Gw,g2,G1];omega
 ·intro h;refine⟨hl,fun p hp=>?_⟩;obtain⟨j,hj,hjp⟩:=List.mem_iff_getElem.1 hp;have hz:(N.arcs.zip f)[j]?=some p:=by rw[List.getElem?_eq_getElem hj,hjp]
  have hjl:j<N.arcs.length:=by have:=hj;simp at this;omega
  obtain⟨g1,g2⟩:=dA hz;have h1:=h (2*j) (by omega);have h2:=h (2*j+1) (by omega);rw[Gw,g1,G1] at h1;rw[Gw,g2,G1] at h2;omega
theorem rI{N:aU}(hR:N.Right){f:LI}(hf:aK N f){W:LN}(hW:∀ r∈W,r<2*N.arcs.length)(hn:W.Nodup)(ht:Tr N N.src.toNat W N.snk.toNat){a:Int}(ha:0<=a)(hm:∀ r∈W,a<=(aP (N.arcs.zip f)).getD r 0):
 aK N (lR a W f)/\cj a W (aP (N.arcs.zip f))=aP (N.arcs.zip (lR a W f))/\cS (N.arcs.zip (lR a W f)) N.snk=cS (N.arcs.zip f) N.snk+a:=by
 obtain⟨h1,h2,h3⟩:=rn hR (a:=a) hf.len hW ht;have hsr:=hR.src;have hsk:=hR.snk;have hd:=hR.diff;have e1:((N.src.toNat:Nat):Int)=N.src:=by omega
 have e2:((N.snk.toNat:Nat):Int)=N.snk:=by omega
 rw[e1,e2] at h3;have hzl:(N.arcs.zip f).length=N.arcs.length:=by have:=hf.len;simp;omega
 refine⟨⟨(jX h1).2 λ q hq=>?_,λ v hv hvs hvt=>?_⟩,h2,?_⟩
 ·rw[← h2,f7 (by rw[cL,hzl]) hW hn];have h0:=(jX hf.len).1 hf.toRanged q hq;by_cases e:q∈W
  ·have:=hm q e;rw[if_pos e];split<;>omega
  ·rw[if_neg e];split<;>omega
 ·rw[h3,hf.kept v hv hvs hvt,if_neg (λ e=>hvt e.symm),if_neg (λ e=>hvs e.symm)];rfl
 ·rw[h3,if_pos rfl,if_neg hd];omega
theorem Bl.keeps{N:aU}(hR:N.Right){L:Nat->LN}{lv:Nat->Int}{least:Int}(hG:eF N L lv)(hle:1<=least){rm rm':LI}{pos W:LN}{ws:List (LN×Int)}(h:Bl N L least rm pos W ws rm'):
 ∀ f,aK N f->rm=aP (N.arcs.zip f)->PI N L least rm pos W->
   ∃ f',aK N f'/\rm'=aP (N.arcs.zip f')/\cS (N.arcs.zip f) N.snk+least*ws.length<=cS (N.arcs.zip f') N.snk/\(∀ u,LP N L least rm' u->u≠N.snk.toNat)/\(∀ v r,r∈L v->rm'.getD r 0<=rm.getD r 0)/\
     (∀ q,q<2*N.arcs.length->rm.getD q 0<rm'.getD q 0->bP q∈L (dC N (bP q))):=by
 induction h with
 |@stop rm pos W pos' W' hn=>
  intro f hf he hI;obtain⟨h1,_,h3⟩:=hn.keeps hG hI;obtain⟨rfl,hd⟩:=h3 rfl;have hsr:=hR.src;have hsk:=hR.snk;have hdf:=hR.diff;exact⟨f,hf,he,by simp,λ u hu=>(xf hR hG h1 hd (by omega) hu).1,λ _ _ _=>HK _,λ q _ h=>by omega⟩
 |@walk rm rm' pos W pos' W' ws hn _ ih=>
  intro f hf he hI;obtain⟨h1,h2,_⟩:=hn.keeps hG hI;have hend:=h2 rfl;have hon:=h1.on;rw[hend] at hon;have hnd:=pA hG hon h1.mem;have hlt:∀ r∈W',r<2*N.arcs.length:=λ r hr=>(hG.ok _ _ (h1.mem r hr)).1;have hroom:∀ r∈W',least<=rm.getD r 0:=λ r hr=>by obtain⟨_,_,_,h⟩:=h1.head r hr;exact h
  have hWne:W'≠[]:=by
   intro h0;have hsr:=hR.src;have hsk:=hR.snk;have hdf:=hR.diff;rw[h0] at hend;simp only[cR,List.getLast?_nil] at hend;omega
  obtain⟨r0,hr0,hmo⟩:=kN (rm:=rm) hWne;have hma:=hroom r0 hr0;rw[<- hmo] at hma;obtain⟨a,haeq⟩:∃ a,a=cH rm W':=⟨_,rfl⟩;rw[<- haeq] at hma ih ⊢;have hmle:∀ r∈W',a<=rm.getD r 0:=λ r hr=>haeq▸mX r hr;obtain⟨k1,k2,k3⟩:=rI hR hf hlt hnd.1 hon (by omega:0<=a) (he▸hmle);rw[<- he] at k2;have hzl:rm.length=2*N.arcs.length:=by rw[he,cL];have:=hf.len;simp;omega
  have hget:=f7 (a:=a) hzl hlt hnd.1
  have hmono:∀ v r,r∈L v->(cj a W' rm).getD r 0<=rm.getD r 0:=by
   intro v r hr;rw[hget]
   have:bP r∉W':=by
    intro hin;have g1:=(hG.ok _ _ hr);have g2:=(hG.ok _ _ (h1.mem _ hin)).2.2;have g3:=g1.2.2;rw[iF,fM] at g2;rw[<- g1.2.1] at g3;omega
   rw[if_neg this];split<;>omega
  have hI':PI N L least (cj a W' rm) pos' (W'.take (mA least (cj a W' rm) W')):=by
   refine⟨h1.pl,sW _ hon,λ r hr=>?_,λ v p hp j r hj hjr=>?_⟩
   ·obtain⟨p,g1,g2,_⟩:=h1.head r (List.mem_of_mem_take hr);refine⟨p,g1,g2,?_⟩;obtain⟨i,hi,hir⟩:=List.mem_iff_getElem.1 hr;have hi':i<mA least (cj a W' rm) W':=by rw[List.length_take] at hi;omega
    rw[Iz] at hir;have:=II hi';rw[hir] at this
    simpa using this
   ·rcases h1.pass v p hp j r hj hjr with k|k
    ·exact .inl (by have:=hmono v r (Gu hjr);omega)
    ·exact .inr k
  obtain⟨f',g1,g2,g3,g4,g5,g6⟩:=ih (lR a W' f) k1 k2 hI';refine⟨f',g1,g2,?_,g4,λ v r hr=>I3 (g5 v r hr) (hmono v r hr),λ q hq hqlt=>?_⟩
  ·rw[k3] at g3;rw[List.length_cons];have:least*((ws.length+1:Nat):Int)=least*ws.length+least:=by grind
   omega
  ·by_cases hc:rm.getD q 0<(cj a W' rm).getD q 0
   ·rw[hget] at hc;by_cases hin:bP q∈W'
    ·exact h1.mem _ hin
    ·rw[if_neg hin] at hc;split at hc<;>omega
   ·exact g6 q hq (by omega)
def cM(lv:LI)(v:Nat):Int:=lv.getD v (-1)
theorem sD{lv:LI}{v:Nat}{x:Int}(h:lv[v]?=some x):cM lv v=x:=by unfold cM;rw[Gw,h];rfl
theorem kp{lv:LI}{v:Nat}(h:v<lv.length):lv[v]?=some (cM lv v):=by unfold cM;rw[Gw,Gq h];rfl
theorem xG{lv:LI}{t v:Nat}{x:Int}(h:t<lv.length):cM (lv.set t x) v=if t=v then x else cM lv v:=iG h
theorem xh{lv:LI}{v:Nat}(h:lv.length<=v):cM lv v=-1:=by unfold cM;rw[Gw,G6 h];rfl
structure ec (N:aU) (rm:LI) (least:Int) (lv:LI):Prop where
 len:lv.length=N.nodes.toNat+1
 src:cM lv N.src.toNat=0
 nil:cM lv 0=-1
 rng:∀ v,-1<=cM lv v/\cM lv v<N.nodes
 zero:∀ v,cM lv v=0->v=N.src.toNat
 step:∀ r,r<2*N.arcs.length->least<=rm.getD r 0->0<=cM lv (dC N r)->0<=cM lv (eV N r)/\cM lv (eV N r)<=cM lv (dC N r)+1
 back:∀ v,0<cM lv v->∃ r,r<2*N.arcs.length/\least<=rm.getD r 0/\eV N r=v/\cM lv (dC N r)=cM lv v-1
structure LH (N:aU) (rm:LI) (least:Int) (k:Nat) (fr:LN) (lv:LI):Prop where
 k1:1<=k
 len:lv.length=N.nodes.toNat+1
 src:cM lv N.src.toNat=0
 nil:cM lv 0=-1
 rng:∀ v,cM lv v=-1\/0<=cM lv v/\cM lv v<=(k:Int)-1
 zero:∀ v,cM lv v=0->v=N.src.toNat
 front:∀ v,cM lv v=(k:Int)-1↔v∈fr
 done:∀ r,r<2*N.arcs.length->least<=rm.getD r 0->0<=cM lv (dC N r)->cM lv (dC N r)<(k:Int)-1->0<=cM lv (eV N r)/\cM lv (eV N r)<=cM lv (dC N r)+1
 back:∀ v,0<cM lv v->∃ r,r<2*N.arcs.length/\least<=rm.getD r 0/\eV N r=v/\cM lv (dC N r)=cM lv v-1
 cnt:k+fr.length+lv.count (-1)<=N.nodes.toNat+2
structure LV (N:aU) (rm:LI) (least:Int) (k:Nat) (now:LN) (i j:Nat) (nxt:LN) (lv:LI):Prop where
 k1:1<=k
 len:lv.length=N.nodes.toNat+1
 src:cM lv N.src.toNat=0
 nil:cM lv 0=-1
 rng:∀ v,cM lv v=-1\/0<=cM lv v/\cM lv v<=(k:Int)
 zero:∀ v,cM lv v=0->v=N.src.toNat
 old:∀ v,cM lv v=(k:Int)-1↔v∈now
 new:∀ v,cM lv v=(k:Int)↔v∈nxt
 done:∀ r,r<2*N.arcs.length->least<=rm.getD r 0->0<=cM lv (dC N r)->(cM lv (dC N r)<(k:Int)-1\/dC N r∈now.take i\/(now[i]?=some (dC N r)/\∃ a,a<j/\(tr N (2*N.arcs.length) (dC N r))[a]?=some (r:Int)))->
  0<=cM lv (eV N r)/\cM lv (eV N r)<=cM lv (dC N r)+1
 back:∀ v,0<cM lv v->∃ r,r<2*N.arcs.length/\least<=rm.getD r 0/\eV N r=v/\cM lv (dC N r)=cM lv v-1
 cnt:k+nxt.length+lv.count (-1)<=N.nodes.toNat+1
section
variable {N:aU} {rm:LI} {least:Int} {k:Nat} {lv:LI}
theorem gt:∀ (l:LI) (t:Nat) (x:Int),l[t]?=some (-1)->x≠-1->(l.set t x).count (-1)+1=l.count (-1)
 |[],_,_,h,_=>by simp at h
 |y::l,0,x,h,hx=>by
  simp only[HB,Gs] at h;subst h;simp[hx]
 |y::l,t+1,x,h,hx=>by
  have:=gt l t x (by simpa using h) hx;simp only[List.set_cons_succ,List.count_cons];omega
theorem LH.init(hR:N.Right):LH N rm least 1 [N.src.toNat] ((List.replicate (N.nodes.toNat+1) (-1)).set N.src.toNat 0):=by
 have hsr:=hR.src;have hnn:=hR.nodes;have hlt:N.src.toNat<(List.replicate (N.nodes.toNat+1) (-1:Int)).length:=by rw[GU];omega
 have hr:∀ v,cM (List.replicate (N.nodes.toNat+1) (-1)) v=-1:=by
  intro v;by_cases h:v<N.nodes.toNat+1
  ·exact sD (by rw[GN,if_pos h])
  ·exact xh (by rw[GU];omega)
 have hv:∀ v,cM ((List.replicate (N.nodes.toNat+1) (-1)).set N.src.toNat 0) v=if N.src.toNat=v then 0 else-1:=λ v=>by rw[xG hlt,hr]
 refine⟨GF _,by simp,by rw[hv,if_pos rfl],by rw[hv,if_neg (by omega)],λ v=>?_,λ v h=>?_,λ v=>?_,λ r _ _ h1 h2=>by omega,λ v h=>?_,?_⟩
 ·rw[hv];split
  ·exact .inr ⟨by omega,by omega⟩
  ·exact .inl rfl
 ·rw[hv] at h;split at h
  ·rename_i e;exact e.symm
  ·omega
 ·rw[hv,Gy]
  constructor
  ·intro h;split at h
   ·rename_i e;exact e.symm
   ·omega
  ·rintro rfl;rw[if_pos rfl];omega
 ·rw[hv] at h;split at h<;>omega
 ·have:=gt (List.replicate (N.nodes.toNat+1) (-1)) N.src.toNat 0 (by rw[List.getElem?_replicate,if_pos (by omega)]) (by decide);have h2:(List.replicate (N.nodes.toNat+1) (-1:Int)).count (-1)=N.nodes.toNat+1:=by simp
  simp only[G2];omega
theorem LH.turn{fr:LN}(h:LH N rm least k fr lv)(hne:fr≠[]):LV N rm least k fr 0 0 [] lv:=by
 have hk:=h.k1;have hlen:0<fr.length:=Hc.2 hne;refine⟨h.k1,h.len,h.src,h.nil,λ v=>?_,h.zero,h.front,λ v=>⟨λ e=>?_,λ e=>by cases e⟩,λ r h1 h2 h3 h4=>?_,h.back,?_⟩
 ·rcases h.rng v with e|e
  ·exact .inl e
  ·exact .inr ⟨e.1,by omega⟩
 ·rcases h.rng v with e'|e'<;>omega
 ·rcases h4 with h4|h4|⟨_,a,ha,_⟩
  ·exact h.done r h1 h2 h3 h4
  ·simp at h4
  ·omega
 ·have:=h.cnt;simp only[GQ];omega
theorem LV.row{now nxt:LN}{i j:Nat}(h:LV N rm least k now i j nxt lv)(hj:∀ v,now[i]?=some v->(tr N (2*N.arcs.length) v).length<=j):LV N rm least k now (i+1) 0 nxt lv:=by
 refine⟨h.k1,h.len,h.src,h.nil,h.rng,h.zero,h.old,h.new,λ r h1 h2 h3 h4=>?_,h.back,h.cnt⟩
 rcases h4 with h4|h4|⟨_,a,ha,_⟩
 ·exact h.done r h1 h2 h3 (.inl h4)
 ·rw[GO] at h4
  rcases GE.1 h4 with h4|h4
  ·exact h.done r h1 h2 h3 (.inr (.inl h4))
  ·cases hv:now[i]? with
   |none=>rw[hv] at h4;simp at h4
   |some v=>
    rw[hv] at h4;have e:dC N r=v:=by simpa using h4
    refine h.done r h1 h2 h3 (.inr (.inr ⟨by rw[hv,e],?_⟩))
    have hm:(r:Int)∈tr N (2*N.arcs.length) (dC N r):=by
     refine r6.2 ⟨r,h1,?_,rfl⟩;unfold dC
     have hfz:0<=(b8 N r).1:=by
      by_cases hz:0<=(b8 N r).1
      ·exact hz
      ·exfalso;have:dC N r=0:=by unfold dC;omega
       rw[this,h.nil] at h3;omega
     omega
    obtain⟨a,ha,hae⟩:=Hj.1 hm;exact⟨a,Il ha (e▸hj v hv),by rw[Gq ha,hae]⟩
 ·omega
theorem LV.final{now nxt:LN}{i j:Nat}(h:LV N rm least k now i j nxt lv)(hi:now.length<=i):LH N rm least (k+1) nxt lv:=by
 have hk:=h.k1;refine⟨by omega,h.len,h.src,h.nil,λ v=>?_,h.zero,λ v=>?_,λ r h1 h2 h3 h4=>?_,h.back,?_⟩
 ·rcases h.rng v with e|e
  ·exact .inl e
  ·exact .inr ⟨e.1,by omega⟩
 ·have:=h.new v;rw[show (((k+1:Nat):Int)-1)=(k:Int) by omega];exact this
 ·refine h.done r h1 h2 h3 ?_;by_cases e:cM lv (dC N r)<(k:Int)-1
  ·exact .inl e
  ·refine .inr (.inl ?_);rw[Hr hi];exact (h.old _).1 (by omega)
 ·have:=h.cnt;omega
theorem LV.pass{now nxt:LN}{i j r:Nat}(h:LV N rm least k now i j nxt lv)(hr:∃ v,now[i]?=some v/\(tr N (2*N.arcs.length) v)[j]?=some (r:Int))(hf:rm.getD r 0<least\/cM lv (eV N r)≠-1):LV N rm least k now i (j+1) nxt lv:=by
 refine⟨h.k1,h.len,h.src,h.nil,h.rng,h.zero,h.old,h.new,λ q h1 h2 h3 h4=>?_,h.back,h.cnt⟩
 rcases h4 with h4|h4|⟨h4,a,ha,hq⟩
 ·exact h.done q h1 h2 h3 (.inl h4)
 ·exact h.done q h1 h2 h3 (.inr (.inl h4))
 ·by_cases e:a=j
  ·subst e;obtain⟨v,hv,hvr⟩:=hr;rw[hv] at h4;simp only[Gs] at h4;rw[<- h4,hvr] at hq
   have e2:r=q:=by
    have e3:(r:Int)=q:=by simpa using hq
    omega
   subst e2;have hlv:=(h.old v).2 (Gu hv)
   rcases hf with hf|hf
   ·omega
   ·rcases h.rng (eV N r) with e3|e3
    ·exact absurd e3 hf
    ·rw[h4] at hlv;exact⟨e3.1,by omega⟩
  ·exact h.done q h1 h2 h3 (.inr (.inr ⟨h4,a,by omega,hq⟩))
theorem LV.put{now nxt:LN}{i j r:Nat}(h:LV N rm least k now i j nxt lv)(hr:∃ v,now[i]?=some v/\dC N r=v/\(tr N (2*N.arcs.length) v)[j]?=some (r:Int))(hrl:r<2*N.arcs.length)(ht:1<=eV N r/\eV N r<lv.length)(hl:least<=rm.getD r 0)(hf:cM lv (eV N r)=-1):
 LV N rm least k now i (j+1) (nxt++[eV N r]) (lv.set (eV N r) (k:Int)):=by
 obtain⟨v,hv,hfr,hvr⟩:=hr;obtain⟨t,rfl⟩:∃ t,t=eV N r:=⟨_,rfl⟩;have hk:=h.k1;have hs:∀ u,cM (lv.set (eV N r) (k:Int)) u=if eV N r=u then (k:Int) else cM lv u:=λ u=>xG ht.2
 have hvl:=(h.old v).2 (Gu hv);have hne:eV N r≠v:=λ e=>by rw[e] at hf;omega
 refine⟨h.k1,by rw[Ha];exact h.len,?_,?_,λ u=>?_,λ u hu=>?_,λ u=>?_,λ u=>?_,λ q h1 h2 h3 h4=>?_,λ u hu=>?_,?_⟩
 ·rw[hs,if_neg (λ e=>by rw[e,h.src] at hf;omega)];exact h.src
 ·rw[hs,if_neg (by omega)];exact h.nil
 ·rw[hs];split
  ·exact .inr ⟨by omega,by omega⟩
  ·exact h.rng u
 ·rw[hs] at hu;split at hu
  ·omega
  ·exact h.zero u hu
 ·rw[hs];split
  ·rename_i e;subst e
   constructor
   ·intro e;omega
   ·intro e;have:=(h.old _).2 e;omega
  ·exact h.old u
 ·rw[hs,GE,Gy];split
  ·rename_i e;exact⟨λ _=>.inr e.symm,λ _=>rfl⟩
  ·rename_i e;rw[h.new u];exact⟨.inl,λ hh=>hh.resolve_right λ e2=>e e2.symm⟩
 ·rw[hs] at h3 h4 ⊢
  have key:eV N r≠dC N q:=by
   intro e;rw[if_pos e] at h4
   rcases h4 with h4|h4|⟨h4,_⟩
   ·omega
   ·have:=(h.old _).2 (Hl h4);rw[<- e] at this;omega
   ·rw[hv] at h4;simp only[Gs] at h4;exact hne (e.trans h4.symm)
  rw[if_neg key] at h3 h4;have hfq:cM (lv.set (eV N r) (k:Int)) (dC N q)=cM lv (dC N q):=by rw[hs,if_neg key]
  rw[hfq]
  have hle:cM lv (dC N q)<=k/\(∀ (_:dC N q=v),cM lv (dC N q)=k-1):=by
   constructor
   ·rcases h.rng (dC N q) with e|e<;>omega
   ·intro e;rw[e];exact hvl
  by_cases e:eV N r=eV N q
  ·rw[if_pos e];refine⟨by omega,?_⟩
   rcases h4 with h4|h4|⟨h4,_⟩
   ·have:=h.done q h1 h2 h3 (.inl h4);rw[<- e,hf] at this;omega
   ·have:=(h.old _).2 (Hl h4);omega
   ·rw[hv] at h4;simp only[Gs] at h4;have:=hle.2 h4.symm;omega
  ·rw[if_neg e]
   rcases h4 with h4|h4|⟨h4,a,ha,hq⟩
   ·exact h.done q h1 h2 h3 (.inl h4)
   ·exact h.done q h1 h2 h3 (.inr (.inl h4))
   ·by_cases ea:a=j
    ·subst ea;rw[hv] at h4;simp only[Gs] at h4;rw[<- h4,hvr] at hq
     have e2:r=q:=by
      have e3:(r:Int)=q:=by simpa using hq
      omega
     exact absurd (by rw[e2]) e
    ·exact h.done q h1 h2 h3 (.inr (.inr ⟨h4,a,by omega,hq⟩))
 ·rw[hs] at hu;by_cases e:eV N r=u
  ·refine⟨r,hrl,hl,e,?_⟩;rw[hs,hs,if_pos e,if_neg (λ e2=>hne (e2.trans hfr)),hfr,hvl]
  ·rw[if_neg e] at hu;obtain⟨q,g1,g2,g3,g4⟩:=h.back u hu;refine⟨q,g1,g2,g3,?_⟩;rw[hs,hs,if_neg e,if_neg,g4];intro e2;rw[<- e2,hf] at g4;omega
 ·have:=h.cnt;have hc:=gt lv (eV N r) (k:Int) (by rw[kp ht.2,hf]) (by omega);rw[Gx,G2];omega
theorem LH.lev(hR:N.Right)(h:LH N rm least k [] lv):ec N rm least lv:=by
 have hk:=h.k1;have hnn:=hR.nodes
 have hc:1<=lv.count (-1):=by
  have h0:(-1:Int)∈lv:=by
   have:=kp (lv:=lv) (v:=0) (by rw[h.len];omega);rw[h.nil] at this;exact Gu this
  exact List.one_le_count_iff.2 h0
 have hcnt:=h.cnt;have hf:∀ v,cM lv v≠(k:Int)-1:=λ v e=>by have:=(h.front v).1 e;simp at this
 refine⟨h.len,h.src,h.nil,λ v=>?_,h.zero,λ r h1 h2 h3=>?_,h.back⟩
 ·have:=hf v;simp only[GQ] at hcnt
  rcases h.rng v with e|e<;>omega
 ·refine h.done r h1 h2 h3 ?_;have:=hf (dC N r)
  rcases h.rng (dC N r) with e|e<;>omega
end
def cm(N:aU)(rm:LI)(least:Int)(lv:LI)(k:Nat):LN:=(List.range k).filter λ r=>decide (least<=rm.getD r 0/\cM lv (dC N r)≠-1/\cM lv (eV N r)=cM lv (dC N r)+1)
def ek(N:aU)(ls:LN)(v:Nat):LN:=ls.filter λ r=>decide (dC N r=v)
theorem el{N:aU}{rm:LI}{least:Int}{lv:LI}{k r:Nat}:r∈cm N rm least lv k↔r<k/\least<=rm.getD r 0/\cM lv (dC N r)≠-1/\cM lv (eV N r)=cM lv (dC N r)+1:=by
 unfold cm;rw[Ia,Hm,G3]
theorem fO{N:aU}{ls:LN}{v r:Nat}:r∈ek N ls v↔r∈ls/\dC N r=v:=by
 unfold ek;rw[Ia,G3]
theorem ij{N:aU}{rm:LI}{least:Int}{lv:LI}(h:ec N rm least lv):eF N (ek N (cm N rm least lv (2*N.arcs.length))) (cM lv):=by
 refine⟨λ v r hr=>?_,h.rng⟩;obtain⟨h1,h2⟩:=fO.1 hr;obtain⟨h3,_,_,h6⟩:=el.1 h1;exact⟨h3,h2,by rw[h6,h2]⟩
theorem BF{N:aU}{rm:LI}{least:Int}{lv:LI}(h:ec N rm least lv):∀ (k v:Nat),cM lv v=k->LP N (ek N (cm N rm least lv (2*N.arcs.length))) least rm v
 |0,v,hv=>by rw[h.zero v (by simpa using hv)];exact .src
 |k+1,v,hv=>by
  obtain⟨r,h1,h2,h3,h4⟩:=h.back v (by omega);have ih:=BF h k (dC N r) (by omega);rw[<- h3];exact .step ih (fO.2 ⟨el.2 ⟨h1,h2,by omega,by rw[h3];omega⟩,rfl⟩) h2
theorem DK{N:aU}{rm:LI}{least:Int}{lv:LI}(h:ec N rm least lv)(hl:rm.length=2*N.arcs.length):∀ {v:Int},kL N rm least v->0<=cM lv v.toNat:=by
 intro v hv
 induction hv with
 |src=>rw[h.src];omega
 |step u r _ h1 h2 h3 ih=>
  have:=h.step r (by omega) h3 (by unfold dC;rw[h2];exact ih);exact this.1
end Go.Proofs.YtmcnpaelaieniaaGreatDoor
