import Derived.Test.YtmcnpaelaieniaaGreatDoorQX98
import Derived.Test.YtmcnpaelaieniaaGreatDoorQX86
import Derived.Test.YtmcnpaelaieniaaGreatDoorQX91
import Derived.Test.YtmcnpaelaieniaaGreatDoorQB
import Derived.Test.YtmcnpaelaieniaaGreatDoorQX79
import Derived.Test.YtmcnpaelaieniaaGreatDoorRows
import Derived.HandedShaped
import Derived.Handed
import Derived.Lib.LaidU8
import Derived.Lib.LaidTab
import Derived.LaidLaws
import Derived.MakeChecks
/- A part of the proof; see NOTES.md. -/
set_option linter.unusedVariables false
set_option linter.unusedSimpArgs false
namespace Go.Proofs.YtmcnpaelaieniaaGreatDoor
open Go.RowKit
def ja(n:Nat)(s:LI):LB:=s.foldl (λ l x=>l.set x.toNat true) (List.replicate (n+1) false)
theorem lW:∀ (s:LI) (l:LB),(∀ x∈s,0<=x)->(s.foldl (λ l x=>l.set x.toNat true) l).length=l.length/\∀ v,v<l.length->(s.foldl (λ l x=>l.set x.toNat true) l)[v]?=if (v:Int)∈s then some true else l[v]?
 |[],l,_=>⟨rfl,λ v _=>by simp⟩
 |x::s,l,h=>by
  obtain⟨h1,h2⟩:=lW s (l.set x.toNat true) λ y hy=>h y (HW _ hy);rw[Ha] at h1 h2;refine⟨h1,λ v hv=>?_⟩;have hx:=h x (H8 ..);rw[IE,h2 v hv];by_cases hs:(v:Int)∈s
  ·rw[if_pos hs,if_pos (HW _ hs)]
  ·rw[if_neg hs];by_cases e:(v:Int)=x
   ·have:x.toNat=v:=by omega
    rw[if_pos (by rw[e];exact H8 ..),this,GH hv]
   ·rw[if_neg (by simp[e,hs]),GJ (by omega)]
theorem lV(n:Nat)(s:LI)(h:∀ x∈s,0<=x):(ja n s).length=n+1:=by
 rw[ja,(lW s _ h).1,GU]
theorem pN(n:Nat)(s:LI)(h:∀ x∈s,0<=x){v:Nat}(hv:v<=n):(ja n s)[v]?=some (decide ((v:Int)∈s)):=by
 rw[ja,(lW s _ h).2 v (by simp;omega),GN];by_cases e:(v:Int)∈s<;>simp[e];omega
theorem tw(n:Nat)(s:LI){k:Nat}{x:Int}(hx:s[k]?=some x):ja n (s.take (k+1))=(ja n (s.take k)).set x.toNat true:=by
 unfold ja;rw[GO,hx,Iy];rfl
theorem zw{s:LI}{al:List dI}{k:Nat}{a:dI}(ha:al[k]?=some a):eL s (al.take (k+1))=eL s (al.take k)+(if a.fr∈s/\a.to∉s then a.cap else 0):=by
 unfold eL;rw[GO,ha,GX,Iu];simp
theorem rV{N:aU}(hR:N.Right)(s:LI)(k:Nat):0<=eL s (N.arcs.take k)/\eL s (N.arcs.take k)<=4611686018427387903:=by
 have hp:∀ l:List dI,(∀ a∈l,0<=a.cap)->0<=eL s l:=by
  intro l h;refine fv _ λ x hx=>?_;obtain⟨a,ha,rfl⟩:=GR.1 hx;have:=h a ha;split<;>omega
 have h1:=wL hR s
 have e:eL s N.arcs=eL s (N.arcs.take k)+eL s (N.arcs.drop k):=by
  unfold eL;rw[<- Iu,<- GX,Hs]
 have h2:=hp (N.arcs.take k) λ a ha=>(hR.arc a (Hl ha)).2.2;have h3:=hp (N.arcs.drop k) λ a ha=>(hR.arc a (IU ha)).2.2;omega
set_option maxHeartbeats 4000000 in
theorem ly(N:aU)(hR:N.Right)(A:OA)(c b o:Nat)(hA:N.arcs≠[]->A=some ⟨b,o,none⟩)(f:LI)(hf:aK N f)(F:OA)(cf bf of:Nat)(hF:f≠[]->F=some ⟨bf,of,none⟩)
 (s:LI) (hs:e8 N s) (hsl:s.length<=100000) (S:OA) (cs bs os:Nat) (hS:s≠[]->S=some ⟨bs,os,none⟩) (heq:cS (N.arcs.zip f) N.snk=eL s N.arcs):
 Fn 27 [bp N A c,.slice F f.length cf,.slice S s.length cs] [] [.seg b o (arcs N.arcs),.seg bf of (ax f),.seg bs os (ax s)] λ v H'=>v=.bool true/\H'=[]:=by
 have hnn:=hR.nodes;have hl2:=hR.len;have hfl:=hf.len;have hs0:=hR.src;have hk0:=hR.snk;have hpos:∀ x∈s,0<=x:=λ x hx=>by have:=hs.rng x hx;omega
 obtain⟨n,hn⟩:∃ n:Nat,N.nodes=n:=⟨N.nodes.toNat,by omega⟩;obtain⟨sr,hsr⟩:∃ sr:Nat,N.src=sr:=⟨N.src.toNat,by omega⟩;obtain⟨sk,hsk⟩:∃ sk:Nat,N.snk=sk:=⟨N.snk.toNat,by omega⟩;have hX:=hf.toRanged.exc hR n hn;have hXl:=iP n N.arcs f;refine aJ Tryz.func27 rfl rfl λ w0=>?_;refine ad (aa ?_);refine bx (cs:=bI N A c) rfl rfl rfl (λ _=>rfl) λ p=>?_;refine ae [] rfl ?_;refine ad (ad (aa (ah [] rfl ?_)));refine ab [] (v:=.slice A N.arcs.length c) (af 0 rfl) rfl ?_;refine ae [] rfl ?_;refine aC rfl (λ h=>absurd (by omega) h) (λ _=>aq ?_);refine ad (aa (ah [] rfl ?_));refine ab [] (v:=.int .i64 N.nodes) (af 0 rfl) rfl ?_;refine ah [] rfl ?_;refine aI 22 (v':=.int .i64 ((n+1:Nat):Int)) rfl (Gt (Value.int .i64) (by rw[hn];exact cv (by omega))) ?_;refine cX (n:=n+1) (c:=n+1) rfl rfl rfl rfl rfl rfl (by omega) (by omega) (by omega) (λ _=>rfl) λ g=>?_;refine ae [] rfl ?_;refine ad (ad (aa (ae [] rfl ?_)));rw[qr];refine au ?_
 refine bO (σ:=Nat) (λ k=>[(8,.int .i64 k),(7,.slice (some ⟨g,0,none⟩) (n+1) (n+1)),(3,.pointer (some ⟨p,0,none⟩)),(2,.slice S s.length cs),(1,.slice F f.length cf)])
  (λ k=>[.own (.slice (some ⟨g,0,none⟩) (n+1) (n+1)) 4 1 (n+1) (eb (ja n (s.take k))),blk p 33 (bI N A c),.seg b o (arcs N.arcs),.seg bf of (ax f),.seg bs os (ax s)]) (λ k=>k<=s.length) (λ k=>s.length-k)
  0 [0,1,2,3,4] ⟨rfl,rfl,rfl,rfl,rfl,an⟩ (by decide) (by rw[List.take_zero];rfl) (GB _) ?_
 intro k hk;refine ad (ad (aa (ae [] rfl ?_)));refine aC rfl (λ hlt=>aq ?_) (λ hge=>bc ?_)
 ·have hlt:k<s.length:=by omega
  obtain rfl:=hS (by rintro rfl;simp at hlt);obtain⟨x,hx⟩:∃ x,s[k]?=some x:=⟨s[k],Gq hlt⟩;obtain⟨h1,h2⟩:=hs.rng x (Gu hx);obtain⟨y,rfl⟩:∃ y:Nat,x=y:=⟨x.toNat,by omega⟩;have hpt:∀ z∈s.take k,0<=z:=λ z hz=>hpos z (Hl hz);have hml:=lV n (s.take k) hpt
  have hno:((y:Int)∈s.take k)=False:=by
   refine eq_false λ hm=>?_;obtain⟨j,hj,hjy⟩:=Hj.1 hm;have hj':j<k:=by simp at hj;omega
   have h3:=HD.1 hs.rise j k (by omega) hlt hj';rw[Iz] at hjy;obtain⟨_,h4⟩:=Gv.1 hx;omega
  have hmg:(ja n (s.take k))[y]?=some false:=by rw[pN n _ hpt (by omega)];simp[hno]
  refine ad (au (ad (ad ?_)));refine bu 23 (cZ [0,1,2,3,4,5,6,7,8,9,10,11,12,13,14,15,16,17,18,19,20,21,22]) [0,1,4] (by kernel_rfl) (by decide) rfl ?_;refine aB [] rfl ?_;refine aj [] rfl (bR rfl hlt) rfl ?_;refine aj [] rfl (a8 2 rfl rfl (be hx)) rfl ?_;refine aB [] rfl ?_;refine j8 35 rfl (by omega) ?_;refine aB [5] rfl ?_;refine aj [5] rfl (bR rfl hlt) rfl ?_;refine aj [5] rfl (a8 2 rfl rfl (be hx)) rfl ?_;refine aB [5] rfl ?_;refine aj [5] (v:=.int .i64 N.nodes) rfl (af 1 rfl) rfl ?_;refine aB [5] rfl ?_;refine j8 44 rfl (by omega) ?_;refine aB [5,14] rfl ?_;refine aj [5,14] rfl (bR rfl hlt) rfl ?_;refine aj [5,14] rfl (a8 2 rfl rfl (be hx)) rfl ?_;refine aj [5,14] rfl (aG rfl (by omega)) rfl ?_;refine aj [5,14] rfl (aD 0 rfl rfl rfl (show (eb _)[y]?=some (.bool false) from fA hmg)) rfl ?_;refine aB [5,14] rfl ?_;refine bq (ai ?_);refine bG rfl (aq ?_);refine aa (ah [] rfl ?_);refine ab [] (bR rfl hlt) rfl ?_;refine ab [] (a8 4 rfl rfl (be hx)) rfl ?_;refine ab [] (aG rfl (by omega)) rfl ?_;refine aO 0 rfl rfl rfl rfl (nK rfl (by omega)) [] rfl ?_;refine ai ?_;refine aa (ae [] rfl ?_);refine⟨k+1,[0,1,2,3,4],⟨Gt (λ z=>some (Value.int .i64 z)) (cv (by omega)),rfl,rfl,rfl,rfl,an⟩,by decide,?_,by omega,by omega⟩;rw[tw n s hx];rfl
 obtain rfl:k=s.length:=by omega
 rw[GY];obtain⟨M,hM⟩:∃ M,M=ja n s:=⟨_,rfl⟩;have hMl:=lV n s hpos;have hMg:∀ v:Nat,v<=n->M[v]?=some (decide ((v:Int)∈s)):=λ v hv=>by rw[hM];exact pN n s hpos hv
 rw[<- hM] at hMl ⊢;refine ad (ad (aa (ah [] rfl ?_)));refine ab [] (v:=.int .i64 N.src) (af 1 rfl) rfl ?_;refine aI 61 (v':=.int .i64 (sr:Int)) rfl (Gt (Value.int .i64) hsr) ?_;refine ab [] (aG rfl (by omega)) rfl ?_;refine ab [] (aD 0 rfl rfl rfl (show (eb _)[sr]?=some (.bool _) from fA (hMg sr (by omega)))) rfl ?_;refine aI 63 (v':=.bool true) rfl (Gt Value.bool (by rw[<- hsr];simp[hs.src])) ?_;refine ah [] rfl ?_;refine aI 65 (v':=.bool false) rfl rfl ?_;refine ah [6] rfl ?_;refine ab [6] (v:=.int .i64 N.snk) (af 1 rfl) rfl ?_;refine aI 68 (v':=.int .i64 (sk:Int)) rfl (Gt (Value.int .i64) hsk) ?_;refine ab [6] (aG rfl (by omega)) rfl ?_;refine ab [6] (aD 0 rfl rfl rfl (show (eb _)[sk]?=some (.bool _) from fA (hMg sk (by omega)))) rfl ?_;refine aI 70 (v':=.bool false) rfl (Gt Value.bool (by rw[<- hsk];simp[hs.snk])) ?_;refine ae [6] rfl ?_;refine bG rfl (aq ?_);refine ad (aa (ah [] rfl ?_));refine ab [] (v:=.int .i64 N.nodes) (af 1 rfl) rfl ?_;refine ah [] rfl ?_;refine aI 74 (v':=.int .i64 ((n+1:Nat):Int)) rfl (Gt (Value.int .i64) (by rw[hn];exact cv (by omega))) ?_;refine cX (n:=n+1) (c:=n+1) rfl rfl rfl rfl rfl rfl (by omega) (by omega) (by omega) (λ _=>rfl) λ g2=>?_;refine ae [] rfl ?_;refine ad (aa (ae [] rfl ?_));refine ad (ad (aa (ae [] rfl ?_)));rw[nO];refine au ?_
 refine bO (σ:=Nat) (λ k=>[(11,.int .i64 k),(10,.int .i64 (eL s (N.arcs.take k))),(9,.slice (some ⟨g2,0,none⟩) (n+1) (n+1)),(7,.slice (some ⟨g,0,none⟩) (n+1) (n+1)),(3,.pointer (some ⟨p,0,none⟩)),(1,.slice F f.length cf)])
  (λ k=>[.own (.slice (some ⟨g2,0,none⟩) (n+1) (n+1)) 2 1 (n+1) (ax (o5 n (N.arcs.take k) f)),.own (.slice (some ⟨g,0,none⟩) (n+1) (n+1)) 4 1 (n+1) (eb M),blk p 33 (bI N A c),.seg b o (arcs N.arcs),.seg bf of (ax f)]) (λ k=>k<=f.length) (λ k=>f.length-k)
  0 [0,1,2,3,4] ⟨rfl,rfl,rfl,rfl,rfl,rfl,an⟩ (by decide) (by rw[List.take_zero];rfl) (GB _) ?_
 intro k hk;refine ad (ad (aa (ae [] rfl ?_)));refine aC rfl (λ hlt=>aq ?_) (λ hge=>bc ?_)
 ·have hlt:k<f.length:=by omega
  obtain rfl:=hF (by rintro rfl;simp at hlt)
  obtain rfl:=hA (by intro h;have h0:N.arcs.length=0:=by rw[h];rfl
                     omega)
  obtain⟨a,ha⟩:∃ a,N.arcs[k]?=some a:=⟨N.arcs[k],Gq (by omega)⟩;have hct:=zw (s:=s) ha;have hcp:=rV hR s k;have hcq:=rV hR s (k+1);obtain⟨h1,h2,h3⟩:=hR.arc a (Gu ha);obtain⟨fr,tz,cap⟩:=a;simp only at h1 h2 h3 hct;obtain⟨fr,rfl⟩:∃ y:Nat,fr=y:=⟨fr.toNat,by omega⟩;obtain⟨tz,rfl⟩:∃ y:Nat,tz=y:=⟨tz.toNat,by omega⟩;obtain⟨x,hx⟩:∃ x,f[k]?=some x:=⟨f[k],Gq hlt⟩;have hxr:=hf.all (⟨(fr:Int),(tz:Int),cap⟩,x) (Gu (show (N.arcs.zip f)[k]?=some (⟨(fr:Int),(tz:Int),cap⟩,x) by simp[G7,ha,hx]));simp only at hxr;have hel:=iP n (N.arcs.take k) f;obtain⟨z,hz⟩:∃ z,(o5 n (N.arcs.take k) f)[fr]?=some z:=⟨_,Gq (by omega)⟩;refine ad (au (ad (aa (ah [] rfl ?_))));refine ab [] (v:=.slice (some ⟨b,o,none⟩) N.arcs.length c) (af 2 rfl) rfl ?_;refine ah [] rfl ?_;refine ab [] (e6 rfl (by omega)) rfl ?_;refine ab [] (a8 3 rfl rfl (eY ha)) rfl ?_;refine bo rfl rfl rfl (λ _=>rfl) λ q=>?_;refine ah [] rfl ?_;refine aA 0 rfl [] rfl ?_;refine ai ?_;refine ad (ad ?_);refine bu 14 (cZ [0,1,2,3,4,5,6,7,8,9,10,11,12,13]) [0,5] (by kernel_rfl) (by decide) rfl ?_;refine aB [] rfl ?_;refine aj [] rfl (bR rfl hlt) rfl ?_;refine aj [] rfl (a8 1 rfl rfl (bD hx)) rfl ?_;refine aB [] rfl ?_;refine j8 92 rfl (by omega) ?_;refine aB [5] rfl ?_;refine aj [5] rfl (bR rfl hlt) rfl ?_;refine aj [5] rfl (a8 1 rfl rfl (bD hx)) rfl ?_;refine aB [5] rfl ?_;refine aj [5] (v:=.int .i64 cap) rfl (af 0 rfl) rfl ?_;refine aB [5] rfl ?_;refine j8 100 rfl (by omega) ?_;refine bq (ai ?_);refine bG rfl (aq ?_);refine ad ?_;refine pk 14 (by kernel_rfl) ?_;refine fu [] rfl ?_;refine dk [] (af 0 rfl) rfl ?_;refine fu [] rfl ?_;refine dk [] (af 0 rfl) rfl ?_;refine dk [] (aG rfl (by omega)) rfl ?_;refine dk [] (aD 1 rfl rfl rfl (bD hz)) rfl ?_;refine fu [] rfl ?_;refine dk [] (bR rfl hlt) rfl ?_;refine dk [] (a8 5 rfl rfl (bD hx)) rfl ?_;refine fu [] rfl ?_;refine dk [] (aG rfl (by omega)) rfl ?_;refine sF ?_;refine aO 1 rfl rfl rfl rfl (dU rfl (by omega)) [] rfl ?_;refine ai ?_;obtain⟨y,hy⟩:∃ y,((o5 n (N.arcs.take k) f).set fr (IntKind.i64.wrap (z-x)))[tz]?=some y:=⟨_,Gq (by simp;omega)⟩;refine ad ?_;refine pk 14 (by kernel_rfl) ?_;refine fu [] rfl ?_;refine dk [] (af 0 rfl) rfl ?_;refine fu [] rfl ?_;refine dk [] (af 0 rfl) rfl ?_;refine dk [] (aG rfl (by omega)) rfl ?_;refine dk [] (aD 1 rfl rfl rfl (bD hy)) rfl ?_;refine fu [] rfl ?_;refine dk [] (bR rfl hlt) rfl ?_;refine dk [] (a8 5 rfl rfl (bD hx)) rfl ?_;refine fu [] rfl ?_;refine dk [] (aG rfl (by omega)) rfl ?_;refine sF ?_;refine aO 1 rfl rfl rfl rfl (dU rfl (by simp;omega)) [] rfl ?_;refine ai ?_
  have e:o5 n (N.arcs.take (k+1)) f=((o5 n (N.arcs.take k) f).set fr (IntKind.i64.wrap (z-x))).set tz (IntKind.i64.wrap (y+x)):=by
   rw[uO n ha hx];simp only[gV,GW,Gw,hz,G1,hy]
  rw[<- e]
  refine fj [(141,.bool (di ((fr:Int)∈s/\¬ (tz:Int)∈s))),(12,.pointer (some ⟨q,0,none⟩)),(11,.int .i64 k),(10,.int .i64 (eL s (N.arcs.take k))),(9,.slice (some ⟨g2,0,none⟩) (n+1) (n+1)),(7,.slice (some ⟨g,0,none⟩) (n+1) (n+1)),(3,.pointer (some ⟨p,0,none⟩)),(1,.slice (some ⟨bf,of,none⟩) f.length cf)]
   [blk q 37 [.int .i64 fr,.int .i64 tz,.int .i64 cap],.own (.slice (some ⟨g2,0,none⟩) (n+1) (n+1)) 2 1 (n+1) (ax (o5 n (N.arcs.take (k+1)) f)),.own (.slice (some ⟨g,0,none⟩) (n+1) (n+1)) 4 1 (n+1) (eb M),blk p 33 (bI N (some ⟨b,o,none⟩) c),.seg b o (arcs N.arcs),.seg bf of (ax f)] ?_ ?_
  ·skip
   refine aa (ah [] rfl ?_);refine ab [] (v:=.int .i64 (fr:Int)) (af 0 rfl) rfl ?_;refine ab [] (aG rfl (by omega)) rfl ?_;refine ab [] (aD 2 rfl rfl rfl (show (eb _)[fr]?=some (.bool _) from fA (hMg fr (by omega)))) rfl ?_;refine ah [] rfl ?_;by_cases e1:(fr:Int)∈s
   ·refine aI 134 (v':=.bool true) rfl (congrArg Value.bool (by simp[e1])) ?_;refine ah [5] rfl ?_;refine ab [5] (v:=.int .i64 (tz:Int)) (af 0 rfl) rfl ?_;refine ab [5] (aG rfl (by omega)) rfl ?_;refine ab [5] (aD 2 rfl rfl rfl (show (eb _)[tz]?=some (.bool _) from fA (hMg tz (by omega)))) rfl ?_;refine ah [5] rfl ?_;refine ai ?_;refine⟨[0,1,2,3,4,5],⟨congrArg (fun z=>some (Value.bool z)) ?_,rfl,rfl,rfl,rfl,rfl,rfl,rfl,trivial⟩,by decide,rfl⟩;by_cases e2:(tz:Int)∈s
    ·rw[a6 (λ h=>h.2 e2)];simp[e2]
    ·rw[aR ⟨e1,e2⟩];simp[e2]
   ·refine aI 134 (v':=.bool false) rfl (Gt Value.bool (by simp[e1])) ?_;refine ae [5] rfl ?_;exact⟨[0,1,2,3,4,5],⟨Gt (λ z=>some (Value.bool z)) (a6 (λ h=>e1 h.1)).symm,rfl,rfl,rfl,rfl,rfl,rfl,rfl,an⟩,by decide,rfl⟩
  refine aC rfl (λ hgo=>?_) (λ hgo=>aq ?_)
  ·rw[if_pos hgo] at hct;refine aa (ah [] rfl ?_);refine ab [] (v:=.int .i64 cap) (af 0 rfl) rfl ?_;refine ae [] rfl ?_;refine aa (ae [] rfl ?_);exact⟨k+1,[1,2,3,4,5],⟨Gt (λ z=>some (Value.int .i64 z)) (cv (by omega)),Gt (λ z=>some (Value.int .i64 z)) ((cv (by omega)).trans hct.symm),rfl,rfl,rfl,rfl,an⟩,by decide,rfl,by omega,by omega⟩
  rw[if_neg hgo,Int.add_zero] at hct;refine aa (ae [] rfl ?_);exact⟨k+1,[1,2,3,4,5],⟨Gt (λ z=>some (Value.int .i64 z)) (cv (by omega)),Gt (λ z=>some (Value.int .i64 z)) hct.symm,rfl,rfl,rfl,rfl,an⟩,by decide,rfl,by omega,by omega⟩
 have hk':k=N.arcs.length:=by omega
 rw[hk',GY];obtain⟨X,hXd⟩:∃ X,X=o5 n N.arcs f:=⟨_,rfl⟩;rw[<- hXd] at hX hXl ⊢
 have hXg:∀ v:Nat,v<=n->X[v]?=some (cS (N.arcs.zip f) v):=by
  intro v hv;have:=hX v;rw[Gw,Gq (show v<X.length by omega)] at this;rw[Gq (show v<X.length by omega)];exact Gt some this
 refine ad (ad (aa (ae [] rfl ?_)));refine au ?_
 refine bO (σ:=Nat) (λ k=>[(13,.int .i64 k),(10,.int .i64 (eL s N.arcs)),(9,.slice (some ⟨g2,0,none⟩) (n+1) (n+1)),(3,.pointer (some ⟨p,0,none⟩))])
  (λ k=>[.own (.slice (some ⟨g2,0,none⟩) (n+1) (n+1)) 2 1 (n+1) (ax X),blk p 33 (bI N A c)]) (λ k=>1<=k/\k<=n+1) (λ k=>n+1-k)
  1 [0,2] ⟨rfl,rfl,rfl,rfl,an⟩ (by decide) rfl ⟨GF _,by omega⟩ ?_
 rintro v ⟨hv1,hv2⟩;refine ad (ad (aa (ah [] rfl ?_)));refine ab [] (v:=.int .i64 N.nodes) (af 1 rfl) rfl ?_;refine ae [] rfl ?_;refine aC rfl (λ hle=>aq ?_) (λ hgt=>bc ?_)
 ·have hle:v≤n:=by omega
  refine ad (au ?_)
  refine fj [(168,.bool false),(13,.int .i64 v),(10,.int .i64 (eL s N.arcs)),(9,.slice (some ⟨g2,0,none⟩) (n+1) (n+1)),(3,.pointer (some ⟨p,0,none⟩))]
   [.own (.slice (some ⟨g2,0,none⟩) (n+1) (n+1)) 2 1 (n+1) (ax X),blk p 33 (bI N A c)] ?_ ?_
  ·skip
   refine aa (ah [] rfl ?_);refine ab [] (v:=.int .i64 N.src) (af 1 rfl) rfl ?_;refine ah [] rfl ?_;by_cases h1:(v:Int)=N.src
   ·refine aX 156 rfl (λ h=>h h1) ?_;refine ae [4,10] rfl ?_;exact⟨[0,1],⟨rfl,rfl,rfl,rfl,rfl,an⟩,by decide,rfl⟩
   refine bd 156 rfl h1 ?_;refine ah [4] rfl ?_;refine ab [4] (v:=.int .i64 N.snk) (af 1 rfl) rfl ?_;refine ah [4] rfl ?_;by_cases h2:(v:Int)=N.snk
   ·refine aX 162 rfl (λ h=>h h2) ?_;refine ae [4,10] rfl ?_;exact⟨[0,1],⟨rfl,rfl,rfl,rfl,rfl,an⟩,by decide,rfl⟩
   refine bd 162 rfl h2 ?_;refine ah [4,10] rfl ?_;refine ab [4,10] (aG rfl (by omega)) rfl ?_;refine ab [4,10] (aD 0 rfl rfl rfl (bD (hXg v hle))) rfl ?_;refine ah [4,10] rfl ?_;refine aX 168 rfl (λ h=>h (hf.kept v (by omega) h1 h2)) ?_;refine ai ?_;exact⟨[0,1],⟨rfl,rfl,rfl,rfl,rfl,an⟩,by decide,rfl⟩
  refine bG rfl (aq ?_);refine aa (ae [] rfl ?_);exact⟨v+1,[0,1],⟨Gt (λ z=>some (Value.int .i64 z)) (cv (by omega)),rfl,rfl,rfl,an⟩,by decide,rfl,by omega,by omega⟩
 refine ad (aa (ah [] rfl ?_));refine ab [] (v:=.int .i64 N.snk) (af 1 rfl) rfl ?_;refine aI 171 (v':=.int .i64 (sk:Int)) rfl (Gt (Value.int .i64) hsk) ?_;refine ab [] (aG rfl (by omega)) rfl ?_;refine ab [] (aD 0 rfl rfl rfl (bD (hXg sk (by omega)))) rfl ?_;refine ae [] rfl ?_;refine az [] (by decide) rfl (ay ⟨_,rfl,Gt Value.bool (aR (by rw[<- hsk];exact heq)),rfl⟩)
set_option maxHeartbeats 4000000 in
theorem oR(V:b5)(s:LU)(ws:s.length<=140737488351232):
 Fn 5 [dF s] [] V.heap λ v _=>v=.bool true:=by
 refine aJ Tryz.func5 rfl rfl λ w0=>?_;refine ad (aa (ae [] rfl ?_));refine ad (aa (ah [] rfl ?_));refine ap [] (AP V) rfl (by kernel_rfl) ⟨⟨0,by simp[b5.heap],rfl⟩,⟨1,by simp[b5.heap],rfl⟩,⟨2,by simp[b5.heap],rfl⟩,an⟩ (λ _=>rfl) ?_;rintro v H' ⟨rfl,rfl⟩;refine⟨rfl,?_⟩;refine ae [] rfl ?_;refine ad (ad (aa (ah [] rfl ?_)));refine aI 28 (v':=.bool false) rfl rfl ?_;refine ah [2] rfl ?_;by_cases hlen:2500<s.length
 ·refine bd 32 rfl (by rw[cC];omega) ?_;refine ai ?_;refine bi rfl ?_;refine ad (aa (ae [] rfl ?_));exact az [] (by decide) rfl (ay ⟨_,rfl,rfl⟩)
 refine aX 32 rfl (by rw[cC];omega) ?_;refine ai ?_;refine bG rfl ?_;refine aq (ad ?_);obtain⟨N,ln,e,hq⟩:∃ N ln e,bW s=(N,ln,e):=⟨_,_,_,rfl⟩;have hperr:=@rM s;have hprt:=@oA s;have PF:=qw V s (by omega);have LF:=λ p=>wY V p zm s (by omega);unfold DT at LF;rw[hq] at hperr hprt PF;simp only[hq] at LF;simp only at hperr hprt;refine aa (ah [] rfl ?_);refine b9 [] PF rfl rfl rfl rfl (by kernel_rfl) ⟨⟨0,by simp[b5.heap],rfl⟩,⟨1,by simp[b5.heap],rfl⟩,⟨2,by simp[b5.heap],rfl⟩,an⟩ (λ _=>rfl) ?_;rintro v H' ⟨A,c,rfl,rfl⟩;refine⟨rfl,?_⟩;refine ah [] rfl ?_;refine bo rfl rfl rfl (λ _=>rfl) λ p4=>?_;refine aA 0 rfl [] rfl ?_;refine ae [] rfl ?_;refine ad (aa (ah [] rfl ?_));refine b9 [] wZ rfl rfl rfl rfl (by kernel_rfl) an (λ _=>rfl) ?_;rintro v H' ⟨p,rfl,rfl⟩;refine⟨rfl,?_⟩;refine ae [] rfl ?_;refine ad (ad (aa (ah [] rfl ?_)));refine ab [] (v:=.bool false) (z3 rfl rfl rfl (by kernel_rfl)) rfl ?_;refine ae [] rfl ?_;refine bG rfl ?_;refine aq (ad (aa (ah [] rfl ?_)));refine em 3 1 ?_;refine em 2 1 ?_;refine em 37 3 ?_;refine aw (fst:=[]) (cap:=[]) [] (LF p) rfl rfl rfl rfl (by kernel_rfl) (K:=[blk p4 33 (bI N A c),.own (.slice A N.arcs.length c) 37 3 N.arcs.length (arcs N.arcs)]++V.heap) (aH.picks [3,0,1,2,4,5,6,7,8] (by decide) rfl) ⟨⟨2,by simp[b5.heap],rfl⟩,⟨3,by simp[b5.heap],rfl⟩,⟨4,by simp[b5.heap],rfl⟩,an⟩ (λ _=>rfl) ?_;rintro v H' (⟨h0,rfl,rfl⟩|⟨h0,A2,c2,rfl,rfl⟩)
 ·refine⟨rfl,?_⟩;refine ae [] rfl ?_;obtain⟨rfl,hln,_⟩:=hperr h0;refine ad (ad (aa (ae [] rfl ?_)));refine aC rfl (λ _=>?_) (λ h=>absurd h0 h);refine ad (aa (ah [] rfl ?_));refine ap (fst:=[]) (cap:=[]) [] (rN zm rfl p 116) rfl (by kernel_rfl) ⟨⟨0,_,by simp[eM],rfl,aF _ _ _ (0,0),.inr rfl⟩,an⟩ (λ _=>rfl) ?_;rintro v H' ⟨rfl,rfl⟩;refine⟨rfl,?_⟩;refine ae [] rfl ?_;refine ad (aa (ah [] rfl ?_));refine bd 59 rfl rfl ?_;refine ah [3] rfl ?_;refine bd 64 rfl rfl ?_;refine ah [3,8] rfl ?_;refine bd 68 rfl (show (ln:Int)>=1 by omega) ?_;refine ah [3,8,12] rfl ?_;refine bd 72 rfl rfl ?_;refine ah [3,8,12,16] rfl ?_;refine ab [3,8,12,16] (v:=.slice A 0 c) (af 4 rfl) rfl ?_;refine ah [3,8,12,16] rfl ?_;refine ai ?_;exact az [] (by decide) rfl (ay ⟨_,rfl,Gt Value.bool (aR rfl)⟩)
 refine⟨rfl,?_⟩;refine ae [] rfl ?_;obtain⟨hR,_⟩:=hprt h0;refine ad (ad (aa (ae [] rfl ?_)));refine aC rfl (λ h=>absurd h0 h) (λ _=>aq ?_);refine bJ (K:=[blk p4 33 (bI N A c),.own (.slice A N.arcs.length c) 37 3 N.arcs.length (arcs N.arcs)]) (aH.picks [4,5] (by decide) rfl) ?_;refine ad (ad (aa (ah [] rfl ?_)));refine ab [] (v:=.slice A N.arcs.length c) (af 0 rfl) rfl ?_;refine ah [] rfl ?_;by_cases hbig:60<N.arcs.length
 ·refine bd 82 rfl (by omega) ?_;refine ae [4] rfl ?_;refine bi rfl ?_;refine ad (aa (ae [] rfl ?_));exact az [] (by decide) rfl (ay ⟨_,rfl,Gt Value.bool (aR rfl)⟩)
 refine aX 82 rfl (by omega) ?_;refine ah [4] rfl ?_;refine ab [4] (v:=.int .i64 N.nodes) (af 0 rfl) rfl ?_;refine ae [4] rfl ?_;refine aC rfl (λ _=>?_) (λ _=>aq ?_)
 ·refine ad (aa (ae [] rfl ?_));exact az [] (by decide) rfl (ay ⟨_,rfl,Gt Value.bool (aR rfl)⟩)
 have hF:=hR.fits';have hnn:=hR.nodes;have hl2:=hR.len;obtain⟨n,hnd⟩:∃ n:Nat,N.nodes=n:=⟨N.nodes.toNat,by omega⟩;refine bh (aW 1 rfl) λ ⟨_,_,hA1,hla⟩=>?_;obtain⟨g1,hA1⟩:=bL hA1 hla;have hA1':=λ h=>gJ hA1 h;refine ad (aa ?_);refine ab [] (v:=bp N A c) (af 0 rfl) rfl ?_;refine ap [] (Cg N hF hR A c g1 0 hA1') rfl (by kernel_rfl) ⟨⟨1,_,by simp,rfl,aE hA1,aM hA1⟩,an⟩ (λ _=>rfl) ?_;rintro v H' ⟨f,ph,wk,Af,cf,hdn,_,rfl,rfl⟩;have hMx:gD N f:=nV.max hR (sg:=112) (.inl ⟨.inl rfl,ph,wk,hdn⟩);have hf:=hMx.1;have hfl:=hf.len;have hfin:=aK.inB hR hf.toRanged;refine⟨rfl,?_⟩;refine ah [] rfl ?_;refine bo rfl rfl rfl (λ _=>rfl) λ b12=>?_;refine aA 0 rfl [] rfl ?_;refine ae [] rfl ?_;refine ad (aa ?_);refine ab [] (v:=bp N A c) (af 2 rfl) rfl ?_;refine ap [] (wK N hF hR A c g1 0 hA1' 116 (.inr rfl)) rfl (by kernel_rfl) ⟨⟨3,_,by simp,rfl,aE hA1,aM hA1⟩,an⟩ (λ _=>rfl) ?_;rintro v H' ⟨f',ph',wk',st',Ag,cg,hdn',_,_,_,_,_,rfl,rfl⟩;obtain⟨rfl,rfl,rfl⟩:=hdn.uniq hR (by decide) hdn';refine⟨rfl,?_⟩;refine ah [] rfl ?_;refine bo rfl rfl rfl (λ _=>rfl) λ b14=>?_;refine aA 0 rfl [] rfl ?_;refine ae [] rfl ?_;obtain⟨nr,r1,r2,r3⟩:=rooms hR;refine ad (aa ?_);refine ab [] (v:=bp N A c) (af 4 rfl) rfl ?_;refine ap [] (wH 116 (.inr rfl) N hF hR A c g1 0 hA1' nr r1 r2) rfl (by kernel_rfl) ⟨⟨5,_,by simp,rfl,aE hA1,aM hA1⟩,an⟩ (λ _=>rfl) ?_;rintro v H' ⟨fh,ts,Ah,ch,At,ct,hSc,rfl,rfl⟩;have hMh:gD N fh:=hSc.max hR r3;have hh:=hMh.1;have hhl:=hh.len;have hhin:=aK.inB hR hh.toRanged;refine⟨rfl,?_⟩;refine ae [] rfl ?_;refine bh (aW 0 rfl) λ ⟨_,_,hAh,hlh⟩=>?_;obtain⟨gh,hAh⟩:=bL hAh hlh;refine bh (aW 3 rfl) λ ⟨_,_,hAg,hlg⟩=>?_;obtain⟨gg,hAg⟩:=bL hAg hlg;refine bh (aW 5 rfl) λ ⟨_,_,hAf,hlf⟩=>?_;obtain⟨gf,hAf⟩:=bL hAf hlf;refine ad (aa ?_);refine ab [] (v:=bp N A c) (af 6 rfl) rfl ?_;refine ah [] rfl ?_;refine ab [] (v:=.slice Af f.length cf) (af 4 rfl) rfl ?_;refine ap [] (mT N hF hR A c g1 0 hA1' f Af cf gf 0 (du hAf) hfin (by omega) n hnd) rfl (by kernel_rfl) ⟨⟨7,_,by simp,rfl,aE hA1,aM hA1⟩,⟨5,_,by simp,rfl,aE hAf,aM hAf⟩,an⟩ (λ _=>rfl) ?_;rintro v H' (⟨_,_,la,Aa,ca,hla',hlar,rfl,rfl⟩|⟨h,_,_⟩|⟨_,h,_,_⟩)
 case inr.inl=>exact absurd hf h
 case inr.inr=>exact absurd h hMx.2
 refine⟨rfl,?_⟩;refine ae [] rfl ?_;refine ad (aa ?_);refine ab [] (v:=bp N A c) (af 7 rfl) rfl ?_;refine ah [] rfl ?_;refine ab [] (v:=.slice Ag f.length cg) (af 3 rfl) rfl ?_;refine ap [] (CU N hF hR A c g1 0 hA1' f Ag cg gg 0 (du hAg) hfin (by omega) n hnd hf) rfl (by kernel_rfl) ⟨⟨8,_,by simp,rfl,aE hA1,aM hA1⟩,⟨4,_,by simp,rfl,aE hAg,aM hAg⟩,an⟩ (λ _=>rfl) ?_;rintro v H' (⟨h,_,_⟩|⟨_,lb,Ab,cb,hlb,hlbr,rfl,rfl⟩)
 case inl=>exact absurd h hMx.2
 refine⟨rfl,?_⟩;refine ae [] rfl ?_;refine ad (aa ?_);refine ab [] (v:=bp N A c) (af 8 rfl) rfl ?_;refine ah [] rfl ?_;refine ap [] (mT N hF hR A c g1 0 hA1' fh Ah ch gh 0 (du hAh) hhin (by omega) n hnd) rfl (by kernel_rfl) ⟨⟨9,_,by simp,rfl,aE hA1,aM hA1⟩,⟨2,_,by simp,rfl,aE hAh,aM hAh⟩,an⟩ (λ _=>rfl) ?_;rintro v H' (⟨_,_,lc,Ac,cc,hlc,hlcr,rfl,rfl⟩|⟨k,_,_⟩|⟨_,k,_,_⟩)
 rotate_left
 ·exact absurd hh k
 ·exact absurd k hMh.2
 refine⟨rfl,?_⟩;refine ae [] rfl ?_;obtain⟨hcA,hclA⟩:=kX hR hf hnd hMx.2 hlar;obtain⟨hcB,hclB⟩:=BR hR hf hnd hMx.2 hlb hlbr;obtain⟨hcC,hclC⟩:=kX hR hh hnd hMh.2 hlcr;have hwa:=fq la true (n+1);have hwb:=fq lb false (n+1);have hwc:=fq lc true (n+1);obtain⟨sa,hsa⟩:∃ sa,sa=bX la true (n+1):=⟨_,rfl⟩;obtain⟨sb,hsb⟩:∃ sb,sb=bX lb false (n+1):=⟨_,rfl⟩;obtain⟨sc,hsc⟩:∃ sc,sc=bX lc true (n+1):=⟨_,rfl⟩;rw[<- hsa] at hcA hclA hwa ⊢;rw[<- hsb] at hcB hclB hwb ⊢;rw[<- hsc] at hcC hclC hwc ⊢;have eA:=((iE hR hf hcA).2 hclA).symm;have eB:=((iE hR hf hcB).2 hclB).symm;have eC:=((iE hR hh hcC).2 hclC).symm;refine bh (aW 0 rfl) λ ⟨_,_,hAc,hlc'⟩=>?_;obtain⟨gc,hAc⟩:=bL hAc hlc';refine bh (aW 1 rfl) λ ⟨_,_,hAb,hlb'⟩=>?_;obtain⟨gb,hAb⟩:=bL hAb hlb';refine bh (aW 2 rfl) λ ⟨_,_,hAa,hla''⟩=>?_;obtain⟨ga,hAa⟩:=bL hAa hla'';refine ad (ad (aa (ah [] rfl ?_)));refine aX 127 rfl (λ h=>h rfl) ?_;refine ah [2] rfl ?_;refine ab [2] (v:=bp N A c) (af 9 rfl) rfl ?_;refine ap [2] (iJ N hF A c g1 0 hA1') rfl (by kernel_rfl) ⟨⟨10,_,by simp,rfl,aE hA1,aM hA1⟩,an⟩ (λ _=>rfl) ?_;rintro v H' ⟨rfl,rfl⟩;refine⟨rfl,?_⟩;rw[hR.check];refine ah [2] rfl ?_;refine aX 132 rfl (λ h=>h rfl) ?_;refine ah [2,7] rfl ?_;refine aX 136 rfl (λ h=>h rfl) ?_;refine ah [2,7,11] rfl ?_;refine aX 140 rfl (λ h=>h rfl) ?_;refine ah [2,7,11,15] rfl ?_;refine aX 144 rfl (λ h=>h rfl) ?_;refine ah [2,7,11,15,19] rfl ?_;refine aX 148 rfl (λ h=>h rfl) ?_;refine ah [2,7,11,15,19,23] rfl ?_;refine aX 152 rfl (λ h=>h rfl) ?_;refine ah [2,7,11,15,19,23,27] rfl ?_;refine aX 155 rfl (λ h=>h rfl) ?_;refine ai ?_;refine bG rfl (aq ?_);refine ad (aa (ah [] rfl ?_));refine ab [] (v:=bp N A c) (af 9 rfl) rfl ?_;refine ah [] rfl ?_;refine ab [] (v:=.slice Af f.length cf) (af 7 rfl) rfl ?_;refine ah [] rfl ?_;refine ap [] (ly N hR A c g1 0 hA1' f hf Af cf gf 0 (du hAf) sa hcA (by omega) Aa ca ga 0 (du hAa) eA) rfl (by kernel_rfl) ⟨⟨10,_,by simp,rfl,aE hA1,aM hA1⟩,⟨8,_,by simp,rfl,aE hAf,aM hAf⟩,⟨2,_,by simp,rfl,aE hAa,aM hAa⟩,an⟩ (λ _=>rfl) ?_;rintro v H' ⟨rfl,rfl⟩;refine⟨rfl,?_⟩;refine ah [] rfl ?_;refine ah [5] rfl ?_;refine ab [5] (v:=bp N A c) (af 9 rfl) rfl ?_;refine ah [5] rfl ?_;refine ab [5] (v:=.slice Ag f.length cg) (af 5 rfl) rfl ?_;refine ah [5] rfl ?_;refine ap [5] (ly N hR A c g1 0 hA1' f hf Ag cg gg 0 (du hAg) sb hcB (by omega) Ab cb gb 0 (du hAb) eB) rfl (by kernel_rfl) ⟨⟨10,_,by simp,rfl,aE hA1,aM hA1⟩,⟨6,_,by simp,rfl,aE hAg,aM hAg⟩,⟨1,_,by simp,rfl,aE hAb,aM hAb⟩,an⟩ (λ _=>rfl) ?_;rintro v H' ⟨rfl,rfl⟩;refine⟨rfl,?_⟩;refine ah [5,12] rfl ?_;refine ab [5,12] (v:=bp N A c) (af 9 rfl) rfl ?_;refine ah [5,12] rfl ?_;refine ap [5,12] (ly N hR A c g1 0 hA1' fh hh Ah ch gh 0 (du hAh) sc hcC (by omega) Ac cc gc 0 (du hAc) eC) rfl (by kernel_rfl) ⟨⟨10,_,by simp,rfl,aE hA1,aM hA1⟩,⟨3,_,by simp,rfl,aE hAh,aM hAh⟩,⟨0,_,by simp,rfl,aE hAc,aM hAc⟩,an⟩ (λ _=>rfl) ?_;rintro v H' ⟨rfl,rfl⟩;refine⟨rfl,?_⟩;refine ah [5,12,18] rfl ?_;refine ab [5,12,18] (v:=bp N A c) (af 9 rfl) rfl ?_;refine ah [5,12,18] rfl ?_;refine ab [5,12,18] (v:=.slice Af f.length cf) (af 7 rfl) rfl ?_;refine ah [5,12,18] rfl ?_;refine ap [5,12,18] (ly N hR A c g1 0 hA1' f hf Af cf gf 0 (du hAf) sb hcB (by omega) Ab cb gb 0 (du hAb) eB) rfl (by kernel_rfl) ⟨⟨10,_,by simp,rfl,aE hA1,aM hA1⟩,⟨8,_,by simp,rfl,aE hAf,aM hAf⟩,⟨1,_,by simp,rfl,aE hAb,aM hAb⟩,an⟩ (λ _=>rfl) ?_;rintro v H' ⟨rfl,rfl⟩;refine⟨rfl,?_⟩;refine ae [5,12,18] rfl ?_;exact az [] (by decide) rfl (ay ⟨_,rfl,rfl⟩)
theorem topGreatest_fn(V:b5)(s:ByteArray)(ws:s.size<=140737488351232):
 Fn 5 [.string s] [] V.heap λ v _=>v=.bool true:=by
 have:=oR V s.data.toList (by simpa using ws);exact this
def jb(w:World):Heap->Prop
 |[]=>True
 |.seg b o vs::S=>(aV.seg b o vs).holds w/\jb w S
 |.tab b o::S=>(aV.tab b o).holds w/\jb w S
 |_=>False
theorem jb.spec{w:World}:∀ {S:Heap},jb w S->∀ c∈S,c.holds w/\c.mine=none
 |[],_,c,hc=>by cases hc
 |.seg b o vs::S,h,c,hc=>by
  rcases GD.1 hc with rfl|hc
  ·exact⟨h.1,rfl⟩
  ·exact jb.spec h.2 c hc
 |.tab b o::S,h,c,hc=>by
  rcases GD.1 hc with rfl|hc
  ·exact⟨h.1,rfl⟩
  ·exact jb.spec h.2 c hc
 |.obj ..::_,h,_,_=>h.elim
 |.own ..::_,h,_,_=>h.elim
theorem jb.has{w:World}{S:Heap}(h:jb w S):cO w [] w S:=by
 refine⟨rfl,rfl,rfl,GF _,λ _ _ _=>rfl,λ c hc=>(h.spec c hc).1,λ c hc b hb=>(by rw[(h.spec c hc).2] at hb;simp at hb),?_⟩;rw[HD];intro i j hi hj _;have h1:=(h.spec _ (H4 hi)).2;have h2:=(h.spec _ (H4 hj)).2;exact⟨λ b hb=>by rw[h1] at hb;simp at hb,λ b hb=>by rw[h2] at hb;simp at hb⟩
theorem Fn.row{f:FuncId}{args:LV_}{S:Heap}(h:Fn f args [] S (λ v _=>v=.bool true))(w:World)(hS:jb w S):
 Calls Tryz.prog f args.toArray w λ e w'=>e=.returned (.bool true)/\Below w.heap.size w w':=by
 refine (h w hS.has).mono ?_;rintro e w' ⟨v,H',he,hH,hv⟩;rw[he,hv];exact⟨rfl,⟨hH.os,hH.tape,hH.output,hH.size,λ k hk=>hH.keep k hk (by simp)⟩⟩
open Go.RowKit Go.ChangeShapes
def laidL:List (String×DataW Unit):=[("math/bits.deBruijn32tab",Rows.laid_math_bits_deBruijn32tab),("math/bits.deBruijn64tab",Rows.laid_math_bits_deBruijn64tab),("internal/strconv.uint64pow10",Rows.laid_internal_strconv_uint64pow10),("unicode/utf8.acceptRanges",Rows.laid_unicode_utf8_acceptRanges),("strconv.ErrRange",Rows.laid_strconv_ErrRange),("strconv.ErrSyntax",Rows.laid_strconv_ErrSyntax),("unicode/utf8.first",Rows.laid_unicode_utf8_first)]
theorem rf{W:World}{n:String}{g:Nat}{cs:Array Value}(hg:Tryz.prog.globalNamed n=some g)(h:W.var? Tryz.prog n=some cs):∃ t k,W.heap[g]?=some (.cells cs t k):=by
 unfold World.var? at h;rw[hg] at h;simp only[Option.bind_some] at h;split at h
 ·rename_i c t k he;obtain rfl:=G0 h;exact⟨_,_,he⟩
 ·cases h
theorem libV_of{W:World}(h:laidMetH Tryz.prog laidL W)(hsh:W.ShapedOpen Tryz.prog):∃ V:b5,jb W V.heap:=by
 rw[MakeChecks.laidMetH_plain _ _ _ (by kernel_rfl)] at h;obtain⟨m,hm⟩:=Tryz.laysM146.s1_3 W hsh;have gM:Tryz.prog.globalNamed "internal/bytealg.MaxLen" =some 0:=by kernel_rfl
 have gP:Tryz.prog.globalNamed "internal/strconv.uint64pow10" =some 3:=by kernel_rfl
 have gE:Tryz.prog.globalNamed "strconv.ErrRange" =some 5:=by kernel_rfl
 obtain⟨g1,t1,cs1,f1,p1,hg1,ht1,hv1,hd1⟩:=Lib.laidMet.reads h (n:= "internal/strconv.uint64pow10") (d:=Rows.laid_internal_strconv_uint64pow10) (by simp[laidL]);obtain⟨g2,t2,cs2,f2,p2,hg2,ht2,hv2,hd2⟩:=Lib.laidMet.reads h (n:= "strconv.ErrRange") (d:=Rows.laid_strconv_ErrRange) (by simp[laidL]);obtain rfl:=G0 (gP.symm.trans hg1);obtain rfl:=G0 (gE.symm.trans hg2);have tP:(Tryz.prog.globals[3]?).map (·.type)=some 264:=by kernel_rfl
 have tE:(Tryz.prog.globals[5]?).map (·.type)=some 118:=by kernel_rfl
 obtain rfl:=G0 (tP.symm.trans ht1);obtain rfl:=G0 (tE.symm.trans ht2);have c1:=Lib.cells_of_tab (k:=.u64) (zs:=Lib.pow10Tab) Tryz.underlying264 Tryz.underlying151 (by kernel_rfl) (by kernel_rfl) hd1;obtain⟨f3,u,v,c2,_,_⟩:=iface_of_trod Tryz.underlying118 hd2;obtain⟨tp1,k1,b1⟩:=rf gP hv1;obtain⟨tp2,k2,b2⟩:=rf gE hv2
 have b0:∃ cs t k,W.heap[0]?=some (.cells cs t k)/\cs[0]?=some (.int .i64 m):=by
  have hm':W.cell? ⟨0,0,none⟩=some (.int .i64 m):=hm;unfold World.cell? at hm';simp only[Option.isSome_none,I6,IQ] at hm';split at hm'
  ·rename_i cs t k he;exact⟨_,_,_,he,hm'⟩
  all_goals cases hm'
 obtain⟨cs0,t0,k0,h0,e0⟩:=b0;refine⟨⟨.cells cs0 t0 k0,.cells cs1 tp1 k1,.cells cs2 tp2 k2,m,u,v,⟨_,_,_,rfl,e0⟩,⟨tp1,k1,?_⟩,⟨tp2,k2,?_⟩⟩,⟨h0,b1,b2,an⟩⟩
 ·rw[<- c1]
 ·obtain⟨l2⟩:=cs2;have:l2=[.iface u v]:=c2;rw[this]
section
variable {H:Type} {enc:TypeId×Value->H}
theorem returns_card{a:Assume}{C:Checked}{os:Os}{f:FuncId}{fn:Func}{s:ChangeSpec}{conds:List PathCond}{dO fresh handsOn again:Bool}{X:World->Array Value->Prop}
 (hX:∀ (w w':World) (args:Array Value),w.heap=w'.heap->X w args->X w' args)
 (own:ownKnob C.prog.godebug=none) (started:os.Started) (noInit:C.prog.inits.idxOf? f=none) (hfn:C.prog.funcs[f]?=some fn)
 (witness:∃ (w:World) (tape:Tape) (i:Input),w.os=os/\(w.forCall tape i).Shaped C.prog/\i.vars=[]/\Input.okWide C.prog (w.forCall tape i) .any w.heap.size f i/\
  ((s.pre enc C.prog fn conds dO (w.forCall tape i).memory i.args/\X (w.forCall tape i).memory i.args)/\sizedMet enc C.prog fn (OpenSpec.ofChange s) dO (w.forCall tape i).memory i.args)/\a.holds C.prog (lone (Frame.enter C.prog f i.args .normal) [] (w.forCall tape i)))
 (contract:∀ (W:World) (base:Nat) (args:Array Value) (ds gs:List (DataW H)) (before:List MemPlace),
  (∀ (j:Nat) t v,fn.params[j]?=some t->args[j]?=some v->Value.okWide C.prog W .any base t v)->
  DataW.Whole enc C.prog fn.params.toList s.vars dO W args.toList ds gs before->
  conds.all (PathCond.test C.prog ⟨fn.params.toList,ds,s.plain.varTypes C.prog,gs⟩)=true->
  (DataW.weightsEach C.prog (fn.params.toList++s.plain.varTypes C.prog) (ds++gs)).all (·<=reachBytes)=true->X W args->W.ShapedOpen C.prog->
  a.holds C.prog (lone (Frame.enter C.prog f args .normal) [] W)->
  Calls C.prog f args W λ e W'=>∃ v,e=.returned v/\s.post enc C.prog fn dO fresh handsOn again W args v W'):
 ReturnsInHanded a C os f .any (λ w args=>(s.pre enc C.prog fn conds dO w args/\X w args)/\sizedMet enc C.prog fn (OpenSpec.ofChange s) dO w args) (s.post enc C.prog fn dO fresh handsOn again):=by
 refine returnsInHanded_of_calls own started noInit witness ?_;intro w tape i _ hsh _ hok hpre hholds;obtain⟨_,_,_,fn',hfn',_,_,_,_,hval⟩:=hok;have e:fn'=fn:=G0 (hfn'.symm.trans hfn);subst e;obtain⟨⟨⟨ds,gs,before,hw,hc⟩,hx⟩,hz⟩:=hpre;have hw':=DataW.Whole.of_heap (w':=w.forCall tape i) (by rfl) hw;refine (contract (w.forCall tape i) w.heap.size i.args ds gs before hval hw' hc (hz.weights hw) (hX _ _ _ (by rfl) hx) hsh hholds).mono λ e W' ⟨v,he,hp⟩=>?_;subst he;exact ChangeSpec.post_blind hp
end
end Go.Proofs.YtmcnpaelaieniaaGreatDoor
