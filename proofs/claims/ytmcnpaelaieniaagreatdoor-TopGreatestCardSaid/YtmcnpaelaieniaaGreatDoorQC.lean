import Derived.Test.YtmcnpaelaieniaaGreatDoorQB
import Derived.Test.YtmcnpaelaieniaaGreatDoorQA
/- A part of the proof; see NOTES.md. -/
set_option linter.unusedVariables false
set_option linter.unusedSimpArgs false
namespace Go.Proofs.YtmcnpaelaieniaaGreatDoor
open Go.RowKit
structure aU.Fits (N:aU):Prop where
 nodes:dn N.nodes
 src:dn N.src
 snk:dn N.snk
 len:N.arcs.length*24<=140737488351232
 arc:∀ a∈N.arcs,dn a.fr/\dn a.to/\dn a.cap
theorem iJ(N:aU)(hN:N.Fits)(A:OA)(c b o:Nat)(hA:N.arcs≠[]->A=some ⟨b,o,none⟩):Fn 26 [bp N A c] [] [.seg b o (arcs N.arcs)] λ v H'=>v=.int .i64 (ff N)/\H'=[]:=by
 have hln:=hN.len;refine aJ Tryz.func26 rfl rfl λ w0=>?_;refine ad (aa ?_);refine bx (cs:=bI N A c) rfl rfl rfl (λ _=>rfl) λ p=>?_;refine ae [] rfl ?_;refine ad (aa (ae [] rfl ?_));refine ad (au (ad (aa (ah [] rfl ?_))));refine ab [] (af 0 rfl) rfl ?_;refine ah [] rfl ?_;by_cases h1:N.nodes<2
 ·refine bd 14 rfl h1 ?_;refine ae [3] rfl ?_;refine bi rfl ?_;refine ad (aa (ae [] rfl ?_));refine az [] (by decide) rfl (ay ⟨_,rfl,?_,rfl⟩);unfold ff;rw[if_pos (.inl h1)];rfl
 refine aX 14 rfl h1 ?_;refine ah [3] rfl ?_;refine ab [3] (af 0 rfl) rfl ?_;refine ae [3] rfl ?_;refine aC rfl (λ h2=>?_) (λ h2=>?_)
 ·refine ad (aa (ae [] rfl ?_));refine az [] (by decide) rfl (ay ⟨_,rfl,?_,rfl⟩);unfold ff;rw[if_pos (.inr h2)];rfl
 have c1:¬ (N.nodes<2\/500<N.nodes):=by omega
 refine ad (aa (ah [] rfl ?_));refine ab [] (af 0 rfl) rfl ?_;refine ap [] (np N A c p N.src) rfl (by kernel_rfl) ⟨⟨0,_,by simp,rfl,aF _ _ _ (0,0),.inr rfl⟩,an⟩ (λ _=>rfl) ?_;rintro v H' ⟨rfl,rfl⟩;refine⟨rfl,?_⟩;refine ah [] rfl ?_;by_cases h3:ia N N.src
 case neg=>
  refine aI 25 (v':=.bool true) rfl (Gt Value.bool (by rw[a6 h3];rfl)) ?_;refine ae [5] rfl ?_;refine bi rfl ?_;refine ad (aa (ae [] rfl ?_));refine az [] (by decide) rfl (ay ⟨_,rfl,?_,rfl⟩);unfold ff;rw[if_neg c1,if_pos (λ hc=>h3 hc.1)];rfl
 refine aI 25 (v':=.bool false) rfl (Gt Value.bool (by rw[aR h3];rfl)) ?_;refine ah [5] rfl ?_;refine ab [5] (af 0 rfl) rfl ?_;refine ap [5] (np N A c p N.snk) rfl (by kernel_rfl) ⟨⟨0,_,by simp,rfl,aF _ _ _ (0,0),.inr rfl⟩,an⟩ (λ _=>rfl) ?_;rintro v H' ⟨rfl,rfl⟩;refine⟨rfl,?_⟩;refine ah [5] rfl ?_;by_cases h4:ia N N.snk
 case neg=>
  refine aI 19 (v':=.bool true) rfl (Gt Value.bool (by rw[a6 h4];rfl)) ?_;refine ai ?_;refine bi rfl ?_;refine ad (aa (ae [] rfl ?_));refine az [] (by decide) rfl (ay ⟨_,rfl,?_,rfl⟩);unfold ff;rw[if_neg c1,if_pos (λ hc=>h4 hc.2)];rfl
 refine aI 19 (v':=.bool false) rfl (Gt Value.bool (by rw[aR h4];rfl)) ?_;refine ai ?_;refine bG rfl ?_;have c2:¬ ¬ (ia N N.src/\ia N N.snk):=λ h=>h ⟨h3,h4⟩;refine ad (aa (ah [] rfl ?_));refine ab [] (af 0 rfl) rfl ?_;refine ah [] rfl ?_;refine ab [] (af 0 rfl) rfl ?_;refine ae [] rfl ?_;refine aC rfl (λ h5=>?_) (λ h5=>?_)
 ·refine ad (aa (ae [] rfl ?_));refine az [] (by decide) rfl (ay ⟨_,rfl,?_,rfl⟩);unfold ff;rw[if_neg c1,if_neg c2,if_pos h5];rfl
 refine ad (aa (ah [] rfl ?_));refine ab [] (af 0 rfl) rfl ?_;refine ae [] rfl ?_;refine aC rfl (λ h6=>?_) (λ h6=>aq ?_)
 ·refine ad (aa (ae [] rfl ?_));refine az [] (by decide) rfl (ay ⟨_,rfl,?_,rfl⟩);unfold ff;rw[if_neg c1,if_neg c2,if_neg h5,if_pos (by omega)];rfl
 have hck:ff N=iI N 0 N.arcs:=by unfold ff;rw[if_neg c1,if_neg c2,if_neg h5,if_neg (by omega)]
 rw[hck];refine ad (aa (ae [] rfl ?_));refine ad (ad (aa (ah [] rfl ?_)));refine ab [] (af 0 rfl) rfl ?_;refine ae [] rfl ?_;refine au ?_
 refine bO (σ:=Nat×Int) (λ s=>[(46,.int .i64 s.1),(45,.int .i64 N.arcs.length),(44,.slice A N.arcs.length c),(4,.int .i64 s.2),(3,.func (.func 49) #[] #[.pointer (some ⟨p,0,none⟩)]),(1,.pointer (some ⟨p,0,none⟩))])
  (λ s=>[blk p 33 (bI N A c),.seg b o (arcs N.arcs)]) (λ s=>s.1<=N.arcs.length/\dn s.2/\iI N 0 N.arcs=iI N s.2 (N.arcs.drop s.1)) (λ s=>N.arcs.length-s.1)
  (0,0) [0,1] ⟨rfl,rfl,rfl,rfl,rfl,rfl,an⟩ (by decide) rfl ⟨GB _,by decide,rfl⟩ ?_
 rintro⟨k,n⟩ ⟨hk,hn,hbad⟩;simp only at hk hn hbad ⊢;refine ad (aa (ae [] rfl ?_));refine ad (aC rfl (λ hlt=>aq ?_) (λ hge=>bc ?_))
 ·have hlt:k<N.arcs.length:=by omega
  obtain rfl:=hA (by intro h;rw[h] at hlt;simp at hlt);obtain⟨x,hx⟩:∃ x,N.arcs[k]?=some x:=⟨N.arcs[k],Gq hlt⟩;have hxB:=hN.arc x (Gu hx)
  have hd:N.arcs.drop k=x::N.arcs.drop (k+1):=by
   obtain⟨_,rfl⟩:=Gv.1 hx;rw[Hf hlt]
  rw[hd,iI] at hbad;refine ad (au ?_);refine ad (aa (ah [] rfl ?_));refine ab [] (e6 rfl hlt) rfl ?_;refine ab [] (a8 1 rfl rfl (eY hx)) rfl ?_;refine bo rfl rfl rfl (λ _=>rfl) λ q=>?_;refine aA 0 rfl [] rfl ?_;refine ai ?_;refine ad (aa (ah [] rfl ?_));refine ab [] (af 0 rfl) rfl ?_;refine ap [] (BE hn hxB.2.2) rfl (by kernel_rfl) an (λ _=>rfl) ?_;rintro v H' ⟨rfl,rfl⟩;refine⟨rfl,?_⟩;refine ae [] rfl ?_;refine ad (au (ad (aa (ah [] rfl ?_))));refine ab [] (af 0 rfl) rfl ?_;refine ap [] (np N (some ⟨b,o,none⟩) c p x.fr) rfl (by kernel_rfl) ⟨⟨1,_,by simp,rfl,aF _ _ _ (0,0),.inr rfl⟩,an⟩ (λ _=>rfl) ?_;rintro v H' ⟨rfl,rfl⟩;refine⟨rfl,?_⟩;refine ah [] rfl ?_;by_cases h7:ia N x.fr
  case neg=>
   refine aI 63 (v':=.bool true) rfl (Gt Value.bool (by rw[a6 h7];rfl)) ?_;refine ae [5] rfl ?_;refine bi rfl ?_;refine ad (aa (ae [] rfl ?_));refine az [] (by decide) rfl (ay ⟨_,rfl,?_,rfl⟩);rw[hbad,if_pos (λ h=>h7 h.1)];rfl
  refine aI 63 (v':=.bool false) rfl (Gt Value.bool (by rw[aR h7];rfl)) ?_;refine ah [5] rfl ?_;refine ab [5] (af 0 rfl) rfl ?_;refine ap [5] (np N (some ⟨b,o,none⟩) c p x.to) rfl (by kernel_rfl) ⟨⟨1,_,by simp,rfl,aF _ _ _ (0,0),.inr rfl⟩,an⟩ (λ _=>rfl) ?_;rintro v H' ⟨rfl,rfl⟩;refine⟨rfl,?_⟩;refine ah [5] rfl ?_;by_cases h8:ia N x.to
  case neg=>
   refine aI 57 (v':=.bool true) rfl (Gt Value.bool (by rw[a6 h8];rfl)) ?_;refine ai ?_;refine bi rfl ?_;refine ad (aa (ae [] rfl ?_));refine az [] (by decide) rfl (ay ⟨_,rfl,?_,rfl⟩);rw[hbad,if_pos (λ h=>h8 h.2)];rfl
  refine aI 57 (v':=.bool false) rfl (Gt Value.bool (by rw[aR h8];rfl)) ?_;refine ai ?_;refine bG rfl ?_;rw[if_neg (λ h=>h ⟨h7,h8⟩)] at hbad;refine ad (aa (ah [] rfl ?_));refine ab [] (af 0 rfl) rfl ?_;refine ae [] rfl ?_;refine aC rfl (λ h9=>?_) (λ h9=>?_)
  ·refine ad (aa (ae [] rfl ?_));refine az [] (by decide) rfl (ay ⟨_,rfl,?_,rfl⟩);rw[hbad,if_pos h9];rfl
  rw[if_neg h9] at hbad;by_cases hin:dn (n+x.cap)
  case neg=>
   rw[zB hin];refine ad (aa (ah [] rfl ?_));refine bd 77 rfl (by simp) ?_;refine ae [2] rfl ?_;refine bi rfl ?_;refine ad (aa (ae [] rfl ?_));refine az [] (by decide) rfl (ay ⟨_,rfl,?_,rfl⟩);rw[hbad,if_pos (.inl hin)];rfl
  rw[AW hin];refine ad (aa (ah [] rfl ?_));refine aX 77 rfl (by simp) ?_;refine ae [2] rfl ?_;refine aC rfl (λ h10=>?_) (λ h10=>aq ?_)
  ·refine ad (aa (ae [] rfl ?_));refine az [] (by decide) rfl (ay ⟨_,rfl,?_,rfl⟩);rw[hbad,if_pos (.inr h10)];rfl
  rw[if_neg (λ h=>h.elim (λ h=>h hin) h10)] at hbad;refine aa (ae [] rfl ?_);refine aa (ae [] rfl ?_);refine⟨(k+1,n+x.cap),[1,2],⟨?_,rfl,rfl,rfl,rfl,rfl,an⟩,by decide,rfl,⟨by simp only;omega,hin,hbad⟩,by simp only;omega⟩;show some (Value.int .i64 (IntKind.i64.wrap ((k:Int)+1)))=_;rw[cv (by omega)];rfl
 ·have hk':k=N.arcs.length:=by omega
  subst hk';rw[List.drop_length,iI] at hbad;refine ad (aa (ae [] rfl ?_));refine az [] (by decide) rfl (ay ⟨_,rfl,by rw[hbad];rfl,rfl⟩)
theorem oG(N:aU):∀ (l:List dI) (s:Int),0<=s->s<=4611686018427387903->iI N s l=0->(∀ a∈l,(1<=a.fr/\a.fr<=N.nodes)/\(1<=a.to/\a.to<=N.nodes)/\0<=a.cap)/\s+(l.map (·.cap)).sum<=4611686018427387903
 |[],s,_,h,_=>⟨λ a ha=>(by cases ha),by simpa using h⟩
 |a::l,s,h0,h1,hz=>by
  rw[iI] at hz;split at hz
  ·simp at hz
  ·rename_i ht;split at hz
   ·simp at hz
   ·rename_i hc;split at hz
    ·simp at hz
    ·rename_i hs;obtain⟨i1,i2⟩:=oG N l (s+a.cap) (by omega) (by omega) hz;have ht':=Classical.not_not.1 ht;refine⟨fun x hx=>?_,by simp only[List.map_cons,List.sum_cons];omega⟩
     rcases GD.1 hx with rfl|hx
     ·exact⟨ht'.1,ht'.2,by omega⟩
     ·exact i1 x hx
theorem uD{N:aU}(h:ff N=0):N.Right:=by
 unfold ff at h;split at h
 ·simp at h
 ·rename_i h1;split at h
  ·simp at h
  ·rename_i h2;split at h
   ·simp at h
   ·rename_i h3;split at h
    ·simp at h
    ·rename_i h4;have h2':=GK.1 h2;obtain⟨i1,i2⟩:=oG N N.arcs 0 (by omega) (by omega) h;exact⟨by omega,h2'.1,h2'.2,h3,by omega,i1,by omega⟩
def gV(l:LI)(a:dI)(f:Int):LI:=
 let l1:=l.set a.fr.toNat (IntKind.i64.wrap (l.getD a.fr.toNat 0-f))
 l1.set a.to.toNat (IntKind.i64.wrap (l1.getD a.to.toNat 0+f))
def o5(n:Nat)(al:List dI)(fs:LI):LI:=(al.zip fs).foldl (λ l p=>gV l p.1 p.2) (List.replicate (n+1) 0)
theorem lN(l:LI)(a:dI)(f:Int):(gV l a f).length=l.length:=by simp[gV]
theorem iP(n:Nat)(al:List dI)(fs:LI):(o5 n al fs).length=n+1:=by
 unfold o5
 have:∀ (ps:List (dI×Int)) (l:LI),(ps.foldl (λ l p=>gV l p.1 p.2) l).length=l.length:=by
  intro ps
  induction ps with
  |nil=>intro l;rfl
  |cons p ps ih=>intro l;simp[ih,lN]
 rw[this];simp
theorem uO(n:Nat){al:List dI}{fs:LI}{k:Nat}{a:dI}{f:Int}(ha:al[k]?=some a)(hf:fs[k]?=some f):o5 n (al.take (k+1)) fs=gV (o5 n (al.take k) fs) a f:=by
 have h1:al.take (k+1)=al.take k++[a]:=by
  obtain⟨h,rfl⟩:=Gv.1 ha;rw[List.take_succ_eq_append_getElem h]
 have hk:(al.take k).length=k:=by
  obtain⟨h,_⟩:=Gv.1 ha;simp;omega
 have h2:fs=fs.take k++f::fs.drop (k+1):=by
  obtain⟨h,rfl⟩:=Gv.1 hf;simp
 have hk2:(fs.take k).length=k:=by
  obtain⟨h,_⟩:=Gv.1 hf;simp;omega
 unfold o5;rw[h1]
 conv=>lhs;rw[h2]
 conv=>rhs;rw[h2]
 rw[List.zip_append (by rw[hk,hk2]),Iy]
 have:(al.take k).zip (fs.take k++f::fs.drop (k+1))=(al.take k).zip (fs.take k):=by
  conv=>lhs;rw[<- G5 (al.take k)]
  rw[List.zip_append (by rw[hk,hk2])];simp
 rw[this];simp
theorem oK(n:Nat)(src snk:Int)(A F:OA)(ca cf ba oa bf of:Nat)(al:List dI)(fs:LI)(hn:n<=500)(hA:al≠[]->A=some ⟨ba,oa,none⟩)(hF:al≠[]->F=some ⟨bf,of,none⟩)
 (hl:fs.length=al.length) (hlen:al.length<=2000) (hin:∀ a∈al,0<=a.fr/\a.fr<=n/\0<=a.to/\a.to<=n):
 Fn 40 [.agg #[.int .i64 n,.int .i64 src,.int .i64 snk,.slice A al.length ca],.slice F al.length cf] [] [.seg ba oa (arcs al),.seg bf of (ax fs)]
  (λ v H'=>∃ g,v=.slice (some ⟨g,0,none⟩) (n+1) (n+1)/\H'=[.own v 2 1 (n+1) (ax (o5 n al fs))]):=by
 refine aJ Tryz.func40 rfl rfl λ w0=>?_;refine ad (aa ?_);refine bx rfl rfl rfl (λ _=>rfl) λ b1=>?_;refine ae [] rfl ?_;refine ad (aa ?_);refine ah [] rfl ?_;refine ab [] (af 0 rfl) rfl ?_;refine ah [] rfl ?_;rw[cv (n:=(n:Int)+1) (by omega)];refine cX (n:=n+1) (c:=n+1) rfl rfl rfl rfl rfl rfl (by omega) (by omega) (by omega) (λ _=>rfl) λ g=>?_;refine ae [] rfl ?_;refine ad (ad (aa ?_));refine ah [] rfl ?_;refine ab [] (af 1 rfl) rfl ?_;refine ae [] rfl ?_;rw[nO];refine au ?_
 refine bO (σ:=Nat) (λ k=>[(15,.int .i64 k),(14,.int .i64 al.length),(13,.slice A al.length ca),(5,.slice (some ⟨g,0,none⟩) (n+1) (n+1)),(1,.slice F al.length cf)])
  (λ k=>[.own (.slice (some ⟨g,0,none⟩) (n+1) (n+1)) 2 1 (n+1) (ax (o5 n (al.take k) fs)),.seg ba oa (arcs al),.seg bf of (ax fs)]) (λ k=>k<=al.length) (λ k=>al.length-k)
  0 [0,2,3] ⟨rfl,rfl,rfl,rfl,rfl,an⟩ (by decide) (by rw[List.take_zero];rfl) (GB _) λ k hk=>?_
 refine ad (aa (ae [] rfl ?_));refine ad (aC rfl (λ hlt=>aq ?_) (λ hge=>bc ?_))
 ·have hlt:k<al.length:=by omega
  have hne:al≠[]:=by rintro rfl;simp at hlt
  obtain rfl:=hA hne;obtain rfl:=hF hne;refine ad (au (ad (aa ?_)));refine ah [] rfl ?_;refine ab [] (e6 rfl hlt) rfl ?_;obtain⟨⟨fr,to,cap⟩,ha⟩:∃ a,al[k]?=some a:=⟨al[k],Gq hlt⟩;obtain⟨f,hf⟩:∃ f,fs[k]?=some f:=⟨fs[k],Gq (by omega)⟩;obtain⟨h1,h2,h3,h4⟩:=hin _ (Gu ha);simp only at h1 h2 h3 h4;obtain⟨fr,rfl⟩:=Ie h1;obtain⟨to,rfl⟩:=Ie h3;refine ab [] (a8 1 rfl rfl (eY ha)) rfl ?_;refine bo rfl rfl rfl (λ _=>rfl) λ b2=>?_;refine ah [] rfl ?_;refine aA 0 rfl [] rfl ?_;refine ai ?_;refine ad (pk 11 (by kernel_rfl) ?_);refine fu [] rfl ?_;refine dk [] (af 0 rfl) rfl ?_;have hel:=iP n (al.take k) fs;obtain⟨x,hx⟩:∃ x,(o5 n (al.take k) fs)[fr]?=some x:=⟨_,Gq (by omega)⟩;refine dk [] (aG rfl (by omega)) rfl ?_;refine dk [] (aD 1 rfl rfl rfl (bD hx)) rfl ?_;refine fu [] rfl ?_;refine dk [] (bR rfl hlt) rfl ?_;refine dk [] (a8 3 rfl rfl (bD hf)) rfl ?_;refine fu [] rfl ?_;refine dk [] (aG rfl (by omega)) rfl ?_;refine sF ?_;refine aO 1 rfl rfl rfl rfl (dU rfl (by omega)) [] rfl ?_;refine ai ?_;refine pk 11 (by kernel_rfl) ?_;obtain⟨y,hy⟩:∃ y,((o5 n (al.take k) fs).set fr (IntKind.i64.wrap (x-f)))[to]?=some y:=⟨_,Gq (by simp;omega)⟩;refine fu [] rfl ?_;refine dk [] (af 0 rfl) rfl ?_;refine dk [] (aG rfl (by omega)) rfl ?_;refine dk [] (aD 1 rfl rfl rfl (bD hy)) rfl ?_;refine fu [] rfl ?_;refine dk [] (bR rfl hlt) rfl ?_;refine dk [] (a8 3 rfl rfl (bD hf)) rfl ?_;refine fu [] rfl ?_;refine dk [] (aG rfl (by omega)) rfl ?_;refine sF ?_;refine aO 1 rfl rfl rfl rfl (dU rfl (by simp;omega)) [] rfl ?_;refine ai ?_;refine aa (ae [] rfl ?_);refine⟨k+1,[1,2,3],⟨?_,rfl,rfl,rfl,rfl,an⟩,by decide,?_,by omega,by omega⟩
  ·show some (Value.int .i64 (IntKind.i64.wrap ((k:Int)+1)))=_;rw[cv (by omega)];rfl
  ·rw[uO n ha hf]
   have e:gV (o5 n (al.take k) fs) ⟨fr,to,cap⟩ f=((o5 n (al.take k) fs).set fr (IntKind.i64.wrap (x-f))).set to (IntKind.i64.wrap (y+f)):=by
    simp only[gV,GW,Gw,hx,G1,hy]
   rw[e];rfl
 ·refine ad (aa (ae [] rfl ?_));refine az [0] (by decide) rfl (ay ?_);have hk':k=al.length:=by omega
  subst hk';exact⟨_,rfl,g,rfl,by rw[GY];rfl⟩
open Classical in
noncomputable def ft(N:aU)(f:LI):Int:=if f.length≠N.arcs.length then 6 else if ∀ p∈N.arcs.zip f,0<=p.2/\p.2<=p.1.cap then 0 else 3
theorem x7(N:aU)(hN:N.Fits)(hR:N.Right)(A:OA)(c b o:Nat)(hA:N.arcs≠[]->A=some ⟨b,o,none⟩)(f:LI)(F:OA)(cf bf of:Nat)(hF:f≠[]->F=some ⟨bf,of,none⟩)(hf:∀ x∈f,dn x)(hfl:f.length*8<=140737488351232):
 Fn 77 [bp N A c,.slice F f.length cf] [] [.seg b o (arcs N.arcs),.seg bf of (ax f)] λ v H'=>v=.int .i64 (ft N f)/\H'=[]:=by
 have hln:=hN.len;refine aJ Tryz.func77 rfl rfl λ w0=>?_;refine ad (aa ?_);refine bx (cs:=bI N A c) rfl rfl rfl (λ _=>rfl) λ p=>?_;refine ae [] rfl ?_;refine ad (ad (aa ?_));refine ab [] (v:=bp N A c) (af 0 rfl) rfl ?_;refine ap [] (iJ N hN A c b o hA) rfl (by kernel_rfl) ⟨⟨1,_,by simp,rfl,ak _ _ _,av⟩,an⟩ (λ _=>rfl) ?_;rintro v H' ⟨rfl,rfl⟩;refine⟨rfl,?_⟩;rw[hR.check];refine ae [] rfl ?_;refine ad (aa (ae [] rfl ?_));refine aC rfl (λ h=>absurd rfl h) (λ _=>aq ?_);refine ad (ad (aa (ah [] rfl ?_)));refine ab [] (af 0 rfl) rfl ?_;refine ae [] rfl ?_;refine aC rfl (λ h=>?_) (λ h=>aq ?_)
 ·refine ad (aa (ae [] rfl ?_));refine az [] (by decide) rfl (ay ⟨_,rfl,?_,rfl⟩);unfold ft;rw[if_pos (by omega)];rfl
 have hlen:f.length=N.arcs.length:=by omega
 refine ad (ad (aa (ae [] rfl ?_)));refine au ?_
 refine bO (σ:=Nat) (λ k=>[(21,.int .i64 k),(20,.int .i64 f.length),(19,.slice F f.length cf),(2,.pointer (some ⟨p,0,none⟩))])
  (λ k=>[blk p 33 (bI N A c),.seg b o (arcs N.arcs),.seg bf of (ax f)]) (λ k=>k<=f.length/\∀ q∈(N.arcs.zip f).take k,0<=q.2/\q.2<=q.1.cap) (λ k=>f.length-k)
  0 [0,1,2] ⟨rfl,rfl,rfl,rfl,an⟩ (by decide) rfl ⟨GB _,λ q hq=>by simp at hq⟩ ?_
 rintro k ⟨hk,hall⟩;refine ad (aa (ae [] rfl ?_));refine ad (aC rfl (λ hlt=>aq ?_) (λ hge=>bc ?_))
 ·have hlt:k<f.length:=by omega
  obtain rfl:=hF (by rintro rfl;simp at hlt)
  obtain rfl:=hA (by intro h;have h0:N.arcs.length=0:=by rw[h];rfl
                     omega)
  obtain⟨x,hx⟩:∃ x,f[k]?=some x:=⟨f[k],Gq hlt⟩;obtain⟨a,ha⟩:∃ a,N.arcs[k]?=some a:=⟨N.arcs[k],Gq (by omega)⟩;obtain⟨_,_,hcap⟩:=eO ha;have hz:(N.arcs.zip f)[k]?=some (a,x):=by simp[G7,ha,hx]
  have hbad:¬ (0<=x/\x<=a.cap)->ft N f=3:=by
   intro hb;unfold ft;rw[if_neg (by omega),if_neg (λ hall=>hb (hall _ (Gu hz)))]
  refine ad (au ?_);refine ad (aa (ah [] rfl ?_));refine ab [] (bR rfl hlt) rfl ?_;refine ab [] (a8 2 rfl rfl (bD hx)) rfl ?_;refine ae [] rfl ?_;refine ad (aa (ah [] rfl ?_));by_cases h0:x<0
  ·refine bd 28 rfl h0 ?_;refine ae [2] rfl ?_;refine bi rfl ?_;refine ad (aa (ae [] rfl ?_));refine az [] (by decide) rfl (ay ⟨_,rfl,by rw[hbad (by omega)];rfl,rfl⟩)
  refine aX 28 rfl h0 ?_;refine ah [2] rfl ?_;refine ab [2] (af 0 rfl) rfl ?_;refine ah [2] rfl ?_;refine ab [2] (e6 rfl (by omega)) rfl ?_;refine ah [2] rfl ?_;refine ab [2] (a8 1 rfl rfl hcap) rfl ?_;refine ae [2] rfl ?_;refine aC rfl (λ h1=>?_) (λ h1=>aq ?_)
  ·refine ad (aa (ae [] rfl ?_));refine az [] (by decide) rfl (ay ⟨_,rfl,by rw[hbad (by omega)];rfl,rfl⟩)
  refine aa (ae [] rfl ?_);refine⟨k+1,[0,1,2],⟨?_,rfl,rfl,rfl,an⟩,by decide,rfl,⟨by omega,λ q hq=>?_⟩,by omega⟩
  ·show some (Value.int .i64 (IntKind.i64.wrap ((k:Int)+1)))=_;rw[cv (by omega)];rfl
  ·rw[GO,hz] at hq
   rcases GE.1 hq with hq|hq
   ·exact hall q hq
   ·simp only[Option.toList_some,Gy] at hq;subst hq;simp only;omega
 ·have hk':k=f.length:=by omega
  subst hk';refine ad (aa (ae [] rfl ?_));refine az [] (by decide) rfl (ay ⟨_,rfl,?_,rfl⟩);unfold ft;rw[if_neg (by omega),if_pos (λ q hq=>hall q (by rw[Hr (by simp;omega)];exact hq))];rfl
def cS(ps:List (dI×Int))(v:Int):Int:=(ps.map λ p=>(if p.1.to=v then p.2 else 0)-(if p.1.fr=v then p.2 else 0)).sum
theorem vI{l:LI}{a:dI}{f:Int}{B:Int}(hB:∀ v:Nat,-B<=l.getD v 0/\l.getD v 0<=B)(hf:0<=f)(hb:B+f<=9000000000000000000)(h1:0<=a.fr/\a.fr<l.length)(h2:0<=a.to/\a.to<l.length)(v:Nat):
 (gV l a f).getD v 0=l.getD v 0+((if a.to=v then f else 0)-(if a.fr=v then f else 0)):=by
 obtain⟨fr,to,cap⟩:=a;obtain⟨fr,rfl⟩:=Ie h1.1;obtain⟨to,rfl⟩:=Ie h2.1;simp only[gV,GW];have h1':fr<l.length:=by have:=h1.2;simp only at this;omega
 have h2':to<l.length:=by have:=h2.2;simp only at this;omega
 have hs1:∀ v,(l.set fr (IntKind.i64.wrap (l.getD fr 0-f))).getD v 0=l.getD v 0-(if fr=v then f else 0):=by
  intro v;by_cases h:fr=v
  ·subst h;have:=hB fr;rw[if_pos rfl,Gw,GH h1',G1,cv (by omega)]
  ·rw[if_neg h,Gw,GJ h,Gw];omega
 by_cases h:to=v
 ·subst h;have e1:=hs1 to;have:=hB to;rw[Gw,GH (by simpa using h2'),G1,e1,cv (by split<;>omega)];simp only[Int.natCast_inj,Ij];omega
 ·rw[Gw,GJ h,<- Gw,hs1 v];simp only[Int.natCast_inj];rw[if_neg h];omega
theorem wO(n:Nat):∀ (ps:List (dI×Int)) (l:LI) (B:Int),l.length=n+1->(∀ v:Nat,-B<=l.getD v 0/\l.getD v 0<=B)->(∀ p∈ps,0<=p.2/\(0<=p.1.fr/\p.1.fr<=n)/\(0<=p.1.to/\p.1.to<=n))->B+(ps.map (·.2)).sum<=9000000000000000000->
 ∀ v:Nat,(ps.foldl (λ l p=>gV l p.1 p.2) l).getD v 0=l.getD v 0+cS ps v
 |[],l,B,_,_,_,_,v=>by simp[cS]
 |p::ps,l,B,hl,hB,hp,hs,v=>by
  obtain⟨p1,p2,p3⟩:=hp p (by simp)
  have hnn:0<=(ps.map (·.2)).sum:=by
   have:∀ (ps:List (dI×Int)),(∀ p∈ps,0<=p.2)->0<=(ps.map (·.2)).sum:=by
    intro ps
    induction ps with
    |nil=>intro _;simp
    |cons q ps ih=>intro h;have:=ih λ a ha=>h a (by simp[ha]);have:=h q (by simp);simp only[GG,GT];omega
   exact this ps λ q hq=>(hp q (by simp[hq])).1
  simp only[GG,GT] at hs;have hst:=vI (l:=l) (a:=p.1) (f:=p.2) hB p1 (by omega) (by omega) (by omega);rw[IE,wO n ps (gV l p.1 p.2) (B+p.2) (by rw[lN];exact hl) (λ v=>?_) (λ q hq=>hp q (by simp[hq])) (by omega) v,hst v]
  ·simp only[cS,GG,GT];omega
  ·rw[hst v];have:=hB v;split<;>split<;>omega
theorem Dk(n:Nat)(al:List dI)(fs:LI)(hp:∀ p∈al.zip fs,0<=p.2/\(0<=p.1.fr/\p.1.fr<=n)/\(0<=p.1.to/\p.1.to<=n))(hs:((al.zip fs).map (·.2)).sum<=9000000000000000000)(v:Nat):(o5 n al fs).getD v 0=cS (al.zip fs) v:=by
 unfold o5
 have h0:∀ v,(List.replicate (n+1) (0:Int)).getD v 0=0:=by
  intro v;rw[Gw,GN];split<;>rfl
 rw[wO n (al.zip fs) _ 0 (by simp) (λ v=>by rw[h0];omega) hp (by omega) v,h0];omega
structure Ranged (N:aU) (f:LI):Prop where
 len:f.length=N.arcs.length
 all:∀ p∈N.arcs.zip f,0<=p.2/\p.2<=p.1.cap
theorem il{N:aU}{f:LI}:ft N f=0↔Ranged N f:=by
 unfold ft
 constructor
 ·intro h;split at h
  ·simp at h
  ·rename_i h1;split at h
   ·rename_i h2;exact⟨by omega,h2⟩
   ·simp at h
 ·rintro⟨h1,h2⟩;rw[if_neg (by omega),if_pos h2]
theorem mp:∀ (al:List dI) (fs:LI),(∀ p∈al.zip fs,0<=p.2/\p.2<=p.1.cap)->(∀ a∈al,0<=a.cap)->((al.zip fs).map (·.2)).sum<=(al.map (·.cap)).sum
 |[],_,_,_=>by simp
 |a::al,[],_,h=>by
  have:=mp al [] (by simp) λ a ha=>h a (by simp[ha]);have:=h a (by simp);simp at*;omega
 |a::al,f::fs,hp,h=>by
  have:=mp al fs (λ p hp'=>hp p (by simp[hp'])) λ a ha=>h a (by simp[ha]);have:=hp (a,f) (by simp);simp only[H7,GG,GT] at*;omega
theorem Ranged.exc{N:aU}{f:LI}(h:Ranged N f)(hR:N.Right)(n:Nat)(hn:N.nodes=n)(v:Nat):(o5 n N.arcs f).getD v 0=cS (N.arcs.zip f) v:=by
 refine Dk n N.arcs f (λ p hp=>?_) ?_ v
 ·have h1:=h.all p hp;have h2:=hR.arc p.1 (List.of_mem_zip hp).1;exact⟨h1.1,by omega,by omega⟩
 ·have h1:=mp N.arcs f h.all λ a ha=>(hR.arc a ha).2.2;have h2:=hR.sum;omega
open Classical in
noncomputable def en(N:aU)(f:LI):Int:=if ft N f≠0 then ft N f else if ∀ v:Int,1<=v/\v<=N.nodes->v≠N.src->v≠N.snk->cS (N.arcs.zip f) v=0 then 0 else 9
theorem rj{N:aU}{f:LI}(h:Ranged N f)(hz:∀ v:Int,1<=v/\v<=N.nodes->v≠N.src->v≠N.snk->cS (N.arcs.zip f) v=0):en N f=0:=by
 unfold en;rw[if_neg (λ hc=>hc (il.2 h)),if_pos hz]
theorem tR{N:aU}{f:LI}(h:Ranged N f)(hz:¬ ∀ v:Int,1<=v/\v<=N.nodes->v≠N.src->v≠N.snk->cS (N.arcs.zip f) v=0):en N f=9:=by
 unfold en;rw[if_neg (λ hc=>hc (il.2 h)),if_neg hz]
structure aK (N:aU) (f:LI):Prop extends Ranged N f where
 kept:∀ v:Int,1<=v/\v<=N.nodes->v≠N.src->v≠N.snk->cS (N.arcs.zip f) v=0
theorem cU{N:aU}{f:LI}:en N f=0↔aK N f:=by
 constructor
 ·intro h;by_cases hw:Ranged N f
  ·refine⟨hw,?_⟩;by_cases hz:∀ v:Int,1<=v/\v<=N.nodes->v≠N.src->v≠N.snk->cS (N.arcs.zip f) v=0
   ·exact hz
   ·rw[tR hw hz] at h;simp at h
  ·exfalso;have h1:ft N f≠0:=λ h=>hw (il.1 h);unfold en at h;rw[if_pos h1] at h;exact h1 h
 ·exact λ h=>rj h.toRanged h.kept
theorem rS(N:aU)(hN:N.Fits)(hR:N.Right)(A:OA)(c b o:Nat)(hA:N.arcs≠[]->A=some ⟨b,o,none⟩)(f:LI)(F:OA)(cf bf of:Nat)(hF:f≠[]->F=some ⟨bf,of,none⟩)(hf:∀ x∈f,dn x)(hfl:f.length*8<=140737488351232):
 Fn 39 [bp N A c,.slice F f.length cf] [] [.seg b o (arcs N.arcs),.seg bf of (ax f)] λ v H'=>v=.int .i64 (en N f)/\H'=[]:=by
 refine aJ Tryz.func39 rfl rfl λ w0=>?_;refine ad (aa ?_);refine bx (cs:=bI N A c) rfl rfl rfl (λ _=>rfl) λ p=>?_;refine ae [] rfl ?_;refine ad (ad (aa ?_));refine ab [] (v:=bp N A c) (af 0 rfl) rfl ?_;refine ah [] rfl ?_;refine ap [] (x7 N hN hR A c b o hA f F cf bf of hF hf hfl) rfl (by kernel_rfl) ⟨⟨1,_,by simp,rfl,ak _ _ _,av⟩,⟨2,_,by simp,rfl,ak _ _ _,av⟩,an⟩ (λ _=>rfl) ?_;rintro v H' ⟨rfl,rfl⟩;refine⟨rfl,?_⟩;refine ae [] rfl ?_;refine ad (aa (ae [] rfl ?_));refine aC rfl (λ h=>?_) (λ h=>aq ?_)
 ·refine ad (aa (ae [] rfl ?_));refine az [] (by decide) rfl (ay ⟨_,rfl,?_,rfl⟩);unfold en;rw[if_pos h];rfl
 have hW:Ranged N f:=il.1 (GK.1 h);have hnn:=hR.nodes;obtain⟨n,hn⟩:∃ n:Nat,N.nodes=n:=⟨N.nodes.toNat,by omega⟩;have hX:=hW.exc hR n hn;have hXl:=iP n N.arcs f;have T:=oK n N.src N.snk A F c cf b o bf of N.arcs f (by omega) hA (λ hne=>hF (λ h0=>hne (by have:=hW.len;rw[h0] at this;exact GM.1 this.symm))) hW.len hR.len (λ a ha=>by have:=hR.arc a ha;omega);rw[<- hn] at T;refine ad (aa ?_);refine ab [] (v:=bp N A c) (af 0 rfl) rfl ?_;refine ah [] rfl ?_;refine b9 [] T rfl rfl rfl (by rw[hW.len];rfl) (by kernel_rfl) ⟨⟨1,_,by simp,rfl,ak _ _ _,av⟩,⟨2,_,by simp,rfl,ak _ _ _,av⟩,an⟩ (λ _=>rfl) ?_;rintro v H' ⟨g,rfl,rfl⟩;refine⟨rfl,?_⟩;refine ae [] rfl ?_;obtain⟨X,hXd⟩:∃ X,X=o5 n N.arcs f:=⟨_,rfl⟩;rw[<- hXd] at hX hXl ⊢;refine ad (ad (aa (ah [] rfl ?_)));refine ab [] (af 1 rfl) rfl ?_;refine ah [] rfl ?_;refine ai ?_;rw[hn];refine au ?_
 refine bO (σ:=Nat) (λ k=>[(20,.int .i64 k),(19,.int .i64 n),(6,.slice (some ⟨g,0,none⟩) (n+1) (n+1)),(2,.pointer (some ⟨p,0,none⟩))])
  (λ k=>[.own (.slice (some ⟨g,0,none⟩) (n+1) (n+1)) 2 1 (n+1) (ax X),blk p 33 (bI N A c)]) (λ k=>k<=n/\∀ v:Int,1<=v/\v<=k->v≠N.src->v≠N.snk->cS (N.arcs.zip f) v=0) (λ k=>n-k)
  0 [0,1] ⟨rfl,rfl,rfl,rfl,an⟩ (by decide) rfl ⟨GB _,λ v hv=>by omega⟩ ?_
 rintro k ⟨hk,hall⟩;refine ad (aa (ae [] rfl ?_));refine ad (aC rfl (λ hlt=>aq ?_) (λ hge=>bc ?_))
 ·have hlt:k<n:=by omega
  refine ad (au ?_);refine ad (aa (ae [] rfl ?_));refine ad (aa (ae [] rfl ?_));refine a7 8 (v':=.int .i64 ((k+1:Nat):Int)) rfl (Gt (Value.int .i64) (cv (by omega))) ?_
  have hnext:(((k+1:Nat):Int)≠N.src->((k+1:Nat):Int)≠N.snk->cS (N.arcs.zip f) ((k+1:Nat):Int)=0)->∀ v:Int,1<=v/\v<=((k+1:Nat):Int)->v≠N.src->v≠N.snk->cS (N.arcs.zip f) v=0:=by
   intro hz v hv h1 h2;by_cases hvk:v<=k
   ·exact hall v ⟨hv.1,hvk⟩ h1 h2
   ·obtain rfl:v=((k+1:Nat):Int):=by omega
    exact hz h1 h2
  have hxk:∃ x,X[k+1]?=some x:=⟨X[k+1]'(by omega),Gq (by omega)⟩;obtain⟨x,hx⟩:=hxk
  have hxv:x=cS (N.arcs.zip f) ((k+1:Nat):Int):=by
   have:=hX (k+1);rw[Gw,hx] at this;exact this
  by_cases hz:((k+1:Nat):Int)≠N.src->((k+1:Nat):Int)≠N.snk->cS (N.arcs.zip f) ((k+1:Nat):Int)=0
  ·refine fj [(41,.bool false),(20,.int .i64 k),(19,.int .i64 n),(6,.slice (some ⟨g,0,none⟩) (n+1) (n+1)),(2,.pointer (some ⟨p,0,none⟩))]
    [.own (.slice (some ⟨g,0,none⟩) (n+1) (n+1)) 2 1 (n+1) (ax X),blk p 33 (bI N A c)] ?_ ?_
   ·skip
    refine aa (ah [] rfl ?_);refine ab [] (af 1 rfl) rfl ?_;refine ah [] rfl ?_;by_cases h1:((k+1:Nat):Int)=N.src
    ·refine aX 29 rfl (λ h=>h h1) ?_;refine ae [4,10] rfl ?_;exact⟨[0,1],⟨rfl,rfl,rfl,rfl,rfl,an⟩,by decide,rfl⟩
    refine bd 29 rfl h1 ?_;refine ah [4] rfl ?_;refine ab [4] (af 1 rfl) rfl ?_;refine ah [4] rfl ?_;by_cases h2:((k+1:Nat):Int)=N.snk
    ·refine aX 35 rfl (λ h=>h h2) ?_;refine ae [4,10] rfl ?_;exact⟨[0,1],⟨rfl,rfl,rfl,rfl,rfl,an⟩,by decide,rfl⟩
    refine bd 35 rfl h2 ?_;refine ah [4,10] rfl ?_;refine ab [4,10] (aG rfl (by omega)) rfl ?_;refine ab [4,10] (aD 0 rfl rfl rfl (bD hx)) rfl ?_;refine ae [4,10] rfl ?_;exact⟨[0,1],⟨Gt some (Gt Value.bool (a6 (λ h3=>h3 (hxv.trans (hz h1 h2))))),rfl,rfl,rfl,rfl,an⟩,by decide,rfl⟩
   ·refine bG rfl (aq ?_);refine aa (ae [] rfl ?_);refine⟨k+1,[0,1],⟨?_,rfl,rfl,rfl,an⟩,by decide,rfl,⟨by omega,hnext hz⟩,by omega⟩;show some (Value.int .i64 (IntKind.i64.wrap ((k:Int)+1)))=_;rw[cv (by omega)];rfl
  ·have h1:((k+1:Nat):Int)≠N.src:=λ e=>hz (λ h=>absurd e h);have h2:((k+1:Nat):Int)≠N.snk:=λ e=>hz (λ _ h=>absurd e h);have h3:x≠0:=λ e=>hz (λ _ _=>hxv.symm.trans e);refine ad (aa (ah [] rfl ?_));refine ab [] (af 1 rfl) rfl ?_;refine ah [] rfl ?_;refine bd 29 rfl h1 ?_;refine ah [4] rfl ?_;refine ab [4] (af 1 rfl) rfl ?_;refine ah [4] rfl ?_;refine bd 35 rfl h2 ?_;refine ah [4,10] rfl ?_;refine ab [4,10] (aG rfl (by omega)) rfl ?_;refine ab [4,10] (aD 0 rfl rfl rfl (bD hx)) rfl ?_;refine ae [4,10] rfl ?_;refine aC rfl (λ _=>?_) (λ h=>absurd h3 h);refine ad (aa (ae [] rfl ?_));refine az [] (by decide) rfl (ay ⟨_,rfl,?_,rfl⟩);rw[tR hW (λ hall=>hz (hall _ (by omega)))];rfl
 ·refine ad (aa (ae [] rfl ?_));refine az [] (by decide) rfl (ay ⟨_,rfl,?_,rfl⟩);rw[rj hW (λ v hv=>hall v (by omega))];rfl
theorem gq(N:aU)(hN:N.Fits)(hR:N.Right)(A:OA)(c b o:Nat)(hA:N.arcs≠[]->A=some ⟨b,o,none⟩)(f:LI)(F:OA)(cf bf of:Nat)(hF:f≠[]->F=some ⟨bf,of,none⟩)(hf:∀ x∈f,dn x)(hfl:f.length*8<=140737488351232):
 Fn 17 [bp N A c,.slice F f.length cf] [] [.seg b o (arcs N.arcs),.seg bf of (ax f)] λ v H'=>(v=tj (cS (N.arcs.zip f) N.snk,0)/\aK N f\/v=tj (0,en N f)/\¬ aK N f)/\H'=[]:=by
 refine aJ Tryz.func17 rfl rfl λ w0=>?_;refine ad (aa ?_);refine bx (cs:=bI N A c) rfl rfl rfl (λ _=>rfl) λ p=>?_;refine ae [] rfl ?_;refine ad (ad (aa ?_));refine ab [] (v:=bp N A c) (af 0 rfl) rfl ?_;refine ah [] rfl ?_;refine ap [] (rS N hN hR A c b o hA f F cf bf of hF hf hfl) rfl (by kernel_rfl) ⟨⟨1,_,by simp,rfl,ak _ _ _,av⟩,⟨2,_,by simp,rfl,ak _ _ _,av⟩,an⟩ (λ _=>rfl) ?_;rintro v H' ⟨rfl,rfl⟩;refine⟨rfl,?_⟩;refine ae [] rfl ?_;refine ad (aa (ae [] rfl ?_));refine aC rfl (λ h=>?_) (λ h=>aq ?_)
 ·refine ad (aa (ae [] rfl ?_));refine az [] (by decide) rfl (ay ⟨_,rfl,.inr ⟨rfl,λ hf=>h (cU.2 hf)⟩,rfl⟩)
 have hW:aK N f:=cU.1 (GK.1 h);have hnn:=hR.nodes;have hsk:=hR.snk;obtain⟨n,hn⟩:∃ n:Nat,N.nodes=n:=⟨N.nodes.toNat,by omega⟩;obtain⟨s,hs⟩:∃ s:Nat,N.snk=s:=⟨N.snk.toNat,by omega⟩;have hX:=hW.toRanged.exc hR n hn s;have hXl:=iP n N.arcs f;have T:=oK n N.src N.snk A F c cf b o bf of N.arcs f (by omega) hA (λ hne=>hF (λ h0=>hne (by have:=hW.len;rw[h0] at this;exact GM.1 this.symm))) hW.len hR.len (λ a ha=>by have:=hR.arc a ha;omega);rw[<- hn] at T;obtain⟨x,hx⟩:∃ x,(o5 n N.arcs f)[s]?=some x:=⟨(o5 n N.arcs f)[s]'(by omega),Gq (by omega)⟩
 have hxv:x=cS (N.arcs.zip f) N.snk:=by
  rw[Gw,hx] at hX;rw[hs];exact hX
 refine ad ?_;refine bu 9 (cZ [0,1,3,4]++[(2,false)]++cZ [5]++[(6,false)]++cZ [7,8]) [0] (by kernel_rfl) (by decide) rfl ?_;refine aj [] rfl (v:=bp N A c) (af 0 rfl) rfl ?_;refine aB [] rfl ?_;refine aj [] rfl (af 0 rfl) rfl ?_;refine bg rfl ?_;refine b9 [] T rfl rfl rfl (by rw[hW.len];rfl) (by kernel_rfl) ⟨⟨1,_,by simp,rfl,ak _ _ _,av⟩,⟨2,_,by simp,rfl,ak _ _ _,av⟩,an⟩ (λ _=>rfl) ?_;rintro v H' ⟨g,rfl,rfl⟩;refine⟨rfl,ai ⟨⟨[1],by decide,rfl⟩,?_⟩⟩;refine eg 17 (v':=.int .i64 s) rfl (Gt (Value.int .i64) hs) ?_;refine aj [] rfl (aG rfl (by omega)) rfl ?_;refine bg rfl ?_;refine ab [] (aD 0 rfl rfl rfl (bD hx)) rfl ?_;refine ai ⟨⟨[1],by decide,rfl⟩,?_⟩;refine dw [] rfl ?_;refine ai ?_;exact az [] (by decide) rfl (ay ⟨_,rfl,.inl ⟨by rw[hxv];rfl,hW⟩,rfl⟩)
theorem wG(n:Int):IntKind.i64.wrap ((BitVec.ofInt IntKind.i64.bits n&&& BitVec.ofInt IntKind.i64.bits 1).toNat:Int)=n%2:=by
 have h:(BitVec.ofInt IntKind.i64.bits n&&& BitVec.ofInt IntKind.i64.bits 1).toNat=(n%2).toNat:=by
  rw[BitVec.toNat_and,BitVec.toNat_ofInt,BitVec.toNat_ofInt];have e1:((1:Int)%((2^IntKind.i64.bits:Nat):Int)).toNat=1:=by decide
  rw[e1,Nat.and_one_is_mod];have e2:((2^IntKind.i64.bits:Nat):Int)=18446744073709551616:=by decide
  rw[e2];omega
 rw[h,cv (by omega)];omega
def cV(a:dI)(r:Nat):Int×Int:=if r%2=1 then (a.to,a.fr) else (a.fr,a.to)
def b8(N:aU)(r:Nat):Int×Int:=match N.arcs[r/2]? with
 |some a=>cV a r
 |none=>(0,0)
theorem gC(N:aU)(A:OA)(c b o:Nat)(hA:N.arcs≠[]->A=some ⟨b,o,none⟩)(hl:N.arcs.length<=2000)(r:Nat)(hr:r<2*N.arcs.length):
 Fn 89 [bp N A c,.int .i64 r] [] [.seg b o (arcs N.arcs)] λ v H'=>v=tj (b8 N r)/\H'=[]:=by
 obtain rfl:=hA (by intro h;rw[h] at hr;simp at hr);obtain⟨a,ha⟩:∃ a,N.arcs[r/2]?=some a:=⟨N.arcs[r/2]'(by omega),Gq (by omega)⟩;have he:b8 N r=cV a r:=by unfold b8;rw[ha]
 have hq:IntKind.i64.wrap ((r:Int).tdiv 2)=((r/2:Nat):Int):=by rw[cv (by rw[IV (by omega)];omega),IV (by omega)];omega
 rw[he];refine aJ Tryz.func89 rfl rfl λ w0=>?_;refine ad (aa ?_);refine bx (cs:=bI N (some ⟨b,o,none⟩) c) rfl rfl rfl (λ _=>rfl) λ p=>?_;refine ae [] rfl ?_;refine ad (ad (aa (ah [] rfl ?_)));refine aX 9 rfl (by omega) ?_;refine ah [2] rfl ?_;refine aI 11 (v':=.int .i64 ((r/2:Nat):Int)) rfl (Gt (Value.int .i64) hq) ?_;refine ab [2] (af 0 rfl) rfl ?_;refine ae [2] rfl ?_;refine aC rfl (λ h=>absurd h (by omega)) (λ _=>aq ?_);refine ad (aa (ah [] rfl ?_));refine ab [] (af 0 rfl) rfl ?_;refine ah [] rfl ?_;refine aI 20 (v':=.int .i64 ((r/2:Nat):Int)) rfl (Gt (Value.int .i64) hq) ?_;refine ab [] (e6 rfl (by omega)) rfl ?_;refine ab [] (a8 1 rfl rfl (eY ha)) rfl ?_;refine bo rfl rfl rfl (λ _=>rfl) λ q=>?_;refine aA 0 rfl [] rfl ?_;refine ai ?_;refine fj [(6,.pointer (some ⟨q,0,none⟩))] [blk q 37 [.int .i64 (cV a r).1,.int .i64 (cV a r).2,.int .i64 a.cap]] ?_ ?_
 ·refine ad (aa (ae [] rfl ?_));have hand:IntKind.i64.wrap ((BitVec.ofInt IntKind.i64.bits (r:Int)&&& BitVec.ofInt IntKind.i64.bits 1).toNat:Int)=(r:Int)%2:=wG r;refine aC rfl (λ h=>?_) (λ h=>aq ?_)
  ·rw[hand] at h;have e:cV a r=(a.to,a.fr):=by unfold cV;rw[if_pos (by omega)]
   rw[e];refine aa (ah [] rfl ?_);refine ab [] (af 0 rfl) rfl ?_;refine ah [] rfl ?_;refine ab [] (af 0 rfl) rfl ?_;refine ah [] rfl ?_;refine aA 0 rfl [] rfl ?_;refine ah [] rfl ?_;refine aA 0 rfl [] rfl ?_;refine ai ?_;exact⟨[0],⟨rfl,an⟩,by decide,rfl⟩
  ·rw[hand] at h;have e:cV a r=(a.fr,a.to):=by unfold cV;rw[if_neg (by omega)]
   rw[e];exact⟨[0],⟨rfl,an⟩,by decide,rfl⟩
 ·refine ad ?_;refine bu 6 (cZ [0,1,2,3,4,5]) [0] (by kernel_rfl) (by decide) rfl ?_;refine aB [] rfl ?_;refine aj [] rfl (af 0 rfl) rfl ?_;refine aB [] rfl ?_;refine aj [] rfl (af 0 rfl) rfl ?_;refine dw [] rfl ?_;refine ai ?_;exact az [] (by decide) rfl (ay ⟨_,rfl,rfl,rfl⟩)
def aP(ps:List (dI×Int)):LI:=ps.flatMap λ p=>[p.1.cap-p.2,p.2]
theorem cL(ps:List (dI×Int)):(aP ps).length=2*ps.length:=by
 induction ps with
 |nil=>rfl
 |cons p ps ih=>
  have e:aP (p::ps)=[p.1.cap-p.2,p.2]++aP ps:=by simp[aP]
  rw[e,Gx,ih];simp;omega
theorem vV{ps:List (dI×Int)}{k:Nat}{p:dI×Int}(h:ps[k]?=some p):aP (ps.take (k+1))=aP (ps.take k)++[p.1.cap-p.2,p.2]:=by
 rw[GO,h];simp[aP]
theorem mH(N:aU)(hN:N.Fits)(hR:N.Right)(A:OA)(c b o:Nat)(hA:N.arcs≠[]->A=some ⟨b,o,none⟩)(f:LI)(F:OA)(cf bf of:Nat)(hF:f≠[]->F=some ⟨bf,of,none⟩)(hf:∀ x∈f,dn x)(hfl:f.length*8<=140737488351232):
 Fn 88 [bp N A c,.slice F f.length cf] [] [.seg b o (arcs N.arcs),.seg bf of (ax f)] λ v H'=>
  (aK N f/\∃ A' c',v=.tuple #[.slice A' (2*N.arcs.length) c',.int .i64 0]/\H'=[.own (.slice A' (2*N.arcs.length) c') 2 1 (2*N.arcs.length) (ax (aP (N.arcs.zip f)))])\/
  (¬ aK N f/\v=.tuple #[.slice none 0 0,.int .i64 (en N f)]/\H'=[]):=by
 refine aJ Tryz.func88 rfl rfl λ w0=>?_;refine ad (aa ?_);refine bx (cs:=bI N A c) rfl rfl rfl (λ _=>rfl) λ p=>?_;refine ae [] rfl ?_;refine ad (ad (aa ?_));refine ab [] (v:=bp N A c) (af 0 rfl) rfl ?_;refine ah [] rfl ?_;refine ap [] (rS N hN hR A c b o hA f F cf bf of hF hf hfl) rfl (by kernel_rfl) ⟨⟨1,_,by simp,rfl,ak _ _ _,av⟩,⟨2,_,by simp,rfl,ak _ _ _,av⟩,an⟩ (λ _=>rfl) ?_;rintro v H' ⟨rfl,rfl⟩;refine⟨rfl,?_⟩;refine ae [] rfl ?_;refine ad (aa (ae [] rfl ?_));refine aC rfl (λ h=>?_) (λ h=>aq ?_)
 ·refine ad (aa (ae [] rfl ?_));refine az [] (by decide) rfl (ay ⟨_,rfl,.inr ⟨λ hf=>h (cU.2 hf),rfl,rfl⟩⟩)
 have hW:aK N f:=cU.1 (GK.1 h);have hlen:=hW.len;have hl2:=hR.len;refine ad (aa (ah [] rfl ?_));refine aI 18 (v':=.int .i64 ((2*f.length:Nat):Int)) rfl (Gt (Value.int .i64) ((cv (n:=2*(f.length:Int)) (by omega)).trans (by omega))) ?_;refine cX (n:=0) (c:=2*f.length) rfl rfl rfl rfl rfl rfl (by omega) (by omega) (by omega) (λ _=>rfl) λ g=>?_;refine ae [] rfl ?_;refine ad (ad (aa (ae [] rfl ?_)));refine au ?_
 refine bO (σ:=Nat×OA×Nat) (λ s=>[(22,.int .i64 s.1),(21,.int .i64 f.length),(20,.slice F f.length cf),(7,.slice s.2.1 (2*s.1) s.2.2),(2,.pointer (some ⟨p,0,none⟩))])
  (λ s=>[.own (.slice s.2.1 (2*s.1) s.2.2) 2 1 (2*s.1) (ax (aP ((N.arcs.zip f).take s.1))),blk p 33 (bI N A c),.seg b o (arcs N.arcs),.seg bf of (ax f)]) (λ s=>s.1<=f.length) (λ s=>f.length-s.1)
  (0,some ⟨g,0,none⟩,2*f.length) [0,1,2,3] ⟨rfl,rfl,rfl,rfl,rfl,an⟩ (by decide) ?_ (GB _) ?_
 ·rw[show made [Value.int .i64 0] (0*1)=[] from GM.1 (i7 _ _)];show bU _ _=some [.own (.slice (some ⟨g,0,none⟩) 0 (2*f.length)) 2 1 0 (ax (aP ((N.arcs.zip f).take 0))),blk p 33 (bI N A c),.seg b o (arcs N.arcs),.seg bf of (ax f)];rw[List.take_zero];rfl
 rintro⟨k,A1,c1⟩ hk;simp only at hk ⊢;refine ad (aa (ae [] rfl ?_));refine ad (aC rfl (λ hlt=>aq ?_) (λ hge=>bc ?_))
 ·have hlt:k<f.length:=by omega
  obtain rfl:=hF (by rintro rfl;simp at hlt)
  obtain rfl:=hA (by intro h;have h0:N.arcs.length=0:=by rw[h];rfl
                     omega)
  obtain⟨x,hx⟩:∃ x,f[k]?=some x:=⟨f[k],Gq hlt⟩;obtain⟨a,ha⟩:∃ a,N.arcs[k]?=some a:=⟨N.arcs[k],Gq (by omega)⟩;obtain⟨_,_,hcap⟩:=eO ha;have hz:(N.arcs.zip f)[k]?=some (a,x):=by simp[G7,ha,hx]
  have hb:=hW.all _ (Gu hz);have hB:=(hN.arc a (Gu ha)).2.2;simp only at hb;unfold dn at hB;refine ad (au ?_);refine ad (aa (ah [] rfl ?_));refine ab [] (bR rfl hlt) rfl ?_;refine ab [] (a8 3 rfl rfl (bD hx)) rfl ?_;refine ae [] rfl ?_;refine aa (ah [] rfl ?_);refine ab [] (af 1 rfl) rfl ?_;refine ah [] rfl ?_;refine ab [] (e6 rfl (by omega)) rfl ?_;refine ah [] rfl ?_;refine ab [] (a8 2 rfl rfl hcap) rfl ?_;refine ah [] rfl ?_;refine aI 35 (v':=.int .i64 (a.cap-x)) rfl (Gt (Value.int .i64) (cv (by omega))) ?_;refine bF rfl rfl rfl rfl rfl rfl rfl (λ _=>rfl) λ g2=>?_;refine bv (n:=2*k) (m:=2) (off:=0) (news:=[.int .i64 (a.cap-x),.int .i64 x]) 1 0 rfl rfl rfl rfl rfl rfl (by decide) rfl rfl (aF g2 _ _ (0,0)) (λ _=>rfl) rfl rfl (by omega) (by omega) (λ _ _=>rfl) λ A2 c2=>?_;refine ae [] rfl ?_;refine aa (ae [] rfl ?_);refine⟨(k+1,A2,c2),[1,2,3,4],⟨?_,rfl,rfl,rfl,rfl,an⟩,by decide,?_,by simp only;omega,by simp only;omega⟩
  ·show some (Value.int .i64 (IntKind.i64.wrap ((k:Int)+1)))=_;rw[cv (by omega)];rfl
  ·simp only[vV hz];rw[show ax (aP ((N.arcs.zip f).take k)++[a.cap-x,x])=ax (aP ((N.arcs.zip f).take k))++[.int .i64 (a.cap-x),.int .i64 x] by simp[ax]];rfl
 ·have hk':k=N.arcs.length:=by omega
  subst hk';rw[Hr (by simp;omega)];refine ad (aa (ae [] rfl ?_));refine az [0] (by decide) rfl (ay ⟨_,rfl,.inl ⟨hW,A1,c1,rfl,rfl⟩⟩)
inductive kL (N:aU) (rm:LI) (least:Int):Int->Prop
 |src:kL N rm least N.src
 |step (u:Int) (r:Nat):kL N rm least u->r<rm.length->(b8 N r).1=u->least<=rm.getD r 0->kL N rm least (b8 N r).2
theorem fG{N:aU}(hR:N.Right){r:Nat}(hr:r<2*N.arcs.length):(1<=(b8 N r).1/\(b8 N r).1<=N.nodes)/\(1<=(b8 N r).2/\(b8 N r).2<=N.nodes):=by
 obtain⟨a,ha⟩:∃ a,N.arcs[r/2]?=some a:=⟨N.arcs[r/2]'(by omega),Gq (by omega)⟩;have h:=hR.arc a (Gu ha);unfold b8;rw[ha];unfold cV;simp only;split<;>exact⟨by omega,by omega⟩
def tr(N:aU)(k:Nat)(v:Nat):LI:=((List.range k).filter λ (r:Nat)=>decide ((b8 N r).1=(v:Int))).map λ (r:Nat)=>(r:Int)
theorem xi(N:aU)(k v:Nat):tr N (k+1) v=tr N k v++(if (b8 N k).1=(v:Int) then [(k:Int)] else []):=by
 unfold tr;rw[Ir,Im,GX]
 congr 1
 by_cases h:(b8 N k).1=(v:Int)<;>simp[h]
theorem lh(N:aU)(k v:Nat):(tr N k v).length<=k:=by
 unfold tr;rw[GA];exact HG (HI _ _) (by simp)
theorem r6{N:aU}{k v:Nat}{x:Int}:x∈tr N k v↔∃ r:Nat,r<k/\(b8 N r).1=(v:Int)/\x=r:=by
 unfold tr;simp only[GR,Ia,Hm,G3]
 constructor
 ·rintro⟨r,⟨h1,h2⟩,rfl⟩;exact⟨r,h1,h2,rfl⟩
 ·rintro⟨r,h1,h2,rfl⟩;exact⟨r,⟨h1,h2⟩,rfl⟩
structure DS where
 met:LB
 Aw:OA
 cw:Nat
 wait:LI
 pos:LN
 vals:LV_
def zJ(N:aU)(rm:LI)(least:Int)(met:LB)(r:Int):Prop:=rm.getD r.toNat 0<least\/∃ t:Nat,(b8 N r.toNat).2=t/\met[t]?=some true
structure sG (N:aU) (rm:LI) (least:Int) (rows:List d9) (n s0:Nat) (gv:Nat->Nat) (s:DS):Prop where
 ml:s.met.length=n+1
 vl:s.vals.length=n+1
 pl:s.pos.length=n+1
 sound:∀ v:Nat,s.met[v]?=some true->v<=n/\kL N rm least v
 src:s.met[s0]?=some true
 wait:∀ x∈s.wait,∃ v:Nat,x=v/\v<=n/\s.met[v]?=some true
 done:∀ (v:Nat) (row:d9) (q:Nat),rows[v]?=some row->s.pos[v]?=some q->q<=row.l.length/\∀ (j:Nat) (r:Int),j<q->row.l[j]?=some r->zJ N rm least s.met r
 full:∀ v:Nat,s.met[v]?=some true->(v:Int)∉s.wait->∀ row,rows[v]?=some row->∀ r∈row.l,zJ N rm least s.met r
 wl:s.wait.length+s.met.count false<=n+1
 val:∀ (v:Nat) (row:d9) (q:Nat),rows[v]?=some row->s.pos[v]?=some q->∃ A' c',s.vals[v]?=some (.slice A' (row.l.length-q) c')/\row.l.length-q<=c'/\(0<row.l.length-q->A'=some ⟨gv v,q,none⟩)
theorem jN{l:LB}{t v:Nat}(h:l[v]?=some true):(l.set t true)[v]?=some true:=by
 by_cases e:t=v
 ·subst e;rw[GH (Gv.1 h).1]
 ·rw[GJ e];exact h
theorem zJ.mono{N:aU}{rm:LI}{least:Int}{met:LB}{r:Int}(t:Nat)(h:zJ N rm least met r):zJ N rm least (met.set t true) r:=
 h.imp id λ ⟨u,h1,h2⟩=>⟨u,h1,jN h2⟩
theorem lm:∀ (l:LB) (t:Nat),l[t]?=some false->(l.set t true).count false+1=l.count false
 |[],t,h=>by simp at h
 |b::l,0,h=>by simp at h;subst h;simp
 |b::l,t+1,h=>by
  have:=lm l t (by simpa using h);simp only[List.set_cons_succ,List.count_cons];omega
theorem sG.push{N:aU}{rm:LI}{least:Int}{rows:List d9}{n s0:Nat}{gv:Nat->Nat}{s:DS}(h:sG N rm least rows n s0 gv s){v q i t r:Nat}{row:d9}(hv:s.met[v]?=some true)(hrow:rows[v]?=some row)
 (hall:∀ (j:Nat) (r:Int),j<q+i->row.l[j]?=some r->zJ N rm least s.met r) (hr:row.l[q+i]?=some (r:Int)) (hu:(b8 N r).1=(v:Int)) (ht:(b8 N r).2=(t:Int)) (htn:t<=n) (hrm:r<rm.length) (hge:least<=rm.getD r 0) (hmf:s.met[t]?=some false)
 {A':OA} {c':Nat} (hc:row.l.length-(q+i+1)<=c') (hA:0<row.l.length-(q+i+1)->A'=some ⟨gv v,q+i+1,none⟩) (Aw:OA) (cw:Nat):
 sG N rm least rows n s0 gv ⟨s.met.set t true,Aw,cw,s.wait++[(t:Int)],s.pos.set v (q+i+1),s.vals.set v (.slice A' (row.l.length-(q+i+1)) c')⟩:=by
 have hR:=(h.sound v hv).2;have hvn:=(h.sound v hv).1;have htl:t<s.met.length:=by rw[h.ml];omega
 have hnew:zJ N rm least (s.met.set t true) (r:Int):=.inr ⟨t,by rw[GW];exact ht,by rw[GH htl]⟩;have hlt:q+i<row.l.length:=(Gv.1 hr).1;refine⟨by simp[h.ml],by simp[h.vl],by simp[h.pl],λ u hu'=>?_,jN h.src,λ x hx=>?_,λ u row' q' hr' hq'=>?_,λ u hu' hnot row' hr'=>?_,by simp only[Gx,G2];have:=lm s.met t hmf;have:=h.wl;omega,λ u row' q' hr' hq'=>?_⟩
 ·simp only at hu';by_cases e:t=u
  ·subst e;have:=kL.step (N:=N) (rm:=rm) (least:=least) v r hR hrm hu hge;rw[ht] at this;exact⟨htn,this⟩
  ·rw[GJ e] at hu';exact h.sound u hu'
 ·rcases GE.1 hx with hx|hx
  ·obtain⟨u,h1,h2,h3⟩:=h.wait x hx;exact⟨u,h1,h2,jN h3⟩
  ·exact⟨t,Gy.1 hx,htn,by simp only;rw[GH htl]⟩
 ·simp only at hq';by_cases e:v=u
  ·subst e;rw[List.getElem?_set_self (by rw[h.pl];omega)] at hq';simp only[Option.some.injEq] at hq';subst hq';rw[hrow] at hr';simp only[Option.some.injEq] at hr';subst hr';refine⟨by omega,fun j x hj hx=>?_⟩;by_cases e2:j=q+i
   ·subst e2;rw[hr] at hx;simp only[Gs] at hx;subst hx;exact hnew
   ·exact (hall j x (by omega) hx).mono t
  ·rw[GJ e] at hq';obtain⟨h1,h2⟩:=h.done u row' q' hr' hq';exact⟨h1,λ j x hj hx=>(h2 j x hj hx).mono t⟩
 ·simp only at hu' hnot;have hne:t≠u:=λ e=>hnot (by rw[<- e];simp);rw[GJ hne] at hu';intro x hx;exact (h.full u hu' (λ hm=>hnot (GE.2 (.inl hm))) row' hr' x hx).mono t
 ·simp only at hq' ⊢;by_cases e:v=u
  ·subst e;rw[GH (by rw[h.pl];omega)] at hq';simp only[Gs] at hq';subst hq';rw[hrow] at hr';simp only[Gs] at hr';subst hr';exact⟨A',c',by rw[GH (by rw[h.vl];omega)],hc,hA⟩
  ·rw[GJ e] at hq';rw[GJ e];exact h.val u row' q' hr' hq'
theorem sG.pop{N:aU}{rm:LI}{least:Int}{rows:List d9}{n s0:Nat}{gv:Nat->Nat}{s:DS}(h:sG N rm least rows n s0 gv s){v:Nat}{w:LI}{row:d9}(hw:s.wait=w++[(v:Int)])(hrow:rows[v]?=some row)
 (hall:∀ r∈row.l,zJ N rm least s.met r) (Aw:OA) (cw:Nat):sG N rm least rows n s0 gv ⟨s.met,Aw,cw,w,s.pos,s.vals⟩:=by
 refine⟨h.ml,h.vl,h.pl,h.sound,h.src,λ x hx=>h.wait x (by rw[hw];simp[hx]),h.done,λ u hu hnot row' hr'=>?_,by have:=h.wl;rw[hw,Gx] at this;simp only;omega,h.val⟩;by_cases e:u=v
 ·subst e;rw[hrow] at hr';simp only[Gs] at hr';subst hr';exact hall
 ·exact h.full u hu (by rw[hw];intro hm;rcases List.mem_append.1 hm with hm|hm;· exact hnot hm
                        ·have:=Gy.1 hm;omega) row' hr'
theorem sG.final{N:aU}{rm:LI}{least:Int}{rows:List d9}{n s0:Nat}{gv:Nat->Nat}{s:DS}(h:sG N rm least rows n s0 gv s)(hw:s.wait=[])(hs:N.src=s0)(hrows:rows.length=n+1)(htr:∀ (v:Nat) (r:d9),rows[v]?=some r->r.l=tr N rm.length v)(hpos:∀ r,r<rm.length->∃ k:Nat,(b8 N r).1=k)
 (v:Nat):s.met[v]?=some true↔v<=n/\kL N rm least v:=by
 refine⟨h.sound v,λ ⟨_,hr⟩=>?_⟩
 have key:∀ x:Int,kL N rm least x->∀ v:Nat,x=v->s.met[v]?=some true:=by
  intro x hx
  induction hx with
  |src=>intro v e;rw[hs] at e;have:s0=v:=by omega
        subst this;exact h.src
  |step u r _ hlt hu hge ih=>
   intro v e;obtain⟨k,hk⟩:=hpos r hlt;rw[hu] at hk;have hm:=ih k hk;have hkn:=(h.sound k hm).1;obtain⟨row,hrow⟩:∃ row,rows[k]?=some row:=⟨rows[k]'(by omega),Gq (by omega)⟩;have hmem:(r:Int)∈row.l:=by rw[htr k row hrow];exact r6.2 ⟨r,hlt,by rw[hu,hk],rfl⟩
   rcases h.full k hm (by rw[hw];simp) row hrow _ hmem with h1|⟨t,h1,h2⟩
   ·rw[GW] at h1;omega
   ·rw[Int.toNat_natCast] at h1;have:t=v:=by omega
    rw[<- this];exact h2
 exact key v hr v rfl
def Ec(N:aU)(f:LI)(least:Int)(n:Nat)(v:Value)(H':Heap):Prop:=
 (aK N f/\1<=least/\∃ (l:LB) (g:Nat),l.length=n+1/\(∀ v:Nat,l[v]?=some true↔v<=n/\kL N (aP (N.arcs.zip f)) least v)/\v=.tuple #[.slice (some ⟨g,0,none⟩) (n+1) (n+1),.int .i64 0]/\
  H'=[.own (.slice (some ⟨g,0,none⟩) (n+1) (n+1)) 4 1 (n+1) (eb l)])\/
 (¬ aK N f/\v=.tuple #[.slice none 0 0,.int .i64 (en N f)]/\H'=[])\/(aK N f/\least<1/\v=.tuple #[.slice none 0 0,.int .i64 3]/\H'=[])
set_option maxHeartbeats 1000000 in
theorem tz(N:aU)(hN:N.Fits)(hR:N.Right)(A:OA)(c b o:Nat)(hA:N.arcs≠[]->A=some ⟨b,o,none⟩)(f:LI)(F:OA)(cf bf of:Nat)(hF:f≠[]->F=some ⟨bf,of,none⟩)(hf:∀ x∈f,dn x)(hfl:f.length*8<=140737488351232)(least:Int)(_hl:dn least)
 (n:Nat) (hn:N.nodes=n):Fn 46 [bp N A c,.slice F f.length cf,.int .i64 least] [] [.seg b o (arcs N.arcs),.seg bf of (ax f)] (Ec N f least n):=by
 have hnn:=hR.nodes;have hl2:=hR.len;refine aJ Tryz.func46 rfl rfl λ w0=>?_;refine ad (aa ?_);refine bx (cs:=bI N A c) rfl rfl rfl (λ _=>rfl) λ p=>?_;refine ae [] rfl ?_;refine xe ?_;refine ad (aa ?_);refine ab [] (v:=bp N A c) (af 0 rfl) rfl ?_;refine ah [] rfl ?_;refine ap [] (mH N hN hR A c b o hA f F cf bf of hF hf hfl) rfl (by kernel_rfl) ⟨⟨1,_,by simp,rfl,ak _ _ _,av⟩,⟨2,_,by simp,rfl,ak _ _ _,av⟩,an⟩ (λ _=>rfl) ?_;rintro v H' (⟨hW,A1,c1,rfl,rfl⟩|⟨hW,rfl,rfl⟩)
 case inr=>
  refine⟨rfl,?_⟩;refine ae [] rfl ?_;refine ad (au (ad (aa (ae [] rfl ?_))));refine aC rfl (λ h=>?_) (λ h=>absurd (cU.1 (GK.1 h)) hW);refine ad (aa (ae [] rfl ?_));refine az [] (by decide) rfl (ay ⟨_,rfl,.inr (.inl ⟨hW,rfl,rfl⟩)⟩)
 refine⟨rfl,?_⟩;refine ae [] rfl ?_;refine ad (au (ad (aa (ae [] rfl ?_))));refine aC rfl (λ h=>absurd rfl h) (λ _=>?_);refine ad (aa (ae [] rfl ?_));refine aC rfl (λ h=>?_) (λ hle=>aq ?_)
 ·refine ad (aa (ae [] rfl ?_));refine az [] (by decide) rfl (ay ⟨_,rfl,.inr (.inr ⟨hW,h,rfl,rfl⟩)⟩)
 obtain⟨rm,hrm⟩:∃ rm,rm=aP (N.arcs.zip f):=⟨_,rfl⟩;have hrl:rm.length=2*N.arcs.length:=by rw[hrm,cL,HS,hW.len,Ib]
 rw[<- hrm];refine ad (aa (ah [] rfl ?_));refine ab [] (af 1 rfl) rfl ?_;refine ah [] rfl ?_;refine aI 36 (v':=.int .i64 ((n+1:Nat):Int)) rfl (Gt (Value.int .i64) ((cv (n:=N.nodes+1) (by omega)).trans (by omega))) ?_;refine cX (n:=n+1) (c:=n+1) rfl rfl rfl rfl rfl rfl (by omega) (by omega) (by omega) (λ _=>rfl) λ g=>?_;refine ae [] rfl ?_;refine ad (ad (aa (ae [] rfl ?_)));refine au ?_;rw[show made [Value.slice none 0 0] ((n+1)*1)=(List.replicate (n+1) dv).map cz by rw[dh,G8,HT];rfl];refine bJ (aH.nils 3 (n+1)) ?_
 refine b6 (σ:=Nat×List d9) (λ s=>[(40,.int .i64 s.1),(39,.int .i64 ((2*N.arcs.length:Nat):Int)),(38,.slice A1 (2*N.arcs.length) c1),(10,.slice (some ⟨g,0,none⟩) (n+1) (n+1)),(8,.slice A1 (2*N.arcs.length) c1),(3,.pointer (some ⟨p,0,none⟩)),(2,.int .i64 least)])
  (λ s=>[.own (.slice (some ⟨g,0,none⟩) (n+1) (n+1)) 23 1 (n+1) (s.2.map cz),.own (.slice A1 (2*N.arcs.length) c1) 2 1 (2*N.arcs.length) (ax rm),blk p 33 (bI N A c),.seg b o (arcs N.arcs),.seg bf of (ax f)]++s.2.map (aZ 3))
  (λ s=>s.1<=2*N.arcs.length/\s.2.length=n+1/\∀ (v:Nat) (r:d9),s.2[v]?=some r->r.l=tr N s.1 v) (λ s=>2*N.arcs.length-s.1)
  (0,List.replicate (n+1) dv) ⟨rfl,rfl,rfl,rfl,rfl,rfl,rfl,an⟩ aH.refl ⟨GB _,by simp,λ v r h=>?_⟩ ?_
 ·rw[GN] at h;split at h
  ·simp only[Gs] at h;subst h;rfl
  ·cases h
 rintro⟨k,rows⟩ ⟨hk,hrows,htr⟩;simp only at hk hrows htr ⊢;refine ad (aa (ae [] rfl ?_));refine ad (aC rfl (λ hlt=>aq ?_) (λ hge=>bc ?_))
 ·have hlt:k<2*N.arcs.length:=by omega
  have he:=fG hR hlt;obtain⟨v,hv⟩:∃ v:Nat,(b8 N k).1=v:=⟨(b8 N k).1.toNat,by omega⟩;have hvn:v<rows.length:=by omega
  obtain⟨row,hrow⟩:∃ r,rows[v]?=some r:=⟨rows[v],Gq hvn⟩;have hrl':=htr v row hrow;have hlen:=lh N k v;rw[<- hrl'] at hlen;refine ad (au ?_);refine ad (aa (ae [] rfl ?_));refine ad (aa ?_);refine ab [] (v:=bp N A c) (af 2 rfl) rfl ?_;refine ah [] rfl ?_;refine ap [] (gC N A c b o hA hl2 k hlt) rfl (by kernel_rfl) ⟨⟨3,_,by simp,rfl,ak _ _ _,av⟩,an⟩ (λ _=>rfl) ?_;rintro v' H' ⟨rfl,rfl⟩;refine⟨rfl,?_⟩;refine ae [] rfl ?_;refine a7 12 (v':=.int .i64 (v:Int)) rfl (Gt (Value.int .i64) hv) ?_;refine aa (ah [] rfl ?_);refine ab [] (aG rfl (by omega)) rfl ?_;refine ab [] (aD (v:=cz row) 0 rfl rfl rfl (show (rows.map cz)[v]?=some (cz row) by rw[GC,hrow];rfl)) rfl ?_;refine ah [] rfl ?_;refine bF rfl rfl rfl rfl rfl rfl rfl (λ _=>rfl) λ g2=>?_;show JL _ _ _ _ _ ([_,_,_,_,_,_]++rows.map (aZ 3));refine bY (aH.front (i:=v) (c:=aZ 3 row) (by rw[GC,hrow];rfl)) ?_;refine bv (n:=row.l.length) (m:=1) (off:=0) (news:=ax [(k:Int)]) 0 1 rfl rfl rfl rfl rfl rfl (by decide) rfl rfl (aF g2 _ _ (0,0)) (λ _=>rfl) rfl rfl (by omega) (by omega) (λ _ _=>rfl) λ A2 c2=>?_;rw[show row.l.length+1=(row.l++[(k:Int)]).length by simp,show ax row.l++ax [(k:Int)]=ax (row.l++[(k:Int)]) by simp[ax]];refine ab [] (aG rfl (by omega)) rfl ?_;refine aO 2 rfl rfl rfl rfl (df rfl rfl rfl (by rw[GA];omega)) [] rfl ?_;refine ai ?_;refine aa (ae [] rfl ?_);refine⟨(k+1,rows.set v ⟨A2,c2,row.l++[(k:Int)]⟩),⟨?_,rfl,rfl,rfl,rfl,rfl,rfl,an⟩,?_,⟨by simp only;omega,by simp only[Ha];omega,λ u r hu=>?_⟩,by simp only;omega⟩
  ·show some (Value.int .i64 (IntKind.i64.wrap ((k:Int)+1)))=_;rw[cv (by omega)];rfl
  ·simp only[In];refine aH.trans (aH.sub (List.Sublist.cons_cons _ (G9 _ _))) (aH.back (A:=[_,_,_,_,_]) (by rw[GA];exact hvn))
  ·rw[xi];by_cases huv:v=u
   ·subst huv;rw[GH hvn] at hu;simp only[Gs] at hu;rw[<- hu,if_pos hv,hrl']
   ·rw[GJ huv] at hu;rw[if_neg (by omega),G5];exact htr u r hu
 ·have hk':k=2*N.arcs.length:=by omega
  subst hk'
  have hrowA0:∀ w,cO w0 [] w ([.own (.slice (some ⟨g,0,none⟩) (n+1) (n+1)) 23 1 (n+1) (rows.map cz),.own (.slice A1 (2*N.arcs.length) c1) 2 1 (2*N.arcs.length) (ax rm),blk p 33 (bI N A c),.seg b o (arcs N.arcs),.seg bf of (ax f)]++rows.map (aZ 3))->
   ∀ v:Nat,∃ gv:Nat,∀ row,rows[v]?=some row->row.l.length<=row.c/\(ax row.l≠[]->row.A=some ⟨gv,0,none⟩):=by
   intro w hw v
   cases hv:rows[v]? with
   |none=>exact⟨0,λ row h=>by cases h⟩
   |some row=>
    obtain⟨_,h2,h3,h4⟩:=aW (X:=⟨w0,[],⟨0,[]⟩⟩) (v+5) (show _=some (aZ 3 row) by show (rows.map (aZ 3))[v]?=_;rw[GC,hv];rfl) w hw;obtain⟨gv,hgv⟩:=bL h3 h4;exact⟨gv,λ row' h=>by simp only[Gs] at h;subst h;exact⟨h2,hgv⟩⟩
  refine bh hrowA0 λ hrowA=>?_;obtain⟨gv,hgv⟩:∃ gv:Nat->Nat,∀ (v:Nat) (row:d9),rows[v]?=some row->row.l.length<=row.c/\(ax row.l≠[]->row.A=some ⟨gv v,0,none⟩):=⟨λ v=>Classical.choose (hrowA v),λ v=>Is (hrowA v)⟩;refine bh (aW 1 rfl) λ ⟨_,_,hA1,_⟩=>?_
  clear hrowA hrowA0
  have hsrc:=hR.src;obtain⟨s0,hs0⟩:∃ s:Nat,N.src=s:=⟨N.src.toNat,by omega⟩;refine ad (aa (ah [] rfl ?_));refine ab [] (af 2 rfl) rfl ?_;refine ah [] rfl ?_;refine aI 62 (v':=.int .i64 ((n+1:Nat):Int)) rfl (Gt (Value.int .i64) ((cv (n:=N.nodes+1) (by omega)).trans (by omega))) ?_;refine cX (n:=n+1) (c:=n+1) rfl rfl rfl rfl rfl rfl (by omega) (by omega) (by omega) (λ _=>rfl) λ gm=>?_;refine ae [] rfl ?_;rw[qr];refine ad (aa (ah [] rfl ?_));refine ab [] (af 3 rfl) rfl ?_;refine aI 66 (v':=.int .i64 (s0:Int)) rfl (Gt (Value.int .i64) hs0) ?_;refine ab [] (aG rfl (by omega)) rfl ?_;refine aO 0 rfl rfl rfl rfl (nK rfl (by simp;omega)) [] rfl ?_;refine ai ?_;refine ad (aa (ah [] rfl ?_));refine ab [] (af 3 rfl) rfl ?_;refine aI 69 (v':=.int .i64 (s0:Int)) rfl (Gt (Value.int .i64) hs0) ?_;refine bF rfl rfl rfl rfl rfl rfl rfl (λ _=>rfl) λ gw=>?_;refine ae [] rfl ?_;refine ad ?_;refine w9 ?_;refine bJ (λ w h=>h.blkOwn (sz:=1) (n:=1) rfl (by decide)) ?_;refine ad (au ?_);have hgl:∀ (v:Nat) (row:d9),rows[v]?=some row->row.l=tr N rm.length v:=λ v row h=>by rw[hrl];exact htr v row h
  refine b6 (σ:=DS) (λ s=>[(15,.slice s.Aw s.wait.length s.cw),(14,.slice (some ⟨gm,0,none⟩) (n+1) (n+1)),(10,.slice (some ⟨g,0,none⟩) (n+1) (n+1)),(8,.slice A1 (2*N.arcs.length) c1),(3,.pointer (some ⟨p,0,none⟩)),(2,.int .i64 least)])
   (λ s=>[.own (.slice s.Aw s.wait.length s.cw) 3 1 s.wait.length (ax s.wait),.own (.slice (some ⟨gm,0,none⟩) (n+1) (n+1)) 4 1 (n+1) (eb s.met),.own (.slice (some ⟨g,0,none⟩) (n+1) (n+1)) 23 1 (n+1) s.vals,
    .own (.slice A1 (2*N.arcs.length) c1) 2 1 (2*N.arcs.length) (ax rm),blk p 33 (bI N A c),.seg b o (arcs N.arcs),.seg bf of (ax f)]++rows.map (aZ 3))
   (λ s=>sG N rm least rows n s0 gv s) (λ s=>2*s.met.count false+s.wait.length)
   ⟨(List.replicate (n+1) false).set s0 true,some ⟨gw,0,none⟩,1,[(s0:Int)],List.replicate (n+1) 0,rows.map cz⟩ ⟨rfl,rfl,rfl,rfl,rfl,rfl,an⟩ aH.refl ?_ ?_
  ·have hget:∀ v:Nat,((List.replicate (n+1) false).set s0 true)[v]?=some true->v=s0:=by
    intro v hv;by_cases e:s0=v
    ·exact e.symm
    ·rw[GJ e,GN] at hv;split at hv<;>simp at hv
   have hs0m:((List.replicate (n+1) false).set s0 true)[s0]?=some true:=GH (by simp;omega);refine⟨by simp,by simp[hrows],by simp,λ v hv=>?_,hs0m,λ x hx=>⟨s0,Gy.1 hx,by omega,hs0m⟩,λ v row q hr hq=>?_,λ v hv hnot row hr=>?_,?_,λ v row q hr hq=>?_⟩
   ·obtain rfl:=hget v hv;exact⟨by omega,hs0▸kL.src⟩
   ·have:q=0:=by
     simp only[GN] at hq;split at hq<;>simp at hq
     exact hq.symm
    subst this;exact⟨GB _,λ j r hj=>absurd hj (by omega)⟩
   ·obtain rfl:=hget v hv;exact absurd (by simp) hnot
   ·have:=lm (List.replicate (n+1) false) s0 (by rw[List.getElem?_replicate,if_pos (by omega)]);have h2:(List.replicate (n+1) false).count false=n+1:=by simp
    simp only[G2];omega
   ·have:q=0:=by
     simp only[GN] at hq;split at hq<;>simp at hq
     exact hq.symm
    subst this;refine⟨row.A,row.c,by simp only[GC,hr];rfl,by have:=(hgv v row hr).1;omega,λ hp=>(hgv v row hr).2 (λ h0=>?_)⟩;have:row.l.length=0:=by rw[<- bK,h0];rfl
    omega
  intro s hI;refine ad (ad (aa (ae [] rfl ?_)));refine aC rfl (λ hwp=>aq ?_) (λ hwp=>bc ?_)
  ·have hwl:0<s.wait.length:=by omega
   obtain⟨x,hx⟩:∃ x,s.wait[s.wait.length-1]?=some x:=⟨s.wait[s.wait.length-1]'(by omega),Gq (by omega)⟩;obtain⟨v,rfl,hvn,hvm⟩:=hI.wait x (Gu hx)
   have hwsplit:s.wait=s.wait.take (s.wait.length-1)++[(v:Int)]:=by
    have:=Hs (s.wait.length-1) s.wait
    have hd:s.wait.drop (s.wait.length-1)=[(v:Int)]:=by
     obtain⟨h1,h2⟩:=Gv.1 hx;rw[Hf h1,h2,List.drop_of_length_le (by omega)]
    rw[hd] at this;exact this.symm
   obtain⟨row,hrow⟩:∃ row,rows[v]?=some row:=⟨rows[v]'(by omega),Gq (by omega)⟩;have hrowlen:=lh N rm.length v;rw[<- hgl v row hrow] at hrowlen;obtain⟨q,hq⟩:∃ q,s.pos[v]?=some q:=⟨s.pos[v]'(by have:=hI.pl;omega),Gq (by have:=hI.pl;omega)⟩;obtain⟨A',c',hval,hcc,hAv⟩:=hI.val v row q hrow hq;obtain⟨hqle,hdone⟩:=hI.done v row q hrow hq;refine bh (aW 0 rfl) λ ⟨_,hwc,hAw,_⟩=>?_;obtain⟨gww,hAw⟩:=hAw hwl;have hwb:=hI.wl;refine au (ad (aa (ah [] rfl ?_)));refine aI 77 (v':=.int .i64 ((s.wait.length-1:Nat):Int)) rfl (Gt (Value.int .i64) ((cv (n:=(s.wait.length:Int)-1) (by omega)).trans (by omega))) ?_;refine ab [] (oy (b:=gww) (by rfl) (by rw[hAw];rfl) rfl rfl rfl (by omega)) rfl ?_;refine ab [] (dr (b:=gww) (off:=0) (i:=s.wait.length-1) (cs:=ax s.wait) (v:=.int .i64 (v:Int)) 0 rfl (by rw[GZ];rfl) rfl (aE (λ _=>hAw)) (dx hx)) rfl ?_;refine ae [] rfl ?_;refine ad (ad (aa (ah [] rfl ?_)));refine ab [] (aG rfl (by omega)) rfl ?_;refine ab [] (aD (v:=.slice A' (row.l.length-q) c') 2 rfl rfl rfl hval) rfl ?_;refine ae [] rfl ?_;refine au ?_
   refine b6 (σ:=Nat) (λ i=>[(85,.int .i64 i),(84,.int .i64 ((row.l.length-q:Nat):Int)),(83,.slice A' (row.l.length-q) c'),(16,.int .i64 (v:Int)),(15,.slice s.Aw s.wait.length s.cw),(14,.slice (some ⟨gm,0,none⟩) (n+1) (n+1)),(10,.slice (some ⟨g,0,none⟩) (n+1) (n+1)),(8,.slice A1 (2*N.arcs.length) c1),(3,.pointer (some ⟨p,0,none⟩)),(2,.int .i64 least)])
    (λ _=>[.own (.slice s.Aw s.wait.length s.cw) 3 1 s.wait.length (ax s.wait),.own (.slice (some ⟨gm,0,none⟩) (n+1) (n+1)) 4 1 (n+1) (eb s.met),.own (.slice (some ⟨g,0,none⟩) (n+1) (n+1)) 23 1 (n+1) s.vals,
     .own (.slice A1 (2*N.arcs.length) c1) 2 1 (2*N.arcs.length) (ax rm),blk p 33 (bI N A c),.seg b o (arcs N.arcs),.seg bf of (ax f)]++rows.map (aZ 3))
    (λ i=>i<=row.l.length-q/\∀ (j:Nat) (r:Int),j<q+i->row.l[j]?=some r->zJ N rm least s.met r) (λ i=>row.l.length-q-i)
    0 ⟨rfl,rfl,rfl,rfl,rfl,rfl,rfl,rfl,rfl,rfl,an⟩ aH.refl ⟨GB _,λ j r hj=>hdone j r (by omega)⟩ ?_
   rintro i ⟨hi,hscan⟩;refine ad (aa (ae [] rfl ?_));refine ad (aC rfl (λ hlt=>aq ?_) (λ hge=>bc ?_))
   ·have hlt:i<row.l.length-q:=by omega
    obtain rfl:=hAv (by omega);obtain⟨y,hy⟩:∃ y,row.l[q+i]?=some y:=⟨row.l[q+i]'(by omega),Gq (by omega)⟩;have hymem:=Gu hy;rw[hgl v row hrow] at hymem;obtain⟨r,hr,hru,rfl⟩:=r6.1 hymem;have hr2:r<2*N.arcs.length:=by omega
    have hin:=fG hR hr2;obtain⟨t,ht⟩:∃ t:Nat,(b8 N r).2=t:=⟨(b8 N r).2.toNat,by omega⟩;have htn:t<=n:=by omega
    obtain⟨x,hxr⟩:∃ x,rm[r]?=some x:=⟨rm[r],Gq hr⟩;have hxd:rm.getD r 0=x:=by rw[Gw,hxr];rfl
    obtain⟨bt,hbt⟩:∃ bt,s.met[t]?=some bt:=⟨s.met[t]'(by have:=hI.ml;omega),Gq (by have:=hI.ml;omega)⟩;obtain⟨gr,rfl⟩:=hA1 (by omega)
    have hrowne:ax row.l≠[]:=by
     intro h0;have:row.l.length=0:=by rw[<- bK,h0];rfl
     omega
    have hrA:=(hgv v row hrow).2 hrowne;refine ad (au ?_);refine ad (aa (ah [] rfl ?_));refine ab [] (bR rfl hlt) rfl ?_
    refine ab [] (dr (b:=gv v) (off:=q) (i:=i) (cs:=(ax row.l).drop q) (v:=.int .i64 (r:Int)) (c:=aZ 3 row) (v+7) rfl rfl (show (rows.map (aZ 3))[v]?=_ by rw[List.getElem?_map,hrow];rfl)
     (by have:=ep (aE (e:=3) (sz:=1) (n:=row.l.length) (cap:=row.c) (λ _=>hrA:ax row.l≠[]->row.A=some ⟨gv v,0,none⟩)) q;rw[GZ] at this;exact this)
     (by show ((ax row.l).drop q)[i]?=_;rw[Hu];exact dx hy)) rfl ?_
    refine ae [] rfl ?_;refine ad (aa ?_);refine ab [] (v:=bp N A c) (af 4 rfl) rfl ?_;refine ah [] rfl ?_;refine ap [] (gC N A c b o hA hl2 r hr2) rfl (by kernel_rfl) ⟨⟨5,_,by simp,rfl,ak _ _ _,av⟩,an⟩ (λ _=>rfl) ?_;rintro v' H' ⟨rfl,rfl⟩;refine⟨rfl,?_⟩;refine ae [] rfl ?_;refine a7 20 (v':=.int .i64 (t:Int)) rfl (Gt (Value.int .i64) ht) ?_;refine ad (aa (ah [] rfl ?_));refine ab [] (aG rfl (by omega)) rfl ?_;refine ab [] (aD 3 rfl rfl rfl (bD hxr)) rfl ?_;refine ah [] rfl ?_
    have hnext:zJ N rm least s.met (r:Int)->∀ (j:Nat) (z:Int),j<q+(i+1)->row.l[j]?=some z->zJ N rm least s.met z:=by
     intro hok j z hj hz;by_cases e:j=q+i
     ·subst e;rw[hy] at hz;simp only[Gs] at hz;rw[<- hz];exact hok
     ·exact hscan j z (by omega) hz
    by_cases hge:least<=x
    ·refine bd 102 rfl hge ?_;refine ah [6] rfl ?_;refine ab [6] (aG rfl (by omega)) rfl ?_;refine ab [6] (aD 1 rfl rfl rfl (show (eb s.met)[t]?=some (.bool bt) from fA hbt)) rfl ?_;refine ae [6] rfl ?_
     cases bt with
     |true=>
      refine bG rfl (aq ?_);refine aa (ae [] rfl ?_);refine⟨i+1,⟨?_,rfl,rfl,rfl,rfl,rfl,rfl,rfl,rfl,rfl,an⟩,aH.refl,⟨by omega,hnext (.inr ⟨t,by rw[GW];exact ht,hbt⟩)⟩,by omega⟩;show some (Value.int .i64 (IntKind.i64.wrap ((i:Int)+1)))=_;rw[cv (by omega)];rfl
     |false=>
      refine bi rfl ?_;refine ad (aa (ah [] rfl ?_));refine ab [] (aG rfl (by omega)) rfl ?_;refine aO 1 rfl rfl rfl rfl (nK rfl (by have:=hI.ml;omega)) [] rfl ?_;refine ai ?_;refine ad ?_;refine bu 15 (cZ [0,1,2,3,6,7,8,9,10,11,12]++[(4,false),(5,false)]++cZ [13,14]) [2] (by kernel_rfl) (by decide) rfl ?_;refine aB [] rfl ?_;refine aj [] rfl (aG rfl (by omega)) rfl ?_;refine aj [] rfl (aD (v:=.slice (some ⟨gv v,q,none⟩) (row.l.length-q) c') 0 rfl rfl rfl hval) rfl ?_;refine aB [] rfl ?_;refine eg 123 (v':=.int .i64 ((i+1:Nat):Int)) rfl (Gt (Value.int .i64) (cv (by omega))) ?_;refine aj [] rfl (dE rfl rfl rfl rfl rfl (by omega)) rfl ?_;refine eg 124 (v':=.slice (gj (some ⟨gv v,q,none⟩) c' (i+1) 1) (row.l.length-(q+i+1)) (c'-(i+1))) rfl (by congr 1;omega) ?_;refine bg rfl ?_;refine bF rfl rfl rfl rfl rfl rfl rfl (λ _=>rfl) λ gx=>?_;refine ai ⟨⟨[3],by decide,rfl⟩,?_⟩;refine bg rfl ?_;refine bv (n:=s.wait.length) (m:=1) (off:=0) (news:=ax [(t:Int)]) 1 0 rfl rfl rfl rfl rfl rfl (by decide) rfl rfl (aF gx _ _ (0,0)) (λ _=>rfl) rfl rfl (by omega) (by omega) (λ _ _=>rfl) λ A2 c2=>?_;refine ai ⟨⟨[3],by decide,rfl⟩,?_⟩;rw[show s.wait.length+1=(s.wait++[(t:Int)]).length by simp,show ax s.wait++ax [(t:Int)]=ax (s.wait++[(t:Int)]) by simp[ax]];refine aB [] rfl ?_;refine aj [] rfl (aG rfl (by omega)) rfl ?_;refine bq ?_;refine aO 3 rfl rfl rfl rfl (df rfl rfl rfl (by have:=hI.vl;omega)) [] rfl ?_;refine ai ?_;refine bc ?_;refine⟨⟨s.met.set t true,A2,c2,s.wait++[(t:Int)],s.pos.set v (q+i+1),s.vals.set v (.slice (gj (some ⟨gv v,q,none⟩) c' (i+1) 1) (row.l.length-(q+i+1)) (c'-(i+1)))⟩,⟨rfl,rfl,rfl,rfl,rfl,rfl,an⟩,aH.sub (G9 _ _),?_,?_⟩
      ·refine hI.push hvm hrow hscan hy hru ht htn hr (by rw[hxd];exact hge) hbt (by omega) (λ hp=>?_) A2 c2;have:=fT (A:=some ⟨gv v,q,none⟩) (c:=c') (l:=i+1) (n:=row.l.length-q) (sz:=1) (λ _=>rfl) hcc (by omega);rw[this];simp[He]
      ·have:=lm s.met t hbt;simp only[Gx,G2];omega
    ·refine aX 102 rfl hge ?_;refine ae [6] rfl ?_;refine bG rfl (aq ?_);refine aa (ae [] rfl ?_);refine⟨i+1,⟨?_,rfl,rfl,rfl,rfl,rfl,rfl,rfl,rfl,rfl,an⟩,aH.refl,⟨by omega,hnext (.inl (by rw[GW,hxd];omega))⟩,by omega⟩;show some (Value.int .i64 (IntKind.i64.wrap ((i:Int)+1)))=_;rw[cv (by omega)];rfl
   ·have hall:∀ z∈row.l,zJ N rm least s.met z:=by
     intro z hz;obtain⟨j,hj,rfl⟩:=Hj.1 hz;exact hscan j _ (by omega) (Gq hj)
    refine aa (ah [] rfl ?_);refine aI 130 (v':=.int .i64 ((s.wait.length-1:Nat):Int)) rfl (Gt (Value.int .i64) ((cv (n:=(s.wait.length:Int)-1) (by omega)).trans (by omega))) ?_;refine ab [] (gF rfl rfl rfl rfl rfl (by omega)) rfl ?_;refine zn (m:=s.wait.length-1) 0 rfl (by omega) ?_;rw[G8,show (ax s.wait).take (s.wait.length-1)=ax (s.wait.take (s.wait.length-1)) by simp[ax]];refine ae [] rfl ?_;have hlw:(s.wait.take (s.wait.length-1)).length=s.wait.length-1:=by rw[GV];omega
    refine⟨⟨s.met,s.Aw,s.cw,s.wait.take (s.wait.length-1),s.pos,s.vals⟩,⟨by simp only[hlw];rfl,rfl,rfl,rfl,rfl,rfl,an⟩,by simp only[hlw];exact aH.refl,hI.pop hwsplit hrow hall _ _,by simp only[hlw];omega⟩
  ·have hw0:s.wait=[]:=GM.1 (by omega);refine ad (aa (ae [] rfl ?_));refine az [1] (by decide) rfl (ay ⟨_,rfl,.inl ⟨hW,by omega,s.met,gm,hI.ml,λ v=>?_,rfl,rfl⟩⟩);rw[<- hrm];exact hI.final hw0 hs0 hrows hgl (λ r hr=>⟨(b8 N r).1.toNat,by have:=fG hR (show r<2*N.arcs.length by omega);omega⟩) v
end Go.Proofs.YtmcnpaelaieniaaGreatDoor
