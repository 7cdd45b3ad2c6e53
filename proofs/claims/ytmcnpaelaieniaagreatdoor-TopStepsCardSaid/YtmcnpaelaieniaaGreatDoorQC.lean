import Derived.Test.YtmcnpaelaieniaaGreatDoorQB
import Derived.Test.YtmcnpaelaieniaaGreatDoorQA
/- A part of the proof; see NOTES.md. -/
set_option linter.unusedVariables false
set_option linter.unusedSimpArgs false
namespace Go.Proofs.YtmcnpaelaieniaaGreatDoor
open Go.RowKit
structure aO.Fits (N:aO):Prop where
 nodes:bU N.nodes
 src:bU N.src
 snk:bU N.snk
 len:N.arcs.length*24<=140737488351232
 arc:∀ a∈N.arcs,bU a.fr/\bU a.to/\bU a.cap
theorem iz(N:aO)(hN:N.Fits)(A:OA)(c b o:Nat)(hA:N.arcs≠[]->A=some ⟨b,o,none⟩):Fn 26 [bx N A c] [] [.seg b o (arcs N.arcs)] λ v H'=>v=.int .i64 (er N)/\H'=[]:=by
 have hln:=hN.len;refine aH Tryz.func26 rfl rfl λ w0=>?_;refine ad (aa ?_);refine bz (cs:=bJ N A c) rfl rfl rfl (λ _=>rfl) λ p=>?_;refine ae [] rfl ?_;refine ad (aa (ae [] rfl ?_));refine ad (av (ad (aa (ah [] rfl ?_))));refine ab [] (af 0 rfl) rfl ?_;refine ah [] rfl ?_;by_cases h1:N.nodes<2
 ·refine bj 14 rfl h1 ?_;refine ae [3] rfl ?_;refine bh rfl ?_;refine ad (aa (ae [] rfl ?_));refine aA [] (by decide) rfl (ax ⟨_,rfl,?_,rfl⟩);unfold er;rw[if_pos (.inl h1)];rfl
 refine bd 14 rfl h1 ?_;refine ah [3] rfl ?_;refine ab [3] (af 0 rfl) rfl ?_;refine ae [3] rfl ?_;refine aC rfl (λ h2=>?_) (λ h2=>?_)
 ·refine ad (aa (ae [] rfl ?_));refine aA [] (by decide) rfl (ax ⟨_,rfl,?_,rfl⟩);unfold er;rw[if_pos (.inr h2)];rfl
 have c1:¬ (N.nodes<2\/500<N.nodes):=by omega
 refine ad (aa (ah [] rfl ?_));refine ab [] (af 0 rfl) rfl ?_;refine ao [] (nf N A c p N.src) rfl (by kernel_rfl) ⟨⟨0,_,by simp,rfl,aD _ _ _ (0,0),.inr rfl⟩,an⟩ (λ _=>rfl) ?_;rintro v H' ⟨rfl,rfl⟩;refine⟨rfl,?_⟩;refine ah [] rfl ?_;by_cases h3:hZ N N.src
 case neg=>
  refine aI 25 (v':=.bool true) rfl (Gz Value.bool (by rw[aZ h3];rfl)) ?_;refine ae [5] rfl ?_;refine bh rfl ?_;refine ad (aa (ae [] rfl ?_));refine aA [] (by decide) rfl (ax ⟨_,rfl,?_,rfl⟩);unfold er;rw[if_neg c1,if_pos (λ hc=>h3 hc.1)];rfl
 refine aI 25 (v':=.bool false) rfl (Gz Value.bool (by rw[aT h3];rfl)) ?_;refine ah [5] rfl ?_;refine ab [5] (af 0 rfl) rfl ?_;refine ao [5] (nf N A c p N.snk) rfl (by kernel_rfl) ⟨⟨0,_,by simp,rfl,aD _ _ _ (0,0),.inr rfl⟩,an⟩ (λ _=>rfl) ?_;rintro v H' ⟨rfl,rfl⟩;refine⟨rfl,?_⟩;refine ah [5] rfl ?_;by_cases h4:hZ N N.snk
 case neg=>
  refine aI 19 (v':=.bool true) rfl (Gz Value.bool (by rw[aZ h4];rfl)) ?_;refine ai ?_;refine bh rfl ?_;refine ad (aa (ae [] rfl ?_));refine aA [] (by decide) rfl (ax ⟨_,rfl,?_,rfl⟩);unfold er;rw[if_neg c1,if_pos (λ hc=>h4 hc.2)];rfl
 refine aI 19 (v':=.bool false) rfl (Gz Value.bool (by rw[aT h4];rfl)) ?_;refine ai ?_;refine bG rfl ?_;have c2:¬ ¬ (hZ N N.src/\hZ N N.snk):=λ h=>h ⟨h3,h4⟩;refine ad (aa (ah [] rfl ?_));refine ab [] (af 0 rfl) rfl ?_;refine ah [] rfl ?_;refine ab [] (af 0 rfl) rfl ?_;refine ae [] rfl ?_;refine aC rfl (λ h5=>?_) (λ h5=>?_)
 ·refine ad (aa (ae [] rfl ?_));refine aA [] (by decide) rfl (ax ⟨_,rfl,?_,rfl⟩);unfold er;rw[if_neg c1,if_neg c2,if_pos h5];rfl
 refine ad (aa (ah [] rfl ?_));refine ab [] (af 0 rfl) rfl ?_;refine ae [] rfl ?_;refine aC rfl (λ h6=>?_) (λ h6=>aq ?_)
 ·refine ad (aa (ae [] rfl ?_));refine aA [] (by decide) rfl (ax ⟨_,rfl,?_,rfl⟩);unfold er;rw[if_neg c1,if_neg c2,if_neg h5,if_pos (by omega)];rfl
 have hck:er N=iy N 0 N.arcs:=by unfold er;rw[if_neg c1,if_neg c2,if_neg h5,if_neg (by omega)]
 rw[hck];refine ad (aa (ae [] rfl ?_));refine ad (ad (aa (ah [] rfl ?_)));refine ab [] (af 0 rfl) rfl ?_;refine ae [] rfl ?_;refine av ?_
 refine bP (σ:=Nat×Int) (λ s=>[(46,.int .i64 s.1),(45,.int .i64 N.arcs.length),(44,.slice A N.arcs.length c),(4,.int .i64 s.2),(3,.func (.func 49) #[] #[.pointer (some ⟨p,0,none⟩)]),(1,.pointer (some ⟨p,0,none⟩))])
  (λ s=>[blk p 33 (bJ N A c),.seg b o (arcs N.arcs)]) (λ s=>s.1<=N.arcs.length/\bU s.2/\iy N 0 N.arcs=iy N s.2 (N.arcs.drop s.1)) (λ s=>N.arcs.length-s.1)
  (0,0) [0,1] ⟨rfl,rfl,rfl,rfl,rfl,rfl,an⟩ (by decide) rfl ⟨GI _,by decide,rfl⟩ ?_
 rintro⟨k,n⟩ ⟨hk,hn,hbad⟩;simp only at hk hn hbad ⊢;refine ad (aa (ae [] rfl ?_));refine ad (aC rfl (λ hlt=>aq ?_) (λ hge=>a9 ?_))
 ·have hlt:k<N.arcs.length:=by omega
  obtain rfl:=hA (by intro h;rw[h] at hlt;simp at hlt);obtain⟨x,hx⟩:∃ x,N.arcs[k]?=some x:=⟨N.arcs[k],Gy hlt⟩;have hxB:=hN.arc x (GB hx)
  have hd:N.arcs.drop k=x::N.arcs.drop (k+1):=by
   obtain⟨_,rfl⟩:=GC.1 hx;rw[Hm hlt]
  rw[hd,iy] at hbad;refine ad (av ?_);refine ad (aa (ah [] rfl ?_));refine ab [] (eo rfl hlt) rfl ?_;refine ab [] (bc 1 rfl rfl (fX hx)) rfl ?_;refine bu rfl rfl rfl (λ _=>rfl) λ q=>?_;refine aB 0 rfl [] rfl ?_;refine ai ?_;refine ad (aa (ah [] rfl ?_));refine ab [] (af 0 rfl) rfl ?_;refine ao [] (Co hn hxB.2.2) rfl (by kernel_rfl) an (λ _=>rfl) ?_;rintro v H' ⟨rfl,rfl⟩;refine⟨rfl,?_⟩;refine ae [] rfl ?_;refine ad (av (ad (aa (ah [] rfl ?_))));refine ab [] (af 0 rfl) rfl ?_;refine ao [] (nf N (some ⟨b,o,none⟩) c p x.fr) rfl (by kernel_rfl) ⟨⟨1,_,by simp,rfl,aD _ _ _ (0,0),.inr rfl⟩,an⟩ (λ _=>rfl) ?_;rintro v H' ⟨rfl,rfl⟩;refine⟨rfl,?_⟩;refine ah [] rfl ?_;by_cases h7:hZ N x.fr
  case neg=>
   refine aI 63 (v':=.bool true) rfl (Gz Value.bool (by rw[aZ h7];rfl)) ?_;refine ae [5] rfl ?_;refine bh rfl ?_;refine ad (aa (ae [] rfl ?_));refine aA [] (by decide) rfl (ax ⟨_,rfl,?_,rfl⟩);rw[hbad,if_pos (λ h=>h7 h.1)];rfl
  refine aI 63 (v':=.bool false) rfl (Gz Value.bool (by rw[aT h7];rfl)) ?_;refine ah [5] rfl ?_;refine ab [5] (af 0 rfl) rfl ?_;refine ao [5] (nf N (some ⟨b,o,none⟩) c p x.to) rfl (by kernel_rfl) ⟨⟨1,_,by simp,rfl,aD _ _ _ (0,0),.inr rfl⟩,an⟩ (λ _=>rfl) ?_;rintro v H' ⟨rfl,rfl⟩;refine⟨rfl,?_⟩;refine ah [5] rfl ?_;by_cases h8:hZ N x.to
  case neg=>
   refine aI 57 (v':=.bool true) rfl (Gz Value.bool (by rw[aZ h8];rfl)) ?_;refine ai ?_;refine bh rfl ?_;refine ad (aa (ae [] rfl ?_));refine aA [] (by decide) rfl (ax ⟨_,rfl,?_,rfl⟩);rw[hbad,if_pos (λ h=>h8 h.2)];rfl
  refine aI 57 (v':=.bool false) rfl (Gz Value.bool (by rw[aT h8];rfl)) ?_;refine ai ?_;refine bG rfl ?_;rw[if_neg (λ h=>h ⟨h7,h8⟩)] at hbad;refine ad (aa (ah [] rfl ?_));refine ab [] (af 0 rfl) rfl ?_;refine ae [] rfl ?_;refine aC rfl (λ h9=>?_) (λ h9=>?_)
  ·refine ad (aa (ae [] rfl ?_));refine aA [] (by decide) rfl (ax ⟨_,rfl,?_,rfl⟩);rw[hbad,if_pos h9];rfl
  rw[if_neg h9] at hbad;by_cases hin:bU (n+x.cap)
  case neg=>
   rw[yQ hin];refine ad (aa (ah [] rfl ?_));refine bj 77 rfl (by simp) ?_;refine ae [2] rfl ?_;refine bh rfl ?_;refine ad (aa (ae [] rfl ?_));refine aA [] (by decide) rfl (ax ⟨_,rfl,?_,rfl⟩);rw[hbad,if_pos (.inl hin)];rfl
  rw[tu hin];refine ad (aa (ah [] rfl ?_));refine bd 77 rfl (by simp) ?_;refine ae [2] rfl ?_;refine aC rfl (λ h10=>?_) (λ h10=>aq ?_)
  ·refine ad (aa (ae [] rfl ?_));refine aA [] (by decide) rfl (ax ⟨_,rfl,?_,rfl⟩);rw[hbad,if_pos (.inr h10)];rfl
  rw[if_neg (λ h=>h.elim (λ h=>h hin) h10)] at hbad;refine aa (ae [] rfl ?_);refine aa (ae [] rfl ?_);refine⟨(k+1,n+x.cap),[1,2],⟨?_,rfl,rfl,rfl,rfl,rfl,an⟩,by decide,rfl,⟨by simp only;omega,hin,hbad⟩,by simp only;omega⟩;show some (Value.int .i64 (IntKind.i64.wrap ((k:Int)+1)))=_;rw[b5 (by omega)];rfl
 ·have hk':k=N.arcs.length:=by omega
  subst hk';rw[List.drop_length,iy] at hbad;refine ad (aa (ae [] rfl ?_));refine aA [] (by decide) rfl (ax ⟨_,rfl,by rw[hbad];rfl,rfl⟩)
theorem oq(N:aO):∀ (l:List dM) (s:Int),0<=s->s<=4611686018427387903->iy N s l=0->(∀ a∈l,(1<=a.fr/\a.fr<=N.nodes)/\(1<=a.to/\a.to<=N.nodes)/\0<=a.cap)/\s+(l.map (·.cap)).sum<=4611686018427387903
 |[],s,_,h,_=>⟨λ a ha=>(by cases ha),by simpa using h⟩
 |a::l,s,h0,h1,hz=>by
  rw[iy] at hz;split at hz
  ·simp at hz
  ·rename_i ht;split at hz
   ·simp at hz
   ·rename_i hc;split at hz
    ·simp at hz
    ·rename_i hs;obtain⟨i1,i2⟩:=oq N l (s+a.cap) (by omega) (by omega) hz;have ht':=Classical.not_not.1 ht;refine⟨fun x hx=>?_,by simp only[List.map_cons,List.sum_cons];omega⟩
     rcases GL.1 hx with rfl|hx
     ·exact⟨ht'.1,ht'.2,by omega⟩
     ·exact i1 x hx
theorem ot{N:aO}(h:er N=0):N.Right:=by
 unfold er at h;split at h
 ·simp at h
 ·rename_i h1;split at h
  ·simp at h
  ·rename_i h2;split at h
   ·simp at h
   ·rename_i h3;split at h
    ·simp at h
    ·rename_i h4;have h2':=GQ.1 h2;obtain⟨i1,i2⟩:=oq N N.arcs 0 (by omega) (by omega) h;exact⟨by omega,h2'.1,h2'.2,h3,by omega,i1,by omega⟩
def iE(l:LI)(a:dM)(f:Int):LI:=
 let l1:=l.set a.fr.toNat (IntKind.i64.wrap (l.getD a.fr.toNat 0-f))
 l1.set a.to.toNat (IntKind.i64.wrap (l1.getD a.to.toNat 0+f))
def ul(n:Nat)(al:List dM)(fs:LI):LI:=(al.zip fs).foldl (λ l p=>iE l p.1 p.2) (List.replicate (n+1) 0)
theorem lK(l:LI)(a:dM)(f:Int):(iE l a f).length=l.length:=by simp[iE]
theorem mj(n:Nat)(al:List dM)(fs:LI):(ul n al fs).length=n+1:=by
 unfold ul
 have:∀ (ps:List (dM×Int)) (l:LI),(ps.foldl (λ l p=>iE l p.1 p.2) l).length=l.length:=by
  intro ps
  induction ps with
  |nil=>intro l;rfl
  |cons p ps ih=>intro l;simp[ih,lK]
 rw[this];simp
theorem Bk(n:Nat){al:List dM}{fs:LI}{k:Nat}{a:dM}{f:Int}(ha:al[k]?=some a)(hf:fs[k]?=some f):ul n (al.take (k+1)) fs=iE (ul n (al.take k) fs) a f:=by
 have h1:al.take (k+1)=al.take k++[a]:=by
  obtain⟨h,rfl⟩:=GC.1 ha;rw[List.take_succ_eq_append_getElem h]
 have hk:(al.take k).length=k:=by
  obtain⟨h,_⟩:=GC.1 ha;simp;omega
 have h2:fs=fs.take k++f::fs.drop (k+1):=by
  obtain⟨h,rfl⟩:=GC.1 hf;simp
 have hk2:(fs.take k).length=k:=by
  obtain⟨h,_⟩:=GC.1 hf;simp;omega
 unfold ul;rw[h1]
 conv=>lhs;rw[h2]
 conv=>rhs;rw[h2]
 rw[List.zip_append (by rw[hk,hk2]),IT]
 have:(al.take k).zip (fs.take k++f::fs.drop (k+1))=(al.take k).zip (fs.take k):=by
  conv=>lhs;rw[<- Hc (al.take k)]
  rw[List.zip_append (by rw[hk,hk2])];simp
 rw[this];simp
theorem oG(n:Nat)(src snk:Int)(A F:OA)(ca cf ba oa bf of:Nat)(al:List dM)(fs:LI)(hn:n<=500)(hA:al≠[]->A=some ⟨ba,oa,none⟩)(hF:al≠[]->F=some ⟨bf,of,none⟩)
 (hl:fs.length=al.length) (hlen:al.length<=2000) (hin:∀ a∈al,0<=a.fr/\a.fr<=n/\0<=a.to/\a.to<=n):
 Fn 40 [.agg #[.int .i64 n,.int .i64 src,.int .i64 snk,.slice A al.length ca],.slice F al.length cf] [] [.seg ba oa (arcs al),.seg bf of (ay fs)]
  (λ v H'=>∃ g,v=.slice (some ⟨g,0,none⟩) (n+1) (n+1)/\H'=[.own v 2 1 (n+1) (ay (ul n al fs))]):=by
 refine aH Tryz.func40 rfl rfl λ w0=>?_;refine ad (aa ?_);refine bz rfl rfl rfl (λ _=>rfl) λ b1=>?_;refine ae [] rfl ?_;refine ad (aa ?_);refine ah [] rfl ?_;refine ab [] (af 0 rfl) rfl ?_;refine ah [] rfl ?_;rw[b5 (n:=(n:Int)+1) (by omega)];refine di (n:=n+1) (c:=n+1) rfl rfl rfl rfl rfl rfl (by omega) (by omega) (by omega) (λ _=>rfl) λ g=>?_;refine ae [] rfl ?_;refine ad (ad (aa ?_));refine ah [] rfl ?_;refine ab [] (af 1 rfl) rfl ?_;refine ae [] rfl ?_;rw[rJ];refine av ?_
 refine bP (σ:=Nat) (λ k=>[(15,.int .i64 k),(14,.int .i64 al.length),(13,.slice A al.length ca),(5,.slice (some ⟨g,0,none⟩) (n+1) (n+1)),(1,.slice F al.length cf)])
  (λ k=>[.own (.slice (some ⟨g,0,none⟩) (n+1) (n+1)) 2 1 (n+1) (ay (ul n (al.take k) fs)),.seg ba oa (arcs al),.seg bf of (ay fs)]) (λ k=>k<=al.length) (λ k=>al.length-k)
  0 [0,2,3] ⟨rfl,rfl,rfl,rfl,rfl,an⟩ (by decide) (by rw[List.take_zero];rfl) (GI _) λ k hk=>?_
 refine ad (aa (ae [] rfl ?_));refine ad (aC rfl (λ hlt=>aq ?_) (λ hge=>a9 ?_))
 ·have hlt:k<al.length:=by omega
  have hne:al≠[]:=by rintro rfl;simp at hlt
  obtain rfl:=hA hne;obtain rfl:=hF hne;refine ad (av (ad (aa ?_)));refine ah [] rfl ?_;refine ab [] (eo rfl hlt) rfl ?_;obtain⟨⟨fr,to,cap⟩,ha⟩:∃ a,al[k]?=some a:=⟨al[k],Gy hlt⟩;obtain⟨f,hf⟩:∃ f,fs[k]?=some f:=⟨fs[k],Gy (by omega)⟩;obtain⟨h1,h2,h3,h4⟩:=hin _ (GB ha);simp only at h1 h2 h3 h4;obtain⟨fr,rfl⟩:=Im h1;obtain⟨to,rfl⟩:=Im h3;refine ab [] (bc 1 rfl rfl (fX ha)) rfl ?_;refine bu rfl rfl rfl (λ _=>rfl) λ b2=>?_;refine ah [] rfl ?_;refine aB 0 rfl [] rfl ?_;refine ai ?_;refine ad (wV 11 (by kernel_rfl) ?_);refine mc [] rfl ?_;refine f6 [] (af 0 rfl) rfl ?_;have hel:=mj n (al.take k) fs;obtain⟨x,hx⟩:∃ x,(ul n (al.take k) fs)[fr]?=some x:=⟨_,Gy (by omega)⟩;refine f6 [] (aG rfl (by omega)) rfl ?_;refine f6 [] (aE 1 rfl rfl rfl (bR hx)) rfl ?_;refine mc [] rfl ?_;refine f6 [] (bZ rfl hlt) rfl ?_;refine f6 [] (bc 3 rfl rfl (bR hf)) rfl ?_;refine mc [] rfl ?_;refine f6 [] (aG rfl (by omega)) rfl ?_;refine BX ?_;refine aS 1 rfl rfl rfl rfl (eA rfl (by omega)) [] rfl ?_;refine ai ?_;refine wV 11 (by kernel_rfl) ?_;obtain⟨y,hy⟩:∃ y,((ul n (al.take k) fs).set fr (IntKind.i64.wrap (x-f)))[to]?=some y:=⟨_,Gy (by simp;omega)⟩;refine mc [] rfl ?_;refine f6 [] (af 0 rfl) rfl ?_;refine f6 [] (aG rfl (by omega)) rfl ?_;refine f6 [] (aE 1 rfl rfl rfl (bR hy)) rfl ?_;refine mc [] rfl ?_;refine f6 [] (bZ rfl hlt) rfl ?_;refine f6 [] (bc 3 rfl rfl (bR hf)) rfl ?_;refine mc [] rfl ?_;refine f6 [] (aG rfl (by omega)) rfl ?_;refine BX ?_;refine aS 1 rfl rfl rfl rfl (eA rfl (by simp;omega)) [] rfl ?_;refine ai ?_;refine aa (ae [] rfl ?_);refine⟨k+1,[1,2,3],⟨?_,rfl,rfl,rfl,rfl,an⟩,by decide,?_,by omega,by omega⟩
  ·show some (Value.int .i64 (IntKind.i64.wrap ((k:Int)+1)))=_;rw[b5 (by omega)];rfl
  ·rw[Bk n ha hf]
   have e:iE (ul n (al.take k) fs) ⟨fr,to,cap⟩ f=((ul n (al.take k) fs).set fr (IntKind.i64.wrap (x-f))).set to (IntKind.i64.wrap (y+f)):=by
    simp only[iE,G1,GD,hx,G9,hy]
   rw[e];rfl
 ·refine ad (aa (ae [] rfl ?_));refine aA [0] (by decide) rfl (ax ?_);have hk':k=al.length:=by omega
  subst hk';exact⟨_,rfl,g,rfl,by rw[G8];rfl⟩
open Classical in
noncomputable def fi(N:aO)(f:LI):Int:=if f.length≠N.arcs.length then 6 else if ∀ p∈N.arcs.zip f,0<=p.2/\p.2<=p.1.cap then 0 else 3
theorem yG(N:aO)(hN:N.Fits)(hR:N.Right)(A:OA)(c b o:Nat)(hA:N.arcs≠[]->A=some ⟨b,o,none⟩)(f:LI)(F:OA)(cf bf of:Nat)(hF:f≠[]->F=some ⟨bf,of,none⟩)(hf:∀ x∈f,bU x)(hfl:f.length*8<=140737488351232):
 Fn 77 [bx N A c,.slice F f.length cf] [] [.seg b o (arcs N.arcs),.seg bf of (ay f)] λ v H'=>v=.int .i64 (fi N f)/\H'=[]:=by
 have hln:=hN.len;refine aH Tryz.func77 rfl rfl λ w0=>?_;refine ad (aa ?_);refine bz (cs:=bJ N A c) rfl rfl rfl (λ _=>rfl) λ p=>?_;refine ae [] rfl ?_;refine ad (ad (aa ?_));refine ab [] (v:=bx N A c) (af 0 rfl) rfl ?_;refine ao [] (iz N hN A c b o hA) rfl (by kernel_rfl) ⟨⟨1,_,by simp,rfl,ak _ _ _,au⟩,an⟩ (λ _=>rfl) ?_;rintro v H' ⟨rfl,rfl⟩;refine⟨rfl,?_⟩;rw[hR.check];refine ae [] rfl ?_;refine ad (aa (ae [] rfl ?_));refine aC rfl (λ h=>absurd rfl h) (λ _=>aq ?_);refine ad (ad (aa (ah [] rfl ?_)));refine ab [] (af 0 rfl) rfl ?_;refine ae [] rfl ?_;refine aC rfl (λ h=>?_) (λ h=>aq ?_)
 ·refine ad (aa (ae [] rfl ?_));refine aA [] (by decide) rfl (ax ⟨_,rfl,?_,rfl⟩);unfold fi;rw[if_pos (by omega)];rfl
 have hlen:f.length=N.arcs.length:=by omega
 refine ad (ad (aa (ae [] rfl ?_)));refine av ?_
 refine bP (σ:=Nat) (λ k=>[(21,.int .i64 k),(20,.int .i64 f.length),(19,.slice F f.length cf),(2,.pointer (some ⟨p,0,none⟩))])
  (λ k=>[blk p 33 (bJ N A c),.seg b o (arcs N.arcs),.seg bf of (ay f)]) (λ k=>k<=f.length/\∀ q∈(N.arcs.zip f).take k,0<=q.2/\q.2<=q.1.cap) (λ k=>f.length-k)
  0 [0,1,2] ⟨rfl,rfl,rfl,rfl,an⟩ (by decide) rfl ⟨GI _,λ q hq=>by simp at hq⟩ ?_
 rintro k ⟨hk,hall⟩;refine ad (aa (ae [] rfl ?_));refine ad (aC rfl (λ hlt=>aq ?_) (λ hge=>a9 ?_))
 ·have hlt:k<f.length:=by omega
  obtain rfl:=hF (by rintro rfl;simp at hlt)
  obtain rfl:=hA (by intro h;have h0:N.arcs.length=0:=by rw[h];rfl
                     omega)
  obtain⟨x,hx⟩:∃ x,f[k]?=some x:=⟨f[k],Gy hlt⟩;obtain⟨a,ha⟩:∃ a,N.arcs[k]?=some a:=⟨N.arcs[k],Gy (by omega)⟩;obtain⟨_,_,hcap⟩:=eg ha;have hz:(N.arcs.zip f)[k]?=some (a,x):=by simp[Hr,ha,hx]
  have hbad:¬ (0<=x/\x<=a.cap)->fi N f=3:=by
   intro hb;unfold fi;rw[if_neg (by omega),if_neg (λ hall=>hb (hall _ (GB hz)))]
  refine ad (av ?_);refine ad (aa (ah [] rfl ?_));refine ab [] (bZ rfl hlt) rfl ?_;refine ab [] (bc 2 rfl rfl (bR hx)) rfl ?_;refine ae [] rfl ?_;refine ad (aa (ah [] rfl ?_));by_cases h0:x<0
  ·refine bj 28 rfl h0 ?_;refine ae [2] rfl ?_;refine bh rfl ?_;refine ad (aa (ae [] rfl ?_));refine aA [] (by decide) rfl (ax ⟨_,rfl,by rw[hbad (by omega)];rfl,rfl⟩)
  refine bd 28 rfl h0 ?_;refine ah [2] rfl ?_;refine ab [2] (af 0 rfl) rfl ?_;refine ah [2] rfl ?_;refine ab [2] (eo rfl (by omega)) rfl ?_;refine ah [2] rfl ?_;refine ab [2] (bc 1 rfl rfl hcap) rfl ?_;refine ae [2] rfl ?_;refine aC rfl (λ h1=>?_) (λ h1=>aq ?_)
  ·refine ad (aa (ae [] rfl ?_));refine aA [] (by decide) rfl (ax ⟨_,rfl,by rw[hbad (by omega)];rfl,rfl⟩)
  refine aa (ae [] rfl ?_);refine⟨k+1,[0,1,2],⟨?_,rfl,rfl,rfl,an⟩,by decide,rfl,⟨by omega,λ q hq=>?_⟩,by omega⟩
  ·show some (Value.int .i64 (IntKind.i64.wrap ((k:Int)+1)))=_;rw[b5 (by omega)];rfl
  ·rw[GW,hz] at hq
   rcases GK.1 hq with hq|hq
   ·exact hall q hq
   ·simp only[Option.toList_some,GF] at hq;subst hq;simp only;omega
 ·have hk':k=f.length:=by omega
  subst hk';refine ad (aa (ae [] rfl ?_));refine aA [] (by decide) rfl (ax ⟨_,rfl,?_,rfl⟩);unfold fi;rw[if_neg (by omega),if_pos (λ q hq=>hall q (by rw[Hy (by simp;omega)];exact hq))];rfl
def da(ps:List (dM×Int))(v:Int):Int:=(ps.map λ p=>(if p.1.to=v then p.2 else 0)-(if p.1.fr=v then p.2 else 0)).sum
theorem vV{l:LI}{a:dM}{f:Int}{B:Int}(hB:∀ v:Nat,-B<=l.getD v 0/\l.getD v 0<=B)(hf:0<=f)(hb:B+f<=9000000000000000000)(h1:0<=a.fr/\a.fr<l.length)(h2:0<=a.to/\a.to<l.length)(v:Nat):
 (iE l a f).getD v 0=l.getD v 0+((if a.to=v then f else 0)-(if a.fr=v then f else 0)):=by
 obtain⟨fr,to,cap⟩:=a;obtain⟨fr,rfl⟩:=Im h1.1;obtain⟨to,rfl⟩:=Im h2.1;simp only[iE,G1];have h1':fr<l.length:=by have:=h1.2;simp only at this;omega
 have h2':to<l.length:=by have:=h2.2;simp only at this;omega
 have hs1:∀ v,(l.set fr (IntKind.i64.wrap (l.getD fr 0-f))).getD v 0=l.getD v 0-(if fr=v then f else 0):=by
  intro v;by_cases h:fr=v
  ·subst h;have:=hB fr;rw[if_pos rfl,GD,GO h1',G9,b5 (by omega)]
  ·rw[if_neg h,GD,GR h,GD];omega
 by_cases h:to=v
 ·subst h;have e1:=hs1 to;have:=hB to;rw[GD,GO (by simpa using h2'),G9,e1,b5 (by split<;>omega)];simp only[Int.natCast_inj,Iq];omega
 ·rw[GD,GR h,<- GD,hs1 v];simp only[Int.natCast_inj];rw[if_neg h];omega
theorem xm(n:Nat):∀ (ps:List (dM×Int)) (l:LI) (B:Int),l.length=n+1->(∀ v:Nat,-B<=l.getD v 0/\l.getD v 0<=B)->(∀ p∈ps,0<=p.2/\(0<=p.1.fr/\p.1.fr<=n)/\(0<=p.1.to/\p.1.to<=n))->B+(ps.map (·.2)).sum<=9000000000000000000->
 ∀ v:Nat,(ps.foldl (λ l p=>iE l p.1 p.2) l).getD v 0=l.getD v 0+da ps v
 |[],l,B,_,_,_,_,v=>by simp[da]
 |p::ps,l,B,hl,hB,hp,hs,v=>by
  obtain⟨p1,p2,p3⟩:=hp p (by simp)
  have hnn:0<=(ps.map (·.2)).sum:=by
   have:∀ (ps:List (dM×Int)),(∀ p∈ps,0<=p.2)->0<=(ps.map (·.2)).sum:=by
    intro ps
    induction ps with
    |nil=>intro _;simp
    |cons q ps ih=>intro h;have:=ih λ a ha=>h a (by simp[ha]);have:=h q (by simp);simp only[GM,GY];omega
   exact this ps λ q hq=>(hp q (by simp[hq])).1
  simp only[GM,GY] at hs;have hst:=vV (l:=l) (a:=p.1) (f:=p.2) hB p1 (by omega) (by omega) (by omega);rw[Ja,xm n ps (iE l p.1 p.2) (B+p.2) (by rw[lK];exact hl) (λ v=>?_) (λ q hq=>hp q (by simp[hq])) (by omega) v,hst v]
  ·simp only[da,GM,GY];omega
  ·rw[hst v];have:=hB v;split<;>split<;>omega
theorem DE(n:Nat)(al:List dM)(fs:LI)(hp:∀ p∈al.zip fs,0<=p.2/\(0<=p.1.fr/\p.1.fr<=n)/\(0<=p.1.to/\p.1.to<=n))(hs:((al.zip fs).map (·.2)).sum<=9000000000000000000)(v:Nat):(ul n al fs).getD v 0=da (al.zip fs) v:=by
 unfold ul
 have h0:∀ v,(List.replicate (n+1) (0:Int)).getD v 0=0:=by
  intro v;rw[GD,GU];split<;>rfl
 rw[xm n (al.zip fs) _ 0 (by simp) (λ v=>by rw[h0];omega) hp (by omega) v,h0];omega
structure Ranged (N:aO) (f:LI):Prop where
 len:f.length=N.arcs.length
 all:∀ p∈N.arcs.zip f,0<=p.2/\p.2<=p.1.cap
theorem ib{N:aO}{f:LI}:fi N f=0↔Ranged N f:=by
 unfold fi
 constructor
 ·intro h;split at h
  ·simp at h
  ·rename_i h1;split at h
   ·rename_i h2;exact⟨by omega,h2⟩
   ·simp at h
 ·rintro⟨h1,h2⟩;rw[if_neg (by omega),if_pos h2]
theorem lT:∀ (al:List dM) (fs:LI),(∀ p∈al.zip fs,0<=p.2/\p.2<=p.1.cap)->(∀ a∈al,0<=a.cap)->((al.zip fs).map (·.2)).sum<=(al.map (·.cap)).sum
 |[],_,_,_=>by simp
 |a::al,[],_,h=>by
  have:=lT al [] (by simp) λ a ha=>h a (by simp[ha]);have:=h a (by simp);simp at*;omega
 |a::al,f::fs,hp,h=>by
  have:=lT al fs (λ p hp'=>hp p (by simp[hp'])) λ a ha=>h a (by simp[ha]);have:=hp (a,f) (by simp);simp only[IK,GM,GY] at*;omega
theorem Ranged.exc{N:aO}{f:LI}(h:Ranged N f)(hR:N.Right)(n:Nat)(hn:N.nodes=n)(v:Nat):(ul n N.arcs f).getD v 0=da (N.arcs.zip f) v:=by
 refine DE n N.arcs f (λ p hp=>?_) ?_ v
 ·have h1:=h.all p hp;have h2:=hR.arc p.1 (List.of_mem_zip hp).1;exact⟨h1.1,by omega,by omega⟩
 ·have h1:=lT N.arcs f h.all λ a ha=>(hR.arc a ha).2.2;have h2:=hR.sum;omega
open Classical in
noncomputable def el(N:aO)(f:LI):Int:=if fi N f≠0 then fi N f else if ∀ v:Int,1<=v/\v<=N.nodes->v≠N.src->v≠N.snk->da (N.arcs.zip f) v=0 then 0 else 9
theorem qS{N:aO}{f:LI}(h:Ranged N f)(hz:∀ v:Int,1<=v/\v<=N.nodes->v≠N.src->v≠N.snk->da (N.arcs.zip f) v=0):el N f=0:=by
 unfold el;rw[if_neg (λ hc=>hc (ib.2 h)),if_pos hz]
theorem ur{N:aO}{f:LI}(h:Ranged N f)(hz:¬ ∀ v:Int,1<=v/\v<=N.nodes->v≠N.src->v≠N.snk->da (N.arcs.zip f) v=0):el N f=9:=by
 unfold el;rw[if_neg (λ hc=>hc (ib.2 h)),if_neg hz]
structure aK (N:aO) (f:LI):Prop extends Ranged N f where
 kept:∀ v:Int,1<=v/\v<=N.nodes->v≠N.src->v≠N.snk->da (N.arcs.zip f) v=0
theorem cX{N:aO}{f:LI}:el N f=0↔aK N f:=by
 constructor
 ·intro h;by_cases hw:Ranged N f
  ·refine⟨hw,?_⟩;by_cases hz:∀ v:Int,1<=v/\v<=N.nodes->v≠N.src->v≠N.snk->da (N.arcs.zip f) v=0
   ·exact hz
   ·rw[ur hw hz] at h;simp at h
  ·exfalso;have h1:fi N f≠0:=λ h=>hw (ib.1 h);unfold el at h;rw[if_pos h1] at h;exact h1 h
 ·exact λ h=>qS h.toRanged h.kept
theorem qP(N:aO)(hN:N.Fits)(hR:N.Right)(A:OA)(c b o:Nat)(hA:N.arcs≠[]->A=some ⟨b,o,none⟩)(f:LI)(F:OA)(cf bf of:Nat)(hF:f≠[]->F=some ⟨bf,of,none⟩)(hf:∀ x∈f,bU x)(hfl:f.length*8<=140737488351232):
 Fn 39 [bx N A c,.slice F f.length cf] [] [.seg b o (arcs N.arcs),.seg bf of (ay f)] λ v H'=>v=.int .i64 (el N f)/\H'=[]:=by
 refine aH Tryz.func39 rfl rfl λ w0=>?_;refine ad (aa ?_);refine bz (cs:=bJ N A c) rfl rfl rfl (λ _=>rfl) λ p=>?_;refine ae [] rfl ?_;refine ad (ad (aa ?_));refine ab [] (v:=bx N A c) (af 0 rfl) rfl ?_;refine ah [] rfl ?_;refine ao [] (yG N hN hR A c b o hA f F cf bf of hF hf hfl) rfl (by kernel_rfl) ⟨⟨1,_,by simp,rfl,ak _ _ _,au⟩,⟨2,_,by simp,rfl,ak _ _ _,au⟩,an⟩ (λ _=>rfl) ?_;rintro v H' ⟨rfl,rfl⟩;refine⟨rfl,?_⟩;refine ae [] rfl ?_;refine ad (aa (ae [] rfl ?_));refine aC rfl (λ h=>?_) (λ h=>aq ?_)
 ·refine ad (aa (ae [] rfl ?_));refine aA [] (by decide) rfl (ax ⟨_,rfl,?_,rfl⟩);unfold el;rw[if_pos h];rfl
 have hW:Ranged N f:=ib.1 (GQ.1 h);have hnn:=hR.nodes;obtain⟨n,hn⟩:∃ n:Nat,N.nodes=n:=⟨N.nodes.toNat,by omega⟩;have hX:=hW.exc hR n hn;have hXl:=mj n N.arcs f;have T:=oG n N.src N.snk A F c cf b o bf of N.arcs f (by omega) hA (λ hne=>hF (λ h0=>hne (by have:=hW.len;rw[h0] at this;exact GT.1 this.symm))) hW.len hR.len (λ a ha=>by have:=hR.arc a ha;omega);rw[<- hn] at T;refine ad (aa ?_);refine ab [] (v:=bx N A c) (af 0 rfl) rfl ?_;refine ah [] rfl ?_;refine cL [] T rfl rfl rfl (by rw[hW.len];rfl) (by kernel_rfl) ⟨⟨1,_,by simp,rfl,ak _ _ _,au⟩,⟨2,_,by simp,rfl,ak _ _ _,au⟩,an⟩ (λ _=>rfl) ?_;rintro v H' ⟨g,rfl,rfl⟩;refine⟨rfl,?_⟩;refine ae [] rfl ?_;obtain⟨X,hXd⟩:∃ X,X=ul n N.arcs f:=⟨_,rfl⟩;rw[<- hXd] at hX hXl ⊢;refine ad (ad (aa (ah [] rfl ?_)));refine ab [] (af 1 rfl) rfl ?_;refine ah [] rfl ?_;refine ai ?_;rw[hn];refine av ?_
 refine bP (σ:=Nat) (λ k=>[(20,.int .i64 k),(19,.int .i64 n),(6,.slice (some ⟨g,0,none⟩) (n+1) (n+1)),(2,.pointer (some ⟨p,0,none⟩))])
  (λ k=>[.own (.slice (some ⟨g,0,none⟩) (n+1) (n+1)) 2 1 (n+1) (ay X),blk p 33 (bJ N A c)]) (λ k=>k<=n/\∀ v:Int,1<=v/\v<=k->v≠N.src->v≠N.snk->da (N.arcs.zip f) v=0) (λ k=>n-k)
  0 [0,1] ⟨rfl,rfl,rfl,rfl,an⟩ (by decide) rfl ⟨GI _,λ v hv=>by omega⟩ ?_
 rintro k ⟨hk,hall⟩;refine ad (aa (ae [] rfl ?_));refine ad (aC rfl (λ hlt=>aq ?_) (λ hge=>a9 ?_))
 ·have hlt:k<n:=by omega
  refine ad (av ?_);refine ad (aa (ae [] rfl ?_));refine ad (aa (ae [] rfl ?_));refine aX 8 (v':=.int .i64 ((k+1:Nat):Int)) rfl (Gz (Value.int .i64) (b5 (by omega))) ?_
  have hnext:(((k+1:Nat):Int)≠N.src->((k+1:Nat):Int)≠N.snk->da (N.arcs.zip f) ((k+1:Nat):Int)=0)->∀ v:Int,1<=v/\v<=((k+1:Nat):Int)->v≠N.src->v≠N.snk->da (N.arcs.zip f) v=0:=by
   intro hz v hv h1 h2;by_cases hvk:v<=k
   ·exact hall v ⟨hv.1,hvk⟩ h1 h2
   ·obtain rfl:v=((k+1:Nat):Int):=by omega
    exact hz h1 h2
  have hxk:∃ x,X[k+1]?=some x:=⟨X[k+1]'(by omega),Gy (by omega)⟩;obtain⟨x,hx⟩:=hxk
  have hxv:x=da (N.arcs.zip f) ((k+1:Nat):Int):=by
   have:=hX (k+1);rw[GD,hx] at this;exact this
  by_cases hz:((k+1:Nat):Int)≠N.src->((k+1:Nat):Int)≠N.snk->da (N.arcs.zip f) ((k+1:Nat):Int)=0
  ·refine eS [(41,.bool false),(20,.int .i64 k),(19,.int .i64 n),(6,.slice (some ⟨g,0,none⟩) (n+1) (n+1)),(2,.pointer (some ⟨p,0,none⟩))]
    [.own (.slice (some ⟨g,0,none⟩) (n+1) (n+1)) 2 1 (n+1) (ay X),blk p 33 (bJ N A c)] ?_ ?_
   ·skip
    refine aa (ah [] rfl ?_);refine ab [] (af 1 rfl) rfl ?_;refine ah [] rfl ?_;by_cases h1:((k+1:Nat):Int)=N.src
    ·refine bd 29 rfl (λ h=>h h1) ?_;refine ae [4,10] rfl ?_;exact⟨[0,1],⟨rfl,rfl,rfl,rfl,rfl,an⟩,by decide,rfl⟩
    refine bj 29 rfl h1 ?_;refine ah [4] rfl ?_;refine ab [4] (af 1 rfl) rfl ?_;refine ah [4] rfl ?_;by_cases h2:((k+1:Nat):Int)=N.snk
    ·refine bd 35 rfl (λ h=>h h2) ?_;refine ae [4,10] rfl ?_;exact⟨[0,1],⟨rfl,rfl,rfl,rfl,rfl,an⟩,by decide,rfl⟩
    refine bj 35 rfl h2 ?_;refine ah [4,10] rfl ?_;refine ab [4,10] (aG rfl (by omega)) rfl ?_;refine ab [4,10] (aE 0 rfl rfl rfl (bR hx)) rfl ?_;refine ae [4,10] rfl ?_;exact⟨[0,1],⟨Gz some (Gz Value.bool (aZ (λ h3=>h3 (hxv.trans (hz h1 h2))))),rfl,rfl,rfl,rfl,an⟩,by decide,rfl⟩
   ·refine bG rfl (aq ?_);refine aa (ae [] rfl ?_);refine⟨k+1,[0,1],⟨?_,rfl,rfl,rfl,an⟩,by decide,rfl,⟨by omega,hnext hz⟩,by omega⟩;show some (Value.int .i64 (IntKind.i64.wrap ((k:Int)+1)))=_;rw[b5 (by omega)];rfl
  ·have h1:((k+1:Nat):Int)≠N.src:=λ e=>hz (λ h=>absurd e h);have h2:((k+1:Nat):Int)≠N.snk:=λ e=>hz (λ _ h=>absurd e h);have h3:x≠0:=λ e=>hz (λ _ _=>hxv.symm.trans e);refine ad (aa (ah [] rfl ?_));refine ab [] (af 1 rfl) rfl ?_;refine ah [] rfl ?_;refine bj 29 rfl h1 ?_;refine ah [4] rfl ?_;refine ab [4] (af 1 rfl) rfl ?_;refine ah [4] rfl ?_;refine bj 35 rfl h2 ?_;refine ah [4,10] rfl ?_;refine ab [4,10] (aG rfl (by omega)) rfl ?_;refine ab [4,10] (aE 0 rfl rfl rfl (bR hx)) rfl ?_;refine ae [4,10] rfl ?_;refine aC rfl (λ _=>?_) (λ h=>absurd h3 h);refine ad (aa (ae [] rfl ?_));refine aA [] (by decide) rfl (ax ⟨_,rfl,?_,rfl⟩);rw[ur hW (λ hall=>hz (hall _ (by omega)))];rfl
 ·refine ad (aa (ae [] rfl ?_));refine aA [] (by decide) rfl (ax ⟨_,rfl,?_,rfl⟩);rw[qS hW (λ v hv=>hall v (by omega))];rfl
theorem eY(N:aO)(hN:N.Fits)(hR:N.Right)(A:OA)(c b o:Nat)(hA:N.arcs≠[]->A=some ⟨b,o,none⟩)(f:LI)(F:OA)(cf bf of:Nat)(hF:f≠[]->F=some ⟨bf,of,none⟩)(hf:∀ x∈f,bU x)(hfl:f.length*8<=140737488351232):
 Fn 17 [bx N A c,.slice F f.length cf] [] [.seg b o (arcs N.arcs),.seg bf of (ay f)] λ v H'=>(v=qI (da (N.arcs.zip f) N.snk,0)/\aK N f\/v=qI (0,el N f)/\¬ aK N f)/\H'=[]:=by
 refine aH Tryz.func17 rfl rfl λ w0=>?_;refine ad (aa ?_);refine bz (cs:=bJ N A c) rfl rfl rfl (λ _=>rfl) λ p=>?_;refine ae [] rfl ?_;refine ad (ad (aa ?_));refine ab [] (v:=bx N A c) (af 0 rfl) rfl ?_;refine ah [] rfl ?_;refine ao [] (qP N hN hR A c b o hA f F cf bf of hF hf hfl) rfl (by kernel_rfl) ⟨⟨1,_,by simp,rfl,ak _ _ _,au⟩,⟨2,_,by simp,rfl,ak _ _ _,au⟩,an⟩ (λ _=>rfl) ?_;rintro v H' ⟨rfl,rfl⟩;refine⟨rfl,?_⟩;refine ae [] rfl ?_;refine ad (aa (ae [] rfl ?_));refine aC rfl (λ h=>?_) (λ h=>aq ?_)
 ·refine ad (aa (ae [] rfl ?_));refine aA [] (by decide) rfl (ax ⟨_,rfl,.inr ⟨rfl,λ hf=>h (cX.2 hf)⟩,rfl⟩)
 have hW:aK N f:=cX.1 (GQ.1 h);have hnn:=hR.nodes;have hsk:=hR.snk;obtain⟨n,hn⟩:∃ n:Nat,N.nodes=n:=⟨N.nodes.toNat,by omega⟩;obtain⟨s,hs⟩:∃ s:Nat,N.snk=s:=⟨N.snk.toNat,by omega⟩;have hX:=hW.toRanged.exc hR n hn s;have hXl:=mj n N.arcs f;have T:=oG n N.src N.snk A F c cf b o bf of N.arcs f (by omega) hA (λ hne=>hF (λ h0=>hne (by have:=hW.len;rw[h0] at this;exact GT.1 this.symm))) hW.len hR.len (λ a ha=>by have:=hR.arc a ha;omega);rw[<- hn] at T;obtain⟨x,hx⟩:∃ x,(ul n N.arcs f)[s]?=some x:=⟨(ul n N.arcs f)[s]'(by omega),Gy (by omega)⟩
 have hxv:x=da (N.arcs.zip f) N.snk:=by
  rw[GD,hx] at hX;rw[hs];exact hX
 refine ad ?_;refine bq 9 (cY [0,1,3,4]++[(2,false)]++cY [5]++[(6,false)]++cY [7,8]) [0] (by kernel_rfl) (by decide) rfl ?_;refine aj [] rfl (v:=bx N A c) (af 0 rfl) rfl ?_;refine az [] rfl ?_;refine aj [] rfl (af 0 rfl) rfl ?_;refine aY rfl ?_;refine cL [] T rfl rfl rfl (by rw[hW.len];rfl) (by kernel_rfl) ⟨⟨1,_,by simp,rfl,ak _ _ _,au⟩,⟨2,_,by simp,rfl,ak _ _ _,au⟩,an⟩ (λ _=>rfl) ?_;rintro v H' ⟨g,rfl,rfl⟩;refine⟨rfl,ai ⟨⟨[1],by decide,rfl⟩,?_⟩⟩;refine dr 17 (v':=.int .i64 s) rfl (Gz (Value.int .i64) hs) ?_;refine aj [] rfl (aG rfl (by omega)) rfl ?_;refine aY rfl ?_;refine ab [] (aE 0 rfl rfl rfl (bR hx)) rfl ?_;refine ai ⟨⟨[1],by decide,rfl⟩,?_⟩;refine dy [] rfl ?_;refine ai ?_;exact aA [] (by decide) rfl (ax ⟨_,rfl,.inl ⟨by rw[hxv];rfl,hW⟩,rfl⟩)
theorem xf(n:Int):IntKind.i64.wrap ((BitVec.ofInt IntKind.i64.bits n&&& BitVec.ofInt IntKind.i64.bits 1).toNat:Int)=n%2:=by
 have h:(BitVec.ofInt IntKind.i64.bits n&&& BitVec.ofInt IntKind.i64.bits 1).toNat=(n%2).toNat:=by
  rw[BitVec.toNat_and,BitVec.toNat_ofInt,BitVec.toNat_ofInt];have e1:((1:Int)%((2^IntKind.i64.bits:Nat):Int)).toNat=1:=by decide
  rw[e1,Nat.and_one_is_mod];have e2:((2^IntKind.i64.bits:Nat):Int)=18446744073709551616:=by decide
  rw[e2];omega
 rw[h,b5 (by omega)];omega
def dn(a:dM)(r:Nat):Int×Int:=if r%2=1 then (a.to,a.fr) else (a.fr,a.to)
def cE(N:aO)(r:Nat):Int×Int:=match N.arcs[r/2]? with
 |some a=>dn a r
 |none=>(0,0)
theorem gz(N:aO)(A:OA)(c b o:Nat)(hA:N.arcs≠[]->A=some ⟨b,o,none⟩)(hl:N.arcs.length<=2000)(r:Nat)(hr:r<2*N.arcs.length):
 Fn 89 [bx N A c,.int .i64 r] [] [.seg b o (arcs N.arcs)] λ v H'=>v=qI (cE N r)/\H'=[]:=by
 obtain rfl:=hA (by intro h;rw[h] at hr;simp at hr);obtain⟨a,ha⟩:∃ a,N.arcs[r/2]?=some a:=⟨N.arcs[r/2]'(by omega),Gy (by omega)⟩;have he:cE N r=dn a r:=by unfold cE;rw[ha]
 have hq:IntKind.i64.wrap ((r:Int).tdiv 2)=((r/2:Nat):Int):=by rw[b5 (by rw[I3 (by omega)];omega),I3 (by omega)];omega
 rw[he];refine aH Tryz.func89 rfl rfl λ w0=>?_;refine ad (aa ?_);refine bz (cs:=bJ N (some ⟨b,o,none⟩) c) rfl rfl rfl (λ _=>rfl) λ p=>?_;refine ae [] rfl ?_;refine ad (ad (aa (ah [] rfl ?_)));refine bd 9 rfl (by omega) ?_;refine ah [2] rfl ?_;refine aI 11 (v':=.int .i64 ((r/2:Nat):Int)) rfl (Gz (Value.int .i64) hq) ?_;refine ab [2] (af 0 rfl) rfl ?_;refine ae [2] rfl ?_;refine aC rfl (λ h=>absurd h (by omega)) (λ _=>aq ?_);refine ad (aa (ah [] rfl ?_));refine ab [] (af 0 rfl) rfl ?_;refine ah [] rfl ?_;refine aI 20 (v':=.int .i64 ((r/2:Nat):Int)) rfl (Gz (Value.int .i64) hq) ?_;refine ab [] (eo rfl (by omega)) rfl ?_;refine ab [] (bc 1 rfl rfl (fX ha)) rfl ?_;refine bu rfl rfl rfl (λ _=>rfl) λ q=>?_;refine aB 0 rfl [] rfl ?_;refine ai ?_;refine eS [(6,.pointer (some ⟨q,0,none⟩))] [blk q 37 [.int .i64 (dn a r).1,.int .i64 (dn a r).2,.int .i64 a.cap]] ?_ ?_
 ·refine ad (aa (ae [] rfl ?_));have hand:IntKind.i64.wrap ((BitVec.ofInt IntKind.i64.bits (r:Int)&&& BitVec.ofInt IntKind.i64.bits 1).toNat:Int)=(r:Int)%2:=xf r;refine aC rfl (λ h=>?_) (λ h=>aq ?_)
  ·rw[hand] at h;have e:dn a r=(a.to,a.fr):=by unfold dn;rw[if_pos (by omega)]
   rw[e];refine aa (ah [] rfl ?_);refine ab [] (af 0 rfl) rfl ?_;refine ah [] rfl ?_;refine ab [] (af 0 rfl) rfl ?_;refine ah [] rfl ?_;refine aB 0 rfl [] rfl ?_;refine ah [] rfl ?_;refine aB 0 rfl [] rfl ?_;refine ai ?_;exact⟨[0],⟨rfl,an⟩,by decide,rfl⟩
  ·rw[hand] at h;have e:dn a r=(a.fr,a.to):=by unfold dn;rw[if_neg (by omega)]
   rw[e];exact⟨[0],⟨rfl,an⟩,by decide,rfl⟩
 ·refine ad ?_;refine bq 6 (cY [0,1,2,3,4,5]) [0] (by kernel_rfl) (by decide) rfl ?_;refine az [] rfl ?_;refine aj [] rfl (af 0 rfl) rfl ?_;refine az [] rfl ?_;refine aj [] rfl (af 0 rfl) rfl ?_;refine dy [] rfl ?_;refine ai ?_;exact aA [] (by decide) rfl (ax ⟨_,rfl,rfl,rfl⟩)
def aW(ps:List (dM×Int)):LI:=ps.flatMap λ p=>[p.1.cap-p.2,p.2]
theorem de(ps:List (dM×Int)):(aW ps).length=2*ps.length:=by
 induction ps with
 |nil=>rfl
 |cons p ps ih=>
  have e:aW (p::ps)=[p.1.cap-p.2,p.2]++aW ps:=by simp[aW]
  rw[e,GE,ih];simp;omega
theorem v7{ps:List (dM×Int)}{k:Nat}{p:dM×Int}(h:ps[k]?=some p):aW (ps.take (k+1))=aW (ps.take k)++[p.1.cap-p.2,p.2]:=by
 rw[GW,h];simp[aW]
theorem nk(N:aO)(hN:N.Fits)(hR:N.Right)(A:OA)(c b o:Nat)(hA:N.arcs≠[]->A=some ⟨b,o,none⟩)(f:LI)(F:OA)(cf bf of:Nat)(hF:f≠[]->F=some ⟨bf,of,none⟩)(hf:∀ x∈f,bU x)(hfl:f.length*8<=140737488351232):
 Fn 88 [bx N A c,.slice F f.length cf] [] [.seg b o (arcs N.arcs),.seg bf of (ay f)] λ v H'=>
  (aK N f/\∃ A' c',v=.tuple #[.slice A' (2*N.arcs.length) c',.int .i64 0]/\H'=[.own (.slice A' (2*N.arcs.length) c') 2 1 (2*N.arcs.length) (ay (aW (N.arcs.zip f)))])\/
  (¬ aK N f/\v=.tuple #[.slice none 0 0,.int .i64 (el N f)]/\H'=[]):=by
 refine aH Tryz.func88 rfl rfl λ w0=>?_;refine ad (aa ?_);refine bz (cs:=bJ N A c) rfl rfl rfl (λ _=>rfl) λ p=>?_;refine ae [] rfl ?_;refine ad (ad (aa ?_));refine ab [] (v:=bx N A c) (af 0 rfl) rfl ?_;refine ah [] rfl ?_;refine ao [] (qP N hN hR A c b o hA f F cf bf of hF hf hfl) rfl (by kernel_rfl) ⟨⟨1,_,by simp,rfl,ak _ _ _,au⟩,⟨2,_,by simp,rfl,ak _ _ _,au⟩,an⟩ (λ _=>rfl) ?_;rintro v H' ⟨rfl,rfl⟩;refine⟨rfl,?_⟩;refine ae [] rfl ?_;refine ad (aa (ae [] rfl ?_));refine aC rfl (λ h=>?_) (λ h=>aq ?_)
 ·refine ad (aa (ae [] rfl ?_));refine aA [] (by decide) rfl (ax ⟨_,rfl,.inr ⟨λ hf=>h (cX.2 hf),rfl,rfl⟩⟩)
 have hW:aK N f:=cX.1 (GQ.1 h);have hlen:=hW.len;have hl2:=hR.len;refine ad (aa (ah [] rfl ?_));refine aI 18 (v':=.int .i64 ((2*f.length:Nat):Int)) rfl (Gz (Value.int .i64) ((b5 (n:=2*(f.length:Int)) (by omega)).trans (by omega))) ?_;refine di (n:=0) (c:=2*f.length) rfl rfl rfl rfl rfl rfl (by omega) (by omega) (by omega) (λ _=>rfl) λ g=>?_;refine ae [] rfl ?_;refine ad (ad (aa (ae [] rfl ?_)));refine av ?_
 refine bP (σ:=Nat×OA×Nat) (λ s=>[(22,.int .i64 s.1),(21,.int .i64 f.length),(20,.slice F f.length cf),(7,.slice s.2.1 (2*s.1) s.2.2),(2,.pointer (some ⟨p,0,none⟩))])
  (λ s=>[.own (.slice s.2.1 (2*s.1) s.2.2) 2 1 (2*s.1) (ay (aW ((N.arcs.zip f).take s.1))),blk p 33 (bJ N A c),.seg b o (arcs N.arcs),.seg bf of (ay f)]) (λ s=>s.1<=f.length) (λ s=>f.length-s.1)
  (0,some ⟨g,0,none⟩,2*f.length) [0,1,2,3] ⟨rfl,rfl,rfl,rfl,rfl,an⟩ (by decide) ?_ (GI _) ?_
 ·rw[show made [Value.int .i64 0] (0*1)=[] from GT.1 (i4 _ _)];show bT _ _=some [.own (.slice (some ⟨g,0,none⟩) 0 (2*f.length)) 2 1 0 (ay (aW ((N.arcs.zip f).take 0))),blk p 33 (bJ N A c),.seg b o (arcs N.arcs),.seg bf of (ay f)];rw[List.take_zero];rfl
 rintro⟨k,A1,c1⟩ hk;simp only at hk ⊢;refine ad (aa (ae [] rfl ?_));refine ad (aC rfl (λ hlt=>aq ?_) (λ hge=>a9 ?_))
 ·have hlt:k<f.length:=by omega
  obtain rfl:=hF (by rintro rfl;simp at hlt)
  obtain rfl:=hA (by intro h;have h0:N.arcs.length=0:=by rw[h];rfl
                     omega)
  obtain⟨x,hx⟩:∃ x,f[k]?=some x:=⟨f[k],Gy hlt⟩;obtain⟨a,ha⟩:∃ a,N.arcs[k]?=some a:=⟨N.arcs[k],Gy (by omega)⟩;obtain⟨_,_,hcap⟩:=eg ha;have hz:(N.arcs.zip f)[k]?=some (a,x):=by simp[Hr,ha,hx]
  have hb:=hW.all _ (GB hz);have hB:=(hN.arc a (GB ha)).2.2;simp only at hb;unfold bU at hB;refine ad (av ?_);refine ad (aa (ah [] rfl ?_));refine ab [] (bZ rfl hlt) rfl ?_;refine ab [] (bc 3 rfl rfl (bR hx)) rfl ?_;refine ae [] rfl ?_;refine aa (ah [] rfl ?_);refine ab [] (af 1 rfl) rfl ?_;refine ah [] rfl ?_;refine ab [] (eo rfl (by omega)) rfl ?_;refine ah [] rfl ?_;refine ab [] (bc 2 rfl rfl hcap) rfl ?_;refine ah [] rfl ?_;refine aI 35 (v':=.int .i64 (a.cap-x)) rfl (Gz (Value.int .i64) (b5 (by omega))) ?_;refine bC rfl rfl rfl rfl rfl rfl rfl (λ _=>rfl) λ g2=>?_;refine bn (n:=2*k) (m:=2) (off:=0) (news:=[.int .i64 (a.cap-x),.int .i64 x]) 1 0 rfl rfl rfl rfl rfl rfl (by decide) rfl rfl (aD g2 _ _ (0,0)) (λ _=>rfl) rfl rfl (by omega) (by omega) (λ _ _=>rfl) λ A2 c2=>?_;refine ae [] rfl ?_;refine aa (ae [] rfl ?_);refine⟨(k+1,A2,c2),[1,2,3,4],⟨?_,rfl,rfl,rfl,rfl,an⟩,by decide,?_,by simp only;omega,by simp only;omega⟩
  ·show some (Value.int .i64 (IntKind.i64.wrap ((k:Int)+1)))=_;rw[b5 (by omega)];rfl
  ·simp only[v7 hz];rw[show ay (aW ((N.arcs.zip f).take k)++[a.cap-x,x])=ay (aW ((N.arcs.zip f).take k))++[.int .i64 (a.cap-x),.int .i64 x] by simp[ay]];rfl
 ·have hk':k=N.arcs.length:=by omega
  subst hk';rw[Hy (by simp;omega)];refine ad (aa (ae [] rfl ?_));refine aA [0] (by decide) rfl (ax ⟨_,rfl,.inl ⟨hW,A1,c1,rfl,rfl⟩⟩)
inductive oH (N:aO) (rm:LI) (least:Int):Int->Prop
 |src:oH N rm least N.src
 |step (u:Int) (r:Nat):oH N rm least u->r<rm.length->(cE N r).1=u->least<=rm.getD r 0->oH N rm least (cE N r).2
theorem gN{N:aO}(hR:N.Right){r:Nat}(hr:r<2*N.arcs.length):(1<=(cE N r).1/\(cE N r).1<=N.nodes)/\(1<=(cE N r).2/\(cE N r).2<=N.nodes):=by
 obtain⟨a,ha⟩:∃ a,N.arcs[r/2]?=some a:=⟨N.arcs[r/2]'(by omega),Gy (by omega)⟩;have h:=hR.arc a (GB ha);unfold cE;rw[ha];unfold dn;simp only;split<;>exact⟨by omega,by omega⟩
def tr(N:aO)(k:Nat)(v:Nat):LI:=((List.range k).filter λ (r:Nat)=>decide ((cE N r).1=(v:Int))).map λ (r:Nat)=>(r:Int)
theorem xJ(N:aO)(k v:Nat):tr N (k+1) v=tr N k v++(if (cE N k).1=(v:Int) then [(k:Int)] else []):=by
 unfold tr;rw[Iz,Iu,G5]
 congr 1
 by_cases h:(cE N k).1=(v:Int)<;>simp[h]
theorem ly(N:aO)(k v:Nat):(tr N k v).length<=k:=by
 unfold tr;rw[GH];exact HK (HN _ _) (by simp)
theorem sb{N:aO}{k v:Nat}{x:Int}:x∈tr N k v↔∃ r:Nat,r<k/\(cE N r).1=(v:Int)/\x=r:=by
 unfold tr;simp only[G0,Ig,Hs,Ha]
 constructor
 ·rintro⟨r,⟨h1,h2⟩,rfl⟩;exact⟨r,h1,h2,rfl⟩
 ·rintro⟨r,h1,h2,rfl⟩;exact⟨r,⟨h1,h2⟩,rfl⟩
structure DS where
 met:LB
 Aw:OA
 cw:Nat
 wait:LI
 pos:LN
 vals:LV_
def zL(N:aO)(rm:LI)(least:Int)(met:LB)(r:Int):Prop:=rm.getD r.toNat 0<least\/∃ t:Nat,(cE N r.toNat).2=t/\met[t]?=some true
structure sD (N:aO) (rm:LI) (least:Int) (rows:List ec) (n s0:Nat) (gv:Nat->Nat) (s:DS):Prop where
 ml:s.met.length=n+1
 vl:s.vals.length=n+1
 pl:s.pos.length=n+1
 sound:∀ v:Nat,s.met[v]?=some true->v<=n/\oH N rm least v
 src:s.met[s0]?=some true
 wait:∀ x∈s.wait,∃ v:Nat,x=v/\v<=n/\s.met[v]?=some true
 done:∀ (v:Nat) (row:ec) (q:Nat),rows[v]?=some row->s.pos[v]?=some q->q<=row.l.length/\∀ (j:Nat) (r:Int),j<q->row.l[j]?=some r->zL N rm least s.met r
 full:∀ v:Nat,s.met[v]?=some true->(v:Int)∉s.wait->∀ row,rows[v]?=some row->∀ r∈row.l,zL N rm least s.met r
 wl:s.wait.length+s.met.count false<=n+1
 val:∀ (v:Nat) (row:ec) (q:Nat),rows[v]?=some row->s.pos[v]?=some q->∃ A' c',s.vals[v]?=some (.slice A' (row.l.length-q) c')/\row.l.length-q<=c'/\(0<row.l.length-q->A'=some ⟨gv v,q,none⟩)
theorem jX{l:LB}{t v:Nat}(h:l[v]?=some true):(l.set t true)[v]?=some true:=by
 by_cases e:t=v
 ·subst e;rw[GO (GC.1 h).1]
 ·rw[GR e];exact h
theorem zL.mono{N:aO}{rm:LI}{least:Int}{met:LB}{r:Int}(t:Nat)(h:zL N rm least met r):zL N rm least (met.set t true) r:=
 h.imp id λ ⟨u,h1,h2⟩=>⟨u,h1,jX h2⟩
theorem kQ:∀ (l:LB) (t:Nat),l[t]?=some false->(l.set t true).count false+1=l.count false
 |[],t,h=>by simp at h
 |b::l,0,h=>by simp at h;subst h;simp
 |b::l,t+1,h=>by
  have:=kQ l t (by simpa using h);simp only[List.set_cons_succ,List.count_cons];omega
theorem sD.push{N:aO}{rm:LI}{least:Int}{rows:List ec}{n s0:Nat}{gv:Nat->Nat}{s:DS}(h:sD N rm least rows n s0 gv s){v q i t r:Nat}{row:ec}(hv:s.met[v]?=some true)(hrow:rows[v]?=some row)
 (hall:∀ (j:Nat) (r:Int),j<q+i->row.l[j]?=some r->zL N rm least s.met r) (hr:row.l[q+i]?=some (r:Int)) (hu:(cE N r).1=(v:Int)) (ht:(cE N r).2=(t:Int)) (htn:t<=n) (hrm:r<rm.length) (hge:least<=rm.getD r 0) (hmf:s.met[t]?=some false)
 {A':OA} {c':Nat} (hc:row.l.length-(q+i+1)<=c') (hA:0<row.l.length-(q+i+1)->A'=some ⟨gv v,q+i+1,none⟩) (Aw:OA) (cw:Nat):
 sD N rm least rows n s0 gv ⟨s.met.set t true,Aw,cw,s.wait++[(t:Int)],s.pos.set v (q+i+1),s.vals.set v (.slice A' (row.l.length-(q+i+1)) c')⟩:=by
 have hR:=(h.sound v hv).2;have hvn:=(h.sound v hv).1;have htl:t<s.met.length:=by rw[h.ml];omega
 have hnew:zL N rm least (s.met.set t true) (r:Int):=.inr ⟨t,by rw[G1];exact ht,by rw[GO htl]⟩;have hlt:q+i<row.l.length:=(GC.1 hr).1;refine⟨by simp[h.ml],by simp[h.vl],by simp[h.pl],λ u hu'=>?_,jX h.src,λ x hx=>?_,λ u row' q' hr' hq'=>?_,λ u hu' hnot row' hr'=>?_,by simp only[GE,G7];have:=kQ s.met t hmf;have:=h.wl;omega,λ u row' q' hr' hq'=>?_⟩
 ·simp only at hu';by_cases e:t=u
  ·subst e;have:=oH.step (N:=N) (rm:=rm) (least:=least) v r hR hrm hu hge;rw[ht] at this;exact⟨htn,this⟩
  ·rw[GR e] at hu';exact h.sound u hu'
 ·rcases GK.1 hx with hx|hx
  ·obtain⟨u,h1,h2,h3⟩:=h.wait x hx;exact⟨u,h1,h2,jX h3⟩
  ·exact⟨t,GF.1 hx,htn,by simp only;rw[GO htl]⟩
 ·simp only at hq';by_cases e:v=u
  ·subst e;rw[List.getElem?_set_self (by rw[h.pl];omega)] at hq';simp only[Option.some.injEq] at hq';subst hq';rw[hrow] at hr';simp only[Option.some.injEq] at hr';subst hr';refine⟨by omega,fun j x hj hx=>?_⟩;by_cases e2:j=q+i
   ·subst e2;rw[hr] at hx;simp only[GA] at hx;subst hx;exact hnew
   ·exact (hall j x (by omega) hx).mono t
  ·rw[GR e] at hq';obtain⟨h1,h2⟩:=h.done u row' q' hr' hq';exact⟨h1,λ j x hj hx=>(h2 j x hj hx).mono t⟩
 ·simp only at hu' hnot;have hne:t≠u:=λ e=>hnot (by rw[<- e];simp);rw[GR hne] at hu';intro x hx;exact (h.full u hu' (λ hm=>hnot (GK.2 (.inl hm))) row' hr' x hx).mono t
 ·simp only at hq' ⊢;by_cases e:v=u
  ·subst e;rw[GO (by rw[h.pl];omega)] at hq';simp only[GA] at hq';subst hq';rw[hrow] at hr';simp only[GA] at hr';subst hr';exact⟨A',c',by rw[GO (by rw[h.vl];omega)],hc,hA⟩
  ·rw[GR e] at hq';rw[GR e];exact h.val u row' q' hr' hq'
theorem sD.pop{N:aO}{rm:LI}{least:Int}{rows:List ec}{n s0:Nat}{gv:Nat->Nat}{s:DS}(h:sD N rm least rows n s0 gv s){v:Nat}{w:LI}{row:ec}(hw:s.wait=w++[(v:Int)])(hrow:rows[v]?=some row)
 (hall:∀ r∈row.l,zL N rm least s.met r) (Aw:OA) (cw:Nat):sD N rm least rows n s0 gv ⟨s.met,Aw,cw,w,s.pos,s.vals⟩:=by
 refine⟨h.ml,h.vl,h.pl,h.sound,h.src,λ x hx=>h.wait x (by rw[hw];simp[hx]),h.done,λ u hu hnot row' hr'=>?_,by have:=h.wl;rw[hw,GE] at this;simp only;omega,h.val⟩;by_cases e:u=v
 ·subst e;rw[hrow] at hr';simp only[GA] at hr';subst hr';exact hall
 ·exact h.full u hu (by rw[hw];intro hm;rcases List.mem_append.1 hm with hm|hm;· exact hnot hm
                        ·have:=GF.1 hm;omega) row' hr'
theorem sD.final{N:aO}{rm:LI}{least:Int}{rows:List ec}{n s0:Nat}{gv:Nat->Nat}{s:DS}(h:sD N rm least rows n s0 gv s)(hw:s.wait=[])(hs:N.src=s0)(hrows:rows.length=n+1)(htr:∀ (v:Nat) (r:ec),rows[v]?=some r->r.l=tr N rm.length v)(hpos:∀ r,r<rm.length->∃ k:Nat,(cE N r).1=k)
 (v:Nat):s.met[v]?=some true↔v<=n/\oH N rm least v:=by
 refine⟨h.sound v,λ ⟨_,hr⟩=>?_⟩
 have key:∀ x:Int,oH N rm least x->∀ v:Nat,x=v->s.met[v]?=some true:=by
  intro x hx
  induction hx with
  |src=>intro v e;rw[hs] at e;have:s0=v:=by omega
        subst this;exact h.src
  |step u r _ hlt hu hge ih=>
   intro v e;obtain⟨k,hk⟩:=hpos r hlt;rw[hu] at hk;have hm:=ih k hk;have hkn:=(h.sound k hm).1;obtain⟨row,hrow⟩:∃ row,rows[k]?=some row:=⟨rows[k]'(by omega),Gy (by omega)⟩;have hmem:(r:Int)∈row.l:=by rw[htr k row hrow];exact sb.2 ⟨r,hlt,by rw[hu,hk],rfl⟩
   rcases h.full k hm (by rw[hw];simp) row hrow _ hmem with h1|⟨t,h1,h2⟩
   ·rw[G1] at h1;omega
   ·rw[Int.toNat_natCast] at h1;have:t=v:=by omega
    rw[<- this];exact h2
 exact key v hr v rfl
def Eu(N:aO)(f:LI)(least:Int)(n:Nat)(v:Value)(H':Heap):Prop:=
 (aK N f/\1<=least/\∃ (l:LB) (g:Nat),l.length=n+1/\(∀ v:Nat,l[v]?=some true↔v<=n/\oH N (aW (N.arcs.zip f)) least v)/\v=.tuple #[.slice (some ⟨g,0,none⟩) (n+1) (n+1),.int .i64 0]/\
  H'=[.own (.slice (some ⟨g,0,none⟩) (n+1) (n+1)) 4 1 (n+1) (ft l)])\/
 (¬ aK N f/\v=.tuple #[.slice none 0 0,.int .i64 (el N f)]/\H'=[])\/(aK N f/\least<1/\v=.tuple #[.slice none 0 0,.int .i64 3]/\H'=[])
set_option maxHeartbeats 1000000 in
theorem AF(N:aO)(hN:N.Fits)(hR:N.Right)(A:OA)(c b o:Nat)(hA:N.arcs≠[]->A=some ⟨b,o,none⟩)(f:LI)(F:OA)(cf bf of:Nat)(hF:f≠[]->F=some ⟨bf,of,none⟩)(hf:∀ x∈f,bU x)(hfl:f.length*8<=140737488351232)(least:Int)(_hl:bU least)
 (n:Nat) (hn:N.nodes=n):Fn 46 [bx N A c,.slice F f.length cf,.int .i64 least] [] [.seg b o (arcs N.arcs),.seg bf of (ay f)] (Eu N f least n):=by
 have hnn:=hR.nodes;have hl2:=hR.len;refine aH Tryz.func46 rfl rfl λ w0=>?_;refine ad (aa ?_);refine bz (cs:=bJ N A c) rfl rfl rfl (λ _=>rfl) λ p=>?_;refine ae [] rfl ?_;refine w6 ?_;refine ad (aa ?_);refine ab [] (v:=bx N A c) (af 0 rfl) rfl ?_;refine ah [] rfl ?_;refine ao [] (nk N hN hR A c b o hA f F cf bf of hF hf hfl) rfl (by kernel_rfl) ⟨⟨1,_,by simp,rfl,ak _ _ _,au⟩,⟨2,_,by simp,rfl,ak _ _ _,au⟩,an⟩ (λ _=>rfl) ?_;rintro v H' (⟨hW,A1,c1,rfl,rfl⟩|⟨hW,rfl,rfl⟩)
 case inr=>
  refine⟨rfl,?_⟩;refine ae [] rfl ?_;refine ad (av (ad (aa (ae [] rfl ?_))));refine aC rfl (λ h=>?_) (λ h=>absurd (cX.1 (GQ.1 h)) hW);refine ad (aa (ae [] rfl ?_));refine aA [] (by decide) rfl (ax ⟨_,rfl,.inr (.inl ⟨hW,rfl,rfl⟩)⟩)
 refine⟨rfl,?_⟩;refine ae [] rfl ?_;refine ad (av (ad (aa (ae [] rfl ?_))));refine aC rfl (λ h=>absurd rfl h) (λ _=>?_);refine ad (aa (ae [] rfl ?_));refine aC rfl (λ h=>?_) (λ hle=>aq ?_)
 ·refine ad (aa (ae [] rfl ?_));refine aA [] (by decide) rfl (ax ⟨_,rfl,.inr (.inr ⟨hW,h,rfl,rfl⟩)⟩)
 obtain⟨rm,hrm⟩:∃ rm,rm=aW (N.arcs.zip f):=⟨_,rfl⟩;have hrl:rm.length=2*N.arcs.length:=by rw[hrm,de,Ih,hW.len,IF]
 rw[<- hrm];refine ad (aa (ah [] rfl ?_));refine ab [] (af 1 rfl) rfl ?_;refine ah [] rfl ?_;refine aI 36 (v':=.int .i64 ((n+1:Nat):Int)) rfl (Gz (Value.int .i64) ((b5 (n:=N.nodes+1) (by omega)).trans (by omega))) ?_;refine di (n:=n+1) (c:=n+1) rfl rfl rfl rfl rfl rfl (by omega) (by omega) (by omega) (λ _=>rfl) λ g=>?_;refine ae [] rfl ?_;refine ad (ad (aa (ae [] rfl ?_)));refine av ?_;rw[show made [Value.slice none 0 0] ((n+1)*1)=(List.replicate (n+1) dx).map cA by rw[dm,Hf,HY];rfl];refine bH (aF.nils 3 (n+1)) ?_
 refine b8 (σ:=Nat×List ec) (λ s=>[(40,.int .i64 s.1),(39,.int .i64 ((2*N.arcs.length:Nat):Int)),(38,.slice A1 (2*N.arcs.length) c1),(10,.slice (some ⟨g,0,none⟩) (n+1) (n+1)),(8,.slice A1 (2*N.arcs.length) c1),(3,.pointer (some ⟨p,0,none⟩)),(2,.int .i64 least)])
  (λ s=>[.own (.slice (some ⟨g,0,none⟩) (n+1) (n+1)) 23 1 (n+1) (s.2.map cA),.own (.slice A1 (2*N.arcs.length) c1) 2 1 (2*N.arcs.length) (ay rm),blk p 33 (bJ N A c),.seg b o (arcs N.arcs),.seg bf of (ay f)]++s.2.map (aV 3))
  (λ s=>s.1<=2*N.arcs.length/\s.2.length=n+1/\∀ (v:Nat) (r:ec),s.2[v]?=some r->r.l=tr N s.1 v) (λ s=>2*N.arcs.length-s.1)
  (0,List.replicate (n+1) dx) ⟨rfl,rfl,rfl,rfl,rfl,rfl,rfl,an⟩ aF.refl ⟨GI _,by simp,λ v r h=>?_⟩ ?_
 ·rw[GU] at h;split at h
  ·simp only[GA] at h;subst h;rfl
  ·cases h
 rintro⟨k,rows⟩ ⟨hk,hrows,htr⟩;simp only at hk hrows htr ⊢;refine ad (aa (ae [] rfl ?_));refine ad (aC rfl (λ hlt=>aq ?_) (λ hge=>a9 ?_))
 ·have hlt:k<2*N.arcs.length:=by omega
  have he:=gN hR hlt;obtain⟨v,hv⟩:∃ v:Nat,(cE N k).1=v:=⟨(cE N k).1.toNat,by omega⟩;have hvn:v<rows.length:=by omega
  obtain⟨row,hrow⟩:∃ r,rows[v]?=some r:=⟨rows[v],Gy hvn⟩;have hrl':=htr v row hrow;have hlen:=ly N k v;rw[<- hrl'] at hlen;refine ad (av ?_);refine ad (aa (ae [] rfl ?_));refine ad (aa ?_);refine ab [] (v:=bx N A c) (af 2 rfl) rfl ?_;refine ah [] rfl ?_;refine ao [] (gz N A c b o hA hl2 k hlt) rfl (by kernel_rfl) ⟨⟨3,_,by simp,rfl,ak _ _ _,au⟩,an⟩ (λ _=>rfl) ?_;rintro v' H' ⟨rfl,rfl⟩;refine⟨rfl,?_⟩;refine ae [] rfl ?_;refine aX 12 (v':=.int .i64 (v:Int)) rfl (Gz (Value.int .i64) hv) ?_;refine aa (ah [] rfl ?_);refine ab [] (aG rfl (by omega)) rfl ?_;refine ab [] (aE (v:=cA row) 0 rfl rfl rfl (show (rows.map cA)[v]?=some (cA row) by rw[GJ,hrow];rfl)) rfl ?_;refine ah [] rfl ?_;refine bC rfl rfl rfl rfl rfl rfl rfl (λ _=>rfl) λ g2=>?_;show JL _ _ _ _ _ ([_,_,_,_,_,_]++rows.map (aV 3));refine bX (aF.front (i:=v) (c:=aV 3 row) (by rw[GJ,hrow];rfl)) ?_;refine bn (n:=row.l.length) (m:=1) (off:=0) (news:=ay [(k:Int)]) 0 1 rfl rfl rfl rfl rfl rfl (by decide) rfl rfl (aD g2 _ _ (0,0)) (λ _=>rfl) rfl rfl (by omega) (by omega) (λ _ _=>rfl) λ A2 c2=>?_;rw[show row.l.length+1=(row.l++[(k:Int)]).length by simp,show ay row.l++ay [(k:Int)]=ay (row.l++[(k:Int)]) by simp[ay]];refine ab [] (aG rfl (by omega)) rfl ?_;refine aS 2 rfl rfl rfl rfl (dC rfl rfl rfl (by rw[GH];omega)) [] rfl ?_;refine ai ?_;refine aa (ae [] rfl ?_);refine⟨(k+1,rows.set v ⟨A2,c2,row.l++[(k:Int)]⟩),⟨?_,rfl,rfl,rfl,rfl,rfl,rfl,an⟩,?_,⟨by simp only;omega,by simp only[Hp];omega,λ u r hu=>?_⟩,by simp only;omega⟩
  ·show some (Value.int .i64 (IntKind.i64.wrap ((k:Int)+1)))=_;rw[b5 (by omega)];rfl
  ·simp only[Iv];refine aF.trans (aF.sub (List.Sublist.cons_cons _ (Hg _ _))) (aF.back (A:=[_,_,_,_,_]) (by rw[GH];exact hvn))
  ·rw[xJ];by_cases huv:v=u
   ·subst huv;rw[GO hvn] at hu;simp only[GA] at hu;rw[<- hu,if_pos hv,hrl']
   ·rw[GR huv] at hu;rw[if_neg (by omega),Hc];exact htr u r hu
 ·have hk':k=2*N.arcs.length:=by omega
  subst hk'
  have hrowA0:∀ w,cS w0 [] w ([.own (.slice (some ⟨g,0,none⟩) (n+1) (n+1)) 23 1 (n+1) (rows.map cA),.own (.slice A1 (2*N.arcs.length) c1) 2 1 (2*N.arcs.length) (ay rm),blk p 33 (bJ N A c),.seg b o (arcs N.arcs),.seg bf of (ay f)]++rows.map (aV 3))->
   ∀ v:Nat,∃ gv:Nat,∀ row,rows[v]?=some row->row.l.length<=row.c/\(ay row.l≠[]->row.A=some ⟨gv,0,none⟩):=by
   intro w hw v
   cases hv:rows[v]? with
   |none=>exact⟨0,λ row h=>by cases h⟩
   |some row=>
    obtain⟨_,h2,h3,h4⟩:=a8 (X:=⟨w0,[],⟨0,[]⟩⟩) (v+5) (show _=some (aV 3 row) by show (rows.map (aV 3))[v]?=_;rw[GJ,hv];rfl) w hw;obtain⟨gv,hgv⟩:=bQ h3 h4;exact⟨gv,λ row' h=>by simp only[GA] at h;subst h;exact⟨h2,hgv⟩⟩
  refine bv hrowA0 λ hrowA=>?_;obtain⟨gv,hgv⟩:∃ gv:Nat->Nat,∀ (v:Nat) (row:ec),rows[v]?=some row->row.l.length<=row.c/\(ay row.l≠[]->row.A=some ⟨gv v,0,none⟩):=⟨λ v=>Classical.choose (hrowA v),λ v=>IA (hrowA v)⟩;refine bv (a8 1 rfl) λ ⟨_,_,hA1,_⟩=>?_
  clear hrowA hrowA0
  have hsrc:=hR.src;obtain⟨s0,hs0⟩:∃ s:Nat,N.src=s:=⟨N.src.toNat,by omega⟩;refine ad (aa (ah [] rfl ?_));refine ab [] (af 2 rfl) rfl ?_;refine ah [] rfl ?_;refine aI 62 (v':=.int .i64 ((n+1:Nat):Int)) rfl (Gz (Value.int .i64) ((b5 (n:=N.nodes+1) (by omega)).trans (by omega))) ?_;refine di (n:=n+1) (c:=n+1) rfl rfl rfl rfl rfl rfl (by omega) (by omega) (by omega) (λ _=>rfl) λ gm=>?_;refine ae [] rfl ?_;rw[vj];refine ad (aa (ah [] rfl ?_));refine ab [] (af 3 rfl) rfl ?_;refine aI 66 (v':=.int .i64 (s0:Int)) rfl (Gz (Value.int .i64) hs0) ?_;refine ab [] (aG rfl (by omega)) rfl ?_;refine aS 0 rfl rfl rfl rfl (rk rfl (by simp;omega)) [] rfl ?_;refine ai ?_;refine ad (aa (ah [] rfl ?_));refine ab [] (af 3 rfl) rfl ?_;refine aI 69 (v':=.int .i64 (s0:Int)) rfl (Gz (Value.int .i64) hs0) ?_;refine bC rfl rfl rfl rfl rfl rfl rfl (λ _=>rfl) λ gw=>?_;refine ae [] rfl ?_;refine ad ?_;refine xx ?_;refine bH (λ w h=>h.blkOwn (sz:=1) (n:=1) rfl (by decide)) ?_;refine ad (av ?_);have hgl:∀ (v:Nat) (row:ec),rows[v]?=some row->row.l=tr N rm.length v:=λ v row h=>by rw[hrl];exact htr v row h
  refine b8 (σ:=DS) (λ s=>[(15,.slice s.Aw s.wait.length s.cw),(14,.slice (some ⟨gm,0,none⟩) (n+1) (n+1)),(10,.slice (some ⟨g,0,none⟩) (n+1) (n+1)),(8,.slice A1 (2*N.arcs.length) c1),(3,.pointer (some ⟨p,0,none⟩)),(2,.int .i64 least)])
   (λ s=>[.own (.slice s.Aw s.wait.length s.cw) 3 1 s.wait.length (ay s.wait),.own (.slice (some ⟨gm,0,none⟩) (n+1) (n+1)) 4 1 (n+1) (ft s.met),.own (.slice (some ⟨g,0,none⟩) (n+1) (n+1)) 23 1 (n+1) s.vals,
    .own (.slice A1 (2*N.arcs.length) c1) 2 1 (2*N.arcs.length) (ay rm),blk p 33 (bJ N A c),.seg b o (arcs N.arcs),.seg bf of (ay f)]++rows.map (aV 3))
   (λ s=>sD N rm least rows n s0 gv s) (λ s=>2*s.met.count false+s.wait.length)
   ⟨(List.replicate (n+1) false).set s0 true,some ⟨gw,0,none⟩,1,[(s0:Int)],List.replicate (n+1) 0,rows.map cA⟩ ⟨rfl,rfl,rfl,rfl,rfl,rfl,an⟩ aF.refl ?_ ?_
  ·have hget:∀ v:Nat,((List.replicate (n+1) false).set s0 true)[v]?=some true->v=s0:=by
    intro v hv;by_cases e:s0=v
    ·exact e.symm
    ·rw[GR e,GU] at hv;split at hv<;>simp at hv
   have hs0m:((List.replicate (n+1) false).set s0 true)[s0]?=some true:=GO (by simp;omega);refine⟨by simp,by simp[hrows],by simp,λ v hv=>?_,hs0m,λ x hx=>⟨s0,GF.1 hx,by omega,hs0m⟩,λ v row q hr hq=>?_,λ v hv hnot row hr=>?_,?_,λ v row q hr hq=>?_⟩
   ·obtain rfl:=hget v hv;exact⟨by omega,hs0▸oH.src⟩
   ·have:q=0:=by
     simp only[GU] at hq;split at hq<;>simp at hq
     exact hq.symm
    subst this;exact⟨GI _,λ j r hj=>absurd hj (by omega)⟩
   ·obtain rfl:=hget v hv;exact absurd (by simp) hnot
   ·have:=kQ (List.replicate (n+1) false) s0 (by rw[List.getElem?_replicate,if_pos (by omega)]);have h2:(List.replicate (n+1) false).count false=n+1:=by simp
    simp only[G7];omega
   ·have:q=0:=by
     simp only[GU] at hq;split at hq<;>simp at hq
     exact hq.symm
    subst this;refine⟨row.A,row.c,by simp only[GJ,hr];rfl,by have:=(hgv v row hr).1;omega,λ hp=>(hgv v row hr).2 (λ h0=>?_)⟩;have:row.l.length=0:=by rw[<- bI,h0];rfl
    omega
  intro s hI;refine ad (ad (aa (ae [] rfl ?_)));refine aC rfl (λ hwp=>aq ?_) (λ hwp=>a9 ?_)
  ·have hwl:0<s.wait.length:=by omega
   obtain⟨x,hx⟩:∃ x,s.wait[s.wait.length-1]?=some x:=⟨s.wait[s.wait.length-1]'(by omega),Gy (by omega)⟩;obtain⟨v,rfl,hvn,hvm⟩:=hI.wait x (GB hx)
   have hwsplit:s.wait=s.wait.take (s.wait.length-1)++[(v:Int)]:=by
    have:=HD (s.wait.length-1) s.wait
    have hd:s.wait.drop (s.wait.length-1)=[(v:Int)]:=by
     obtain⟨h1,h2⟩:=GC.1 hx;rw[Hm h1,h2,List.drop_of_length_le (by omega)]
    rw[hd] at this;exact this.symm
   obtain⟨row,hrow⟩:∃ row,rows[v]?=some row:=⟨rows[v]'(by omega),Gy (by omega)⟩;have hrowlen:=ly N rm.length v;rw[<- hgl v row hrow] at hrowlen;obtain⟨q,hq⟩:∃ q,s.pos[v]?=some q:=⟨s.pos[v]'(by have:=hI.pl;omega),Gy (by have:=hI.pl;omega)⟩;obtain⟨A',c',hval,hcc,hAv⟩:=hI.val v row q hrow hq;obtain⟨hqle,hdone⟩:=hI.done v row q hrow hq;refine bv (a8 0 rfl) λ ⟨_,hwc,hAw,_⟩=>?_;obtain⟨gww,hAw⟩:=hAw hwl;have hwb:=hI.wl;refine av (ad (aa (ah [] rfl ?_)));refine aI 77 (v':=.int .i64 ((s.wait.length-1:Nat):Int)) rfl (Gz (Value.int .i64) ((b5 (n:=(s.wait.length:Int)-1) (by omega)).trans (by omega))) ?_;refine ab [] (oF (b:=gww) (by rfl) (by rw[hAw];rfl) rfl rfl rfl (by omega)) rfl ?_;refine ab [] (dz (b:=gww) (off:=0) (i:=s.wait.length-1) (cs:=ay s.wait) (v:=.int .i64 (v:Int)) 0 rfl (by rw[G6];rfl) rfl (aL (λ _=>hAw)) (dw hx)) rfl ?_;refine ae [] rfl ?_;refine ad (ad (aa (ah [] rfl ?_)));refine ab [] (aG rfl (by omega)) rfl ?_;refine ab [] (aE (v:=.slice A' (row.l.length-q) c') 2 rfl rfl rfl hval) rfl ?_;refine ae [] rfl ?_;refine av ?_
   refine b8 (σ:=Nat) (λ i=>[(85,.int .i64 i),(84,.int .i64 ((row.l.length-q:Nat):Int)),(83,.slice A' (row.l.length-q) c'),(16,.int .i64 (v:Int)),(15,.slice s.Aw s.wait.length s.cw),(14,.slice (some ⟨gm,0,none⟩) (n+1) (n+1)),(10,.slice (some ⟨g,0,none⟩) (n+1) (n+1)),(8,.slice A1 (2*N.arcs.length) c1),(3,.pointer (some ⟨p,0,none⟩)),(2,.int .i64 least)])
    (λ _=>[.own (.slice s.Aw s.wait.length s.cw) 3 1 s.wait.length (ay s.wait),.own (.slice (some ⟨gm,0,none⟩) (n+1) (n+1)) 4 1 (n+1) (ft s.met),.own (.slice (some ⟨g,0,none⟩) (n+1) (n+1)) 23 1 (n+1) s.vals,
     .own (.slice A1 (2*N.arcs.length) c1) 2 1 (2*N.arcs.length) (ay rm),blk p 33 (bJ N A c),.seg b o (arcs N.arcs),.seg bf of (ay f)]++rows.map (aV 3))
    (λ i=>i<=row.l.length-q/\∀ (j:Nat) (r:Int),j<q+i->row.l[j]?=some r->zL N rm least s.met r) (λ i=>row.l.length-q-i)
    0 ⟨rfl,rfl,rfl,rfl,rfl,rfl,rfl,rfl,rfl,rfl,an⟩ aF.refl ⟨GI _,λ j r hj=>hdone j r (by omega)⟩ ?_
   rintro i ⟨hi,hscan⟩;refine ad (aa (ae [] rfl ?_));refine ad (aC rfl (λ hlt=>aq ?_) (λ hge=>a9 ?_))
   ·have hlt:i<row.l.length-q:=by omega
    obtain rfl:=hAv (by omega);obtain⟨y,hy⟩:∃ y,row.l[q+i]?=some y:=⟨row.l[q+i]'(by omega),Gy (by omega)⟩;have hymem:=GB hy;rw[hgl v row hrow] at hymem;obtain⟨r,hr,hru,rfl⟩:=sb.1 hymem;have hr2:r<2*N.arcs.length:=by omega
    have hin:=gN hR hr2;obtain⟨t,ht⟩:∃ t:Nat,(cE N r).2=t:=⟨(cE N r).2.toNat,by omega⟩;have htn:t<=n:=by omega
    obtain⟨x,hxr⟩:∃ x,rm[r]?=some x:=⟨rm[r],Gy hr⟩;have hxd:rm.getD r 0=x:=by rw[GD,hxr];rfl
    obtain⟨bt,hbt⟩:∃ bt,s.met[t]?=some bt:=⟨s.met[t]'(by have:=hI.ml;omega),Gy (by have:=hI.ml;omega)⟩;obtain⟨gr,rfl⟩:=hA1 (by omega)
    have hrowne:ay row.l≠[]:=by
     intro h0;have:row.l.length=0:=by rw[<- bI,h0];rfl
     omega
    have hrA:=(hgv v row hrow).2 hrowne;refine ad (av ?_);refine ad (aa (ah [] rfl ?_));refine ab [] (bZ rfl hlt) rfl ?_
    refine ab [] (dz (b:=gv v) (off:=q) (i:=i) (cs:=(ay row.l).drop q) (v:=.int .i64 (r:Int)) (c:=aV 3 row) (v+7) rfl rfl (show (rows.map (aV 3))[v]?=_ by rw[List.getElem?_map,hrow];rfl)
     (by have:=ex (aL (e:=3) (sz:=1) (n:=row.l.length) (cap:=row.c) (λ _=>hrA:ay row.l≠[]->row.A=some ⟨gv v,0,none⟩)) q;rw[G6] at this;exact this)
     (by show ((ay row.l).drop q)[i]?=_;rw[HI];exact dw hy)) rfl ?_
    refine ae [] rfl ?_;refine ad (aa ?_);refine ab [] (v:=bx N A c) (af 4 rfl) rfl ?_;refine ah [] rfl ?_;refine ao [] (gz N A c b o hA hl2 r hr2) rfl (by kernel_rfl) ⟨⟨5,_,by simp,rfl,ak _ _ _,au⟩,an⟩ (λ _=>rfl) ?_;rintro v' H' ⟨rfl,rfl⟩;refine⟨rfl,?_⟩;refine ae [] rfl ?_;refine aX 20 (v':=.int .i64 (t:Int)) rfl (Gz (Value.int .i64) ht) ?_;refine ad (aa (ah [] rfl ?_));refine ab [] (aG rfl (by omega)) rfl ?_;refine ab [] (aE 3 rfl rfl rfl (bR hxr)) rfl ?_;refine ah [] rfl ?_
    have hnext:zL N rm least s.met (r:Int)->∀ (j:Nat) (z:Int),j<q+(i+1)->row.l[j]?=some z->zL N rm least s.met z:=by
     intro hok j z hj hz;by_cases e:j=q+i
     ·subst e;rw[hy] at hz;simp only[GA] at hz;rw[<- hz];exact hok
     ·exact hscan j z (by omega) hz
    by_cases hge:least<=x
    ·refine bj 102 rfl hge ?_;refine ah [6] rfl ?_;refine ab [6] (aG rfl (by omega)) rfl ?_;refine ab [6] (aE 1 rfl rfl rfl (show (ft s.met)[t]?=some (.bool bt) from nY hbt)) rfl ?_;refine ae [6] rfl ?_
     cases bt with
     |true=>
      refine bG rfl (aq ?_);refine aa (ae [] rfl ?_);refine⟨i+1,⟨?_,rfl,rfl,rfl,rfl,rfl,rfl,rfl,rfl,rfl,an⟩,aF.refl,⟨by omega,hnext (.inr ⟨t,by rw[G1];exact ht,hbt⟩)⟩,by omega⟩;show some (Value.int .i64 (IntKind.i64.wrap ((i:Int)+1)))=_;rw[b5 (by omega)];rfl
     |false=>
      refine bh rfl ?_;refine ad (aa (ah [] rfl ?_));refine ab [] (aG rfl (by omega)) rfl ?_;refine aS 1 rfl rfl rfl rfl (rk rfl (by have:=hI.ml;omega)) [] rfl ?_;refine ai ?_;refine ad ?_;refine bq 15 (cY [0,1,2,3,6,7,8,9,10,11,12]++[(4,false),(5,false)]++cY [13,14]) [2] (by kernel_rfl) (by decide) rfl ?_;refine az [] rfl ?_;refine aj [] rfl (aG rfl (by omega)) rfl ?_;refine aj [] rfl (aE (v:=.slice (some ⟨gv v,q,none⟩) (row.l.length-q) c') 0 rfl rfl rfl hval) rfl ?_;refine az [] rfl ?_;refine dr 123 (v':=.int .i64 ((i+1:Nat):Int)) rfl (Gz (Value.int .i64) (b5 (by omega))) ?_;refine aj [] rfl (dJ rfl rfl rfl rfl rfl (by omega)) rfl ?_;refine dr 124 (v':=.slice (gb (some ⟨gv v,q,none⟩) c' (i+1) 1) (row.l.length-(q+i+1)) (c'-(i+1))) rfl (by congr 1;omega) ?_;refine aY rfl ?_;refine bC rfl rfl rfl rfl rfl rfl rfl (λ _=>rfl) λ gx=>?_;refine ai ⟨⟨[3],by decide,rfl⟩,?_⟩;refine aY rfl ?_;refine bn (n:=s.wait.length) (m:=1) (off:=0) (news:=ay [(t:Int)]) 1 0 rfl rfl rfl rfl rfl rfl (by decide) rfl rfl (aD gx _ _ (0,0)) (λ _=>rfl) rfl rfl (by omega) (by omega) (λ _ _=>rfl) λ A2 c2=>?_;refine ai ⟨⟨[3],by decide,rfl⟩,?_⟩;rw[show s.wait.length+1=(s.wait++[(t:Int)]).length by simp,show ay s.wait++ay [(t:Int)]=ay (s.wait++[(t:Int)]) by simp[ay]];refine az [] rfl ?_;refine aj [] rfl (aG rfl (by omega)) rfl ?_;refine bp ?_;refine aS 3 rfl rfl rfl rfl (dC rfl rfl rfl (by have:=hI.vl;omega)) [] rfl ?_;refine ai ?_;refine a9 ?_;refine⟨⟨s.met.set t true,A2,c2,s.wait++[(t:Int)],s.pos.set v (q+i+1),s.vals.set v (.slice (gb (some ⟨gv v,q,none⟩) c' (i+1) 1) (row.l.length-(q+i+1)) (c'-(i+1)))⟩,⟨rfl,rfl,rfl,rfl,rfl,rfl,an⟩,aF.sub (Hg _ _),?_,?_⟩
      ·refine hI.push hvm hrow hscan hy hru ht htn hr (by rw[hxd];exact hge) hbt (by omega) (λ hp=>?_) A2 c2;have:=fO (A:=some ⟨gv v,q,none⟩) (c:=c') (l:=i+1) (n:=row.l.length-q) (sz:=1) (λ _=>rfl) hcc (by omega);rw[this];simp[Hh]
      ·have:=kQ s.met t hbt;simp only[GE,G7];omega
    ·refine bd 102 rfl hge ?_;refine ae [6] rfl ?_;refine bG rfl (aq ?_);refine aa (ae [] rfl ?_);refine⟨i+1,⟨?_,rfl,rfl,rfl,rfl,rfl,rfl,rfl,rfl,rfl,an⟩,aF.refl,⟨by omega,hnext (.inl (by rw[G1,hxd];omega))⟩,by omega⟩;show some (Value.int .i64 (IntKind.i64.wrap ((i:Int)+1)))=_;rw[b5 (by omega)];rfl
   ·have hall:∀ z∈row.l,zL N rm least s.met z:=by
     intro z hz;obtain⟨j,hj,rfl⟩:=Hz.1 hz;exact hscan j _ (by omega) (Gy hj)
    refine aa (ah [] rfl ?_);refine aI 130 (v':=.int .i64 ((s.wait.length-1:Nat):Int)) rfl (Gz (Value.int .i64) ((b5 (n:=(s.wait.length:Int)-1) (by omega)).trans (by omega))) ?_;refine ab [] (gH rfl rfl rfl rfl rfl (by omega)) rfl ?_;refine x4 (m:=s.wait.length-1) 0 rfl (by omega) ?_;rw[Hf,show (ay s.wait).take (s.wait.length-1)=ay (s.wait.take (s.wait.length-1)) by simp[ay]];refine ae [] rfl ?_;have hlw:(s.wait.take (s.wait.length-1)).length=s.wait.length-1:=by rw[G2];omega
    refine⟨⟨s.met,s.Aw,s.cw,s.wait.take (s.wait.length-1),s.pos,s.vals⟩,⟨by simp only[hlw];rfl,rfl,rfl,rfl,rfl,rfl,an⟩,by simp only[hlw];exact aF.refl,hI.pop hwsplit hrow hall _ _,by simp only[hlw];omega⟩
  ·have hw0:s.wait=[]:=GT.1 (by omega);refine ad (aa (ae [] rfl ?_));refine aA [1] (by decide) rfl (ax ⟨_,rfl,.inl ⟨hW,by omega,s.met,gm,hI.ml,λ v=>?_,rfl,rfl⟩⟩);rw[<- hrm];exact hI.final hw0 hs0 hrows hgl (λ r hr=>⟨(cE N r).1.toNat,by have:=gN hR (show r<2*N.arcs.length by omega);omega⟩) v
end Go.Proofs.YtmcnpaelaieniaaGreatDoor
