import Derived.Test.YtmcnpaelaieniaaGreatDoorQX139
/- A part of the proof. -/
set_option linter.unusedVariables false
set_option linter.unusedSimpArgs false
set_option maxHeartbeats 8000000
namespace Go.Proofs.YtmcnpaelaieniaaGreatDoor
open Go.RowKit
theorem wF(A:OA_)(c b o:Nat)(l:LB_)(g:l≠[]->A=some ⟨b,o,none⟩)(hl:l.length<=100000)(is:Bool):
 Fn 156 [.slice A l.length c,.bool is] [] [.seg b o (dK l)] λ v H'=>∃ i j,v=.slice i (cp l is l.length).length j/\H'=[.own v 3 1 (cp l is l.length).length (aj (cp l is l.length))]:=by
 refine aT Tryz.func156 λ w0=>?_;refine i6 ?_;refine jX ?_;refine b6 3 1 ?_
 refine bS (σ:=Nat×OA_×Nat) (λ s=>[(10,af s.1),(9,af l.length),(8,.slice A l.length c),(5,.slice s.2.1 (cp l is s.1).length s.2.2),(1,.bool is)])
  (λ s=>[.own (.slice s.2.1 (cp l is s.1).length s.2.2) 3 1 (cp l is s.1).length (aj (cp l is s.1)),.seg b o (dK l)]) (λ s=>s.1<=l.length) (λ s=>l.length-s.1)
  (0,none,0) [0,1] a8 ab rfl (Nk _) ?_
 rintro⟨k,A1,d⟩ q;simp only at q ⊢;have r:=lE l is k;refine ao ?_;refine am (ak rfl (λ hlt=>ag ?_) (λ t=>aO ?_))
 ·have hlt:k<l.length:=by omega
  obtain rfl:=g (by rintro rfl;simp at hlt);obtain⟨m,hm⟩:∃ m,l[k]?=some m:=⟨l[k],an hlt⟩;have a:=oi l is k;refine am (au ?_);refine jc ?_;refine aG (a7 1 rfl rfl (show (dK l)[k]?=some (.bool m) from iC hm)) ?_;refine aN ?_;by_cases hgo:0<k/\m=is
  ·rw[if_pos ⟨hgo.1,by rw[hm,hgo.2]⟩] at a;refine G8 ?_;refine aC (fS [] rfl ?_);refine dp λ g2=>?_;refine bp (n:=(cp l is k).length) (m:=1) (off:=0) (news:=aj [(k:Int)]) 1 0 rfl rfl rfl rfl rfl rfl ab rfl rfl (aQ g2 _ _ (0,0)) aE rfl rfl aa aa (λ _ _=>rfl) λ u c2=>?_;rw[show (cp l is k).length+1=(cp l is (k+1)).length by rw[a];simp,show aj (cp l is k)++aj [(k:Int)]=aj (cp l is (k+1)) by rw[a];simp[aj]];refine cS ?_;refine⟨(k+1,u,c2),[1,2],⟨?_,rfl,rfl,rfl,rfl,be⟩,ab,rfl,by simp only;omega,by simp only;omega⟩;refine fJ ?_;rw[cv aa];rfl
  ·rw[if_neg (fun h=>hgo ⟨h.1,by rw[hm] at h;simpa using h.2⟩),List.append_nil] at a
   refine gj [(21,.bool false),(10,af k),(9,af l.length),(8,ax b o l.length c),(5,.slice A1 (cp l is k).length d),(1,.bool is)]
    [.own (.slice A1 (cp l is k).length d) 3 1 (cp l is k).length (aj (cp l is k)),.seg b o (dK l)] ?_ ?_
   ·refine aI ?_;by_cases h0:0<k
    ·exact Hy
    ·refine dD 17 rfl aa<|cX [2] ?_;exact pY
   ·refine bu rfl (ag ?_);refine ao ?_;refine⟨(k+1,A1,d),[0,1],⟨?_,rfl,rfl,by simp only[a];rfl,rfl,be⟩,ab,by simp only[a];rfl,by simp only;omega,by simp only;omega⟩;refine fJ ?_;rw[cv aa];rfl
 ·have f:k=l.length:=by omega
  subst f;refine ao ?_;refine aL [0] ⟨_,rfl,A1,d,rfl,rfl⟩
structure fe (m:Int) (l:LI_):Prop where
 rise:l.Pairwise (·<·)
 rng:∀ x∈l,1<=x/\x<=m
theorem fe.snoc{m:Int}{l:LI_}{x:Int}:fe m (l++[x])↔fe m l/\(∀ y∈l,y<x)/\1<=x/\x<=m:=by
 constructor
 ·intro h;obtain⟨b,_,c⟩:=Oc.1 h.rise;have d:=h.rng x ai;exact⟨⟨b,λ y a=>h.rng y (by simp[a])⟩,λ y a=>c y a x ai,d.1,d.2⟩
 ·rintro⟨h,b,e,c⟩;refine⟨rt h.rise b,λ y a=>?_⟩
  rcases Nm.1 a with a|a
  ·exact h.rng y a
  ·rw[Nh.1 a];exact⟨e,c⟩
def FL(sl sr:LI_)(Al Ar:OA_)(cl cr:Nat):Value:=.agg #[.slice Al sl.length cl,.slice Ar sr.length cr]
open Classical in
noncomputable def rr(N:aR)(s:LI_):Int:=if ¬ fe N.nodes s then 1 else if N.src∈s/\N.snk∉s then 0 else 9
theorem r9{N:aR}{s:LI_}(h:¬ fe N.nodes s):rr N s=1:=by unfold rr;rw[if_pos h]
theorem rU{N:aR}{s:LI_}(h:fe N.nodes s)(k:¬ (N.src∈s/\N.snk∉s)):rr N s=9:=by unfold rr;rw[if_neg (λ n=>n h),if_neg k]
theorem wD{N:aR}{s:LI_}:rr N s=0↔fQ N s:=by
 constructor
 ·intro h;by_cases a:fe N.nodes s
  ·by_cases b:N.src∈s/\N.snk∉s
   ·exact⟨a.rise,a.rng,b.1,b.2⟩
   ·rw[rU a b] at h;exact absurd h ab
  ·rw[r9 a] at h;exact absurd h ab
 ·intro h;unfold rr;rw[if_neg (λ n=>n ⟨h.rise,h.rng⟩),if_pos ⟨h.src,h.snk⟩]
theorem zi{m:Int}{l r:LI_}{x:Int}(h:fe m (l++x::r)):(l.getLast?.getD 0)<x/\x<=m:=by
 have a:=h.rng x ai;refine⟨?_,a.2⟩
 cases hl:l.getLast? with
 |none=>show (0:Int)<x;omega
 |some y=>exact (Oc.1 h.rise).2.2 y (Oz hl) x ai
theorem HR{m:Int}{l:LI_}(h:fe m l):∀ y∈l,y<=l.getLast?.getD 0:=by
 intro y a
 rcases N9 l with rfl|⟨q,z,rfl⟩
 ·exact absurd a Nr
 ·rw[Oa] at*;rw[N0];show y<=z
  rcases Nm.1 a with a|a
  ·have:=(Oc.1 h.rise).2.2 y a z ai;omega
  ·rw[Nh.1 a];omega
theorem zo(N:aR)(hN:N.Fits)(hR:N.Right)(A:OA_)(c b o:Nat)(hA:N.arcs≠[]->A=some ⟨b,o,none⟩)(s:LI_)(t:¬ fQ N s)(u:s.length<=100000)(S:OA_)(cs l os:Nat)(w:s≠[]->S=some ⟨l,os,none⟩):
 Fn 97 [cd N A c,.slice S s.length cs] [] [.seg b o (arcs N.arcs),.seg l os (aj s)] λ v H'=>v=.tuple #[.slice none 0 0,.int .i64 (rr N s)]/\H'=[]:=by
 have z:=hR.len;have B:=hR.nodes;refine aT Tryz.func97 λ w0=>?_;refine bA ?_;refine dh (cs:=bY N A c) λ p=>?_;refine Dj ?_;refine ak rfl (λ h=>absurd rfl h) (λ _=>ag ?_);refine bA ?_;refine qt rfl aE λ r=>cS ?_;refine jX ?_
 refine bS (σ:=Nat) (λ k=>[(22,af k),(21,af s.length),(20,.slice S s.length cs),(8,af ((s.take k).getLast?.getD 0)),(7,.map (some r)),(2,ap p 0)])
  (λ k=>[.obj r (jR (l9 (s.take k))),blk p 33 (bY N A c),.seg b o (arcs N.arcs),.seg l os (aj s)]) (λ k=>k<=s.length/\fe N.nodes (s.take k)) (λ k=>s.length-k)
  0 [0,1,2,3] a8 ab rfl ⟨Nk _,⟨ai,ai⟩⟩ ?_
 rintro k ⟨E,e⟩;refine ao ?_;refine am (ak rfl (λ hlt=>ag ?_) (λ C=>aO ?_))
 ·have hlt:k<s.length:=by omega
  obtain rfl:=w (by rintro rfl;simp at hlt);obtain⟨x,hx⟩:∃ x,s[k]?=some x:=⟨s[k],an hlt⟩
  have i:s=s.take k++x::s.drop (k+1):=by
   have:s.drop k=x::s.drop (k+1):=by rw[N7 hlt];rw[(Nb.1 hx).2]
   rw[<- this,Oh]
  have f:s.take (k+1)=s.take k++[x]:=by rw[Nv,hx];rfl
  refine am (au ?_);refine BT ?_;by_cases g:x<=(s.take k).getLast?.getD 0
  ·refine d7 29 rfl g<|dY ?_;refine ah<|eP ?_;refine aL [] ⟨_,rfl,?_,rfl⟩;rw[r9 (λ h=>by rw[i] at h;have:=(zi h).1;omega)];rfl
  refine dD 29 rfl g<|dY ?_;refine ae [3] (ad 1 rfl) rfl<|cX [3] ?_;refine ak rfl (λ h=>?_) (λ h=>ag ?_)
  ·refine ao ?_;refine aL [] ⟨_,rfl,?_,rfl⟩;rw[r9 (λ h'=>by rw[i] at h';have:=(zi h').2;omega)];rfl
  have a:∀ y∈s.take k,y<x:=λ y m=>by have:=HR e y m;omega
  have j:fe N.nodes (s.take (k+1)):=by
   rw[f,fe.snoc]
   have F:0<=(s.take k).getLast?.getD 0:=by
    cases hl:(s.take k).getLast? with
    |none=>exact Ov _
    |some y=>have:=e.rng y (Oz hl);show 0<=y;omega
   exact⟨e,a,aa,aa⟩
  refine aI ?_;refine pP 0 Tryz.underlying205 Tryz.underlying3 rfl rfl rfl rfl rfl (λ q D=>?_) [] rfl ?_
  ·obtain⟨y,m,rfl⟩:=NB.1 D;have:=a y m;show y≠x;omega
  refine cS ?_;refine⟨k+1,[0,1,2,3],⟨?_,rfl,rfl,?_,rfl,rfl,be⟩,ab,?_,⟨aa,j⟩,aa⟩
  ·refine fJ ?_;rw[cv aa];rfl
  ·rw[f,N0];rfl
  ·rw[f];unfold l9;rw[NJ];rfl
 ·have n:k=s.length:=by omega
  subst n;rw[NH] at e ⊢;have d:¬ (N.src∈s/\N.snk∉s):=λ h=>t ⟨e.rise,e.rng,h.1,h.2⟩;refine aI ?_;refine bh 1 ?_;refine aG (fZ 0 Tryz.underlying205 Tryz.underlying3 rfl rfl rfl rfl rfl) ?_;by_cases g:N.src∈s
  ·refine aB 42 (v':=.bool true) rfl (by rw[dn,aV g])<|Gf ?_;refine aB 48 (v':=.bool true) rfl (by rw[dn,aV (Nn.1 λ h=>d ⟨g,h⟩)])<|cX [5] ?_;refine eP ?_;refine aL [] ⟨_,rfl,?_,rfl⟩;rw[rU e d];rfl
  ·refine aB 42 (v':=.bool false) rfl (by rw[dn,aZ g])<|az ?_;refine aB 44 (v':=.bool true) rfl rfl<|bX [5] ?_;refine ah<|eP ?_;refine aL [] ⟨_,rfl,?_,rfl⟩;rw[rU e d];rfl
open Classical in
noncomputable def Eo(N:aR)(s:LI_):Int×Int:=if fQ N s then (jq s N.arcs,0) else (0,rr N s)
theorem qz(N:aR)(g:N.Fits)(i:N.Right)(A:OA_)(c b o:Nat)(j:N.arcs≠[]->A=some ⟨b,o,none⟩)(s:LI_)(a:s.length<=100000)(S:OA_)(cs d os:Nat)(k:s≠[]->S=some ⟨d,os,none⟩):
 Fn 59 [cd N A c,.slice S s.length cs] [] [.seg b o (arcs N.arcs),.seg d os (aj s)] λ v H'=>v=td (Eo N s)/\H'=[]:=by
 by_cases e:fQ N s
 ·unfold Eo;rw[if_pos e];exact sL N g i A c b o j s e a S cs d os k
 unfold Eo;rw[if_neg e];refine aT Tryz.func59 λ w0=>?_;refine bA ?_;refine dh (cs:=bY N A c) λ p=>?_;refine ip ?_;refine cH (zo N g i A c b o j s e a S cs d os k) rfl ⟨bx 1 rfl,bx 2 rfl,be⟩ ?_;refine cS ?_;refine jX ?_;refine bS (σ:=Unit) (λ _=>[(19,af 0),(18,af 0),(8,af 0),(7,af (rr N s))]) (λ _=>[]) (λ _=>True) (λ _=>0) () [] a8 ab rfl be ?_;intro _ _;refine ao ?_;refine am (ak rfl (λ f=>absurd f ab) (λ l=>aO ?_));exact jV
open Classical in
noncomputable def sT(N:aR)(f s:LI_):Int:=if aD N f then (if fQ N s then (if dJ (N.arcs.zip f) N.snk=jq s N.arcs then 0 else 8) else rr N s) else eQ N f
theorem EZ(N:aR)(j:N.Fits)(k:N.Right)(A:OA_)(c b o:Nat)(l:N.arcs≠[]->A=some ⟨b,o,none⟩)(f:LI_)(m:∀ x∈f,b9 x)(n:f.length*8<=140737488351232)(F:OA_)(cf g of:Nat)(r:f≠[]->F=some ⟨g,of,none⟩)
 (s:LI_) (d:s.length<=100000) (S:OA_) (cs i os:Nat) (t:s≠[]->S=some ⟨i,os,none⟩):
 Fn 129 [cd N A c,.slice F f.length cf,.slice S s.length cs] [] [.seg b o (arcs N.arcs),.seg g of (aj f),.seg i os (aj s)] λ v H'=>v=.int .i64 (sT N f s)/\H'=[]:=by
 unfold sT;by_cases a:aD N f/\fQ N s
 ·rw[if_pos a.1,if_pos a.2];exact Hj N j k A c b o l f a.1 F cf g of r s a.2 d S cs i os t
 refine aT Tryz.func129 λ w0=>?_;refine bA ?_;refine dh (cs:=bY N A c) λ p=>?_;refine ip ?_;refine dB (f8 N j k A c b o l f F cf g of r m n) rfl ⟨bx 1 rfl,bx 2 rfl,be⟩ ?_;rintro v H' ⟨⟨rfl,e⟩|⟨rfl,e⟩,rfl⟩
 case inr=>
  refine fO ?_;refine ak rfl (λ h=>?_) (λ h=>absurd (de.1 (Nn.1 h)) e);refine ao ?_;refine aL [] ⟨_,rfl,?_,rfl⟩;rw[if_neg e];rfl
 have q:¬ fQ N s:=λ h=>a ⟨e,h⟩;have T:=qz N j k A c b o l s d S cs i os t;unfold Eo at T;rw[if_neg q] at T;rw[if_pos e,if_neg q];refine fO ?_;refine ak rfl (λ h=>absurd rfl h) (λ _=>ag ?_);refine rX ?_;refine cH T rfl ⟨bx 1 rfl,bx 3 rfl,be⟩ ?_;refine ik ?_;refine ao ?_;refine ak rfl (λ h=>?_) (λ h=>absurd (wD.1 (Nn.1 h)) q);exact jV
open Lib
def ir(w:LU_)(l:LI_):LU_:=gG w l++[10]
theorem zc(w:LU_)(l:LI_):ir w l≠[]:=by unfold ir;simp
theorem B9:CC 129:=by unfold CC;kernel_rfl
theorem iQ(V:LibV)(b:Nat)(p:Value)(hp:LO b p)(A:OA_)(c:Nat)(m:LU_)(w:LU_)(hw:w.length<=100)(l:LI_)(hl:∀ n∈l,b9 n)(r:l.length<=100000)(hm:m.length<=100000000000)(B:OA_)(n o d e:Nat)(t:l≠[]->B=some ⟨d,e,none⟩)(u:n=l.length):
 Fn 60 [.pointer (some ⟨b,0,none⟩),du w,.slice B n o] (ay (ni 129 b p A c m)) (([.seg d e (aj l)]++V.heap)++ni 129 b p A c m) λ _ H'=>∃ (f:OA_) (i:Nat),H'=ni 129 b (.pointer (some ⟨b,0,none⟩)) f i (m++ir w l):=by
 subst u;have y:=fi w l hl
 generalize hM:ay _=M
 refine aT Tryz.func60 λ w0=>?_;refine aI ?_;refine dp λ g0=>?_;refine ji ?_;refine pJ ?_
 refine bS (σ:=Nat×OA_×Nat) (λ s=>[(13,af s.1),(12,af l.length),(11,.slice B l.length o),(6,.slice s.2.1 (w::(l.take s.1).map itoa).length s.2.2),(0,ap b 0)])
  (λ s=>.own (.slice s.2.1 (w::(l.take s.1).map itoa).length s.2.2) 9 1 (w::(l.take s.1).map itoa).length (cj (w::(l.take s.1).map itoa))::(([.seg d e (aj l)]++V.heap)++ni 129 b p A c m))
  (λ s=>s.1<=l.length) (λ s=>l.length-s.1) (0,aJ g0 0,1) [0,1,2,3,4,5,6] a8 ab rfl (Nk _) ?_
 rintro⟨k,F,c2⟩ z;simp only at z ⊢;refine ao ?_;refine am (ak rfl (λ C=>ag ?_) (λ D=>aO ?_))
 ·have hlt':k<l.length:=by omega
  obtain⟨x,j⟩:∃ x,l[k]?=some x:=⟨l[k],an hlt'⟩;obtain rfl:=t (by rintro rfl;simp at hlt');have hxB:=hl x (M9 j);have hlen:(w::(l.take k).map itoa).length=k+1:=by rw[Nf,Nj,ND];omega
  refine am (au ?_);refine wo ?_;refine aG (a7 1 rfl rfl (b7 j)) ?_;refine Aq ?_;refine dp λ g2=>?_;refine bp (n:=(w::(l.take k).map itoa).length) (m:=1) (off:=0) (news:=cj [itoa x]) 1 0 rfl rfl rfl rfl rfl rfl ab rfl rfl (aQ g2 _ _ (0,0)) aE rfl rfl aa aa (λ _ _=>rfl) λ E c3=>cS ?_;have a:w::(l.take (k+1)).map itoa=(w::(l.take k).map itoa)++[itoa x]:=by rw[Nv,j];simp
  refine⟨(k+1,E,c3),[1,2,3,4,5,6,7],⟨?_,rfl,rfl,?_,rfl,be⟩,ab,?_,by simp only;omega,by simp only;omega⟩
  ·refine fJ ?_;rw[cv aa];rfl
  ·simp only[a];rw[Ng];rfl
  ·simp only[a];rw[Ng,show cj ((w::(l.take k).map itoa)++[itoa x])=cj (w::(l.take k).map itoa)++cj [itoa x] by simp[cj]];rfl
 obtain rfl:k=l.length:=aa;refine aP (aH 0 rfl) (λ q=>?_);obtain⟨g,rfl⟩:=q.2.2.1 ai;rw[NH] at*;refine cA ?_;refine bK 7 (dS [0,1,2,3]++[(4,false)]++dS [5]++[(6,false)]) [] aW ab rfl<|jM ?_;refine cH (tZ (aJ g 0) _ c2 g 0 (w::l.map itoa) rfl aE q.2.1 (by show (gG w l).length<=_;omega) eS) rfl ⟨gC 0 rfl b8 (.inr rfl),be⟩ ?_;refine bZ []<|bc rfl (iv (l:=gG w l) (m:=[10]) rfl rfl rfl eS) ?_;refine cz ?_;refine bJ (fst:=[]) (cap:=[]) [] (FV 129 b p B9 hp A c m (gG w l++[10]) eS) rfl rfl rfl rfl aW (K:=[]) (aw.picks [5,6] ab rfl) be aE ?_;rintro v H' ⟨f,i,rfl⟩;refine dE ?_;refine bZ []<|gF ?_;exact⟨_,rfl,f,i,rfl⟩
open Lib
def wa(f:LI_)(i:Nat):LU_:=if 0<f.getD i 0 then ir [102] [((i+1:Nat):Int),f.getD i 0] else []
def fK(f:LI_)(k:Nat):LU_:=((List.range k).map (wa f)).flatten
def xK(s:LI_)(k:Nat):LU_:=((s.take k).map λ x=>ir [120] [x]).flatten
theorem Cv(f:LI_)(k:Nat):fK f (k+1)=fK f k++wa f k:=by unfold fK;rw[OY];simp
theorem C8{s:LI_}{k:Nat}{x:Int}(h:s[k]?=some x):xK s (k+1)=xK s k++ir [120] [x]:=by unfold xK;rw[Nv,h];simp
def me(v c:Int):LU_:=ir [118,97,108,117,101] [v]++ir [99,117,116] [c]
def vG(v c:Int):LU_:=if v=c then ir [112,114,111,118,101,100] [] else ir [110,111,116,32,112,114,111,118,101,100] []
def s7(f s:LI_)(v c:Int):LU_:=((me v c++fK f f.length)++xK s s.length)++vG v c
open Classical in
noncomputable def AV(N:aR)(f s:LI_):Value:=if aD N f then (if fQ N s then .tuple #[du (s7 f s (dJ (N.arcs.zip f) N.snk) (jq s N.arcs)),.int .i64 0] else .tuple #[du [],.int .i64 (rr N s)]) else .tuple #[du [],.int .i64 (eQ N f)]
theorem hJ(w:LU_)(l:LI_)(h:∀ n∈l,b9 n):(ir w l).length<=w.length+l.length*21+1:=by
 have:=fi w l h;unfold ir;rw[Ng];simp only[Nf,NA];omega
theorem AD(f:LI_)(a:∀ x∈f,b9 x):∀ k,k<=f.length->k<=100000->(fK f k).length<=k*50
 |0,_,_=>by simp[fK]
 |k+1,h,d=>by
  have e:=AD f a k aa aa;rw[Cv,Ng]
  have:(wa f k).length<=50:=by
   unfold wa;split
   ·have c:b9 (f.getD k 0):=by
     rw[Nc,an (show k<f.length by omega)];exact a _ (Ox _)
    have:=hJ [102] [((k+1:Nat):Int),f.getD k 0] (λ n b=>by
     simp only[Nl,Nr,or_false] at b
     rcases b with rfl|rfl
     ·unfold b9;omega
     ·exact c)
    simp only[Nf,NA] at this;omega
   ·simp
  omega
theorem Cg(s:LI_)(a:∀ x∈s,b9 x):∀ k,k<=s.length->(xK s k).length<=k*50
 |0,_=>by simp[xK]
 |k+1,h=>by
  have d:=Cg s a k aa;have c:s[k]?=some s[k]:=an aa;rw[C8 c,Ng]
  have:=hJ [120] [s[k]] (λ n b=>by
   simp only[Nh] at b;rw[b];exact a _ (Ox _))
  simp only[Nf,NA] at this;omega
theorem vO{m:Int}{s:LI_}(hm:m<=500)(h:fe m s):s.length<=500:=by
 rcases PZ 500 s.length with a|c
 ·exfalso
  have key:∀ k,∀ b:k<s.length,(k:Int)+1<=s[k]:=by
   intro k
   induction k with
   |zero=>intro b;have:=(h.rng _ (Ox b)).1;omega
   |succ k d=>
    intro b;have e:=d aa;have f:=(N6.1 h.rise) k (k+1) aa b aa;omega
  have e:=key 500 a;have f:=(h.rng _ (Ox a)).2;omega
 ·exact c
theorem Dz(V:LibV)(N:aR)(hN:N.Fits)(E:N.Right)(A:OA_)(c b o:Nat)(hA:N.arcs≠[]->A=some ⟨b,o,none⟩)(f:LI_)(p:∀ x∈f,b9 x)(Q:f.length*8<=140737488351232)(F:OA_)(cf g of:Nat)(hF:f≠[]->F=some ⟨g,of,none⟩)
 (s:LI_) (H:∀ x∈s,b9 x) (R:s.length<=100000) (S:OA_) (cs i os:Nat) (hS:s≠[]->S=some ⟨i,os,none⟩):
 Fn 32 [cd N A c,.slice F f.length cf,.slice S s.length cs] [] ([.seg b o (arcs N.arcs),.seg g of (aj f),.seg i os (aj s)]++V.heap) λ v H'=>v=AV N f s/\H'=[]:=by
 refine aT Tryz.func32 λ w0=>?_;refine bA ?_;refine dh (cs:=bY N A c) λ p3=>?_;refine ip ?_;refine dB (f8 N hN E A c b o hA f F cf g of hF p Q) rfl ⟨bx 1 rfl,bx 2 rfl,be⟩ ?_;rintro v H' ⟨⟨rfl,q⟩|⟨rfl,q⟩,rfl⟩
 case inr=>
  refine fO ?_;refine ak rfl (λ h=>?_) (λ h=>absurd (de.1 (Nn.1 h)) q);refine ao ?_;refine aL [] ⟨_,rfl,?_,rfl⟩;unfold AV;rw[if_neg q];rfl
 refine fO ?_;refine ak rfl (λ h=>absurd rfl h) (λ _=>ag ?_);refine rX ?_;refine cH (qz N hN E A c b o hA s R S cs i os hS) rfl ⟨bx 1 rfl,bx 3 rfl,be⟩ ?_;by_cases r:fQ N s
 case neg=>
  unfold Eo;rw[if_neg r];refine cS ?_;refine ak rfl (λ h=>?_) (λ h=>absurd (wD.1 (Nn.1 h)) r);refine ao ?_;refine aL [] ⟨_,rfl,?_,rfl⟩;unfold AV;rw[if_pos q,if_neg r];rfl
 unfold Eo;rw[if_pos r];obtain⟨a,u⟩:∃ a,a=dJ (N.arcs.zip f) N.snk:=⟨_,rfl⟩;obtain⟨d,w⟩:∃ d,d=jq s N.arcs:=⟨_,rfl⟩;have I:b9 a:=by have:=dl E q.toRanged N.snk;rw[u];unfold b9;omega
 have L:b9 d:=by have:=w4 E s;rw[w];unfold b9;omega
 have U:=E.nodes;have hb:=q.len;have hc:=E.len;have hz:=vO U.2 ⟨r.rise,r.rng⟩;have M:AV N f s=.tuple #[du (s7 f s a d),af 0]:=by unfold AV;rw[if_pos q,if_pos r,u,w]
 rw[<- u,<- w];refine cS ?_;refine ak rfl (λ h=>absurd rfl h) (λ _=>ag ?_);refine bA ?_;refine dM λ p11=>?_;refine aN ?_;refine b6 5 1 ?_;have X:=hJ [118,97,108,117,101] [a] (λ n e=>by rw[Nh.1 e];exact I);have Y:=hJ [99,117,116] [d] (λ n e=>by rw[Nh.1 e];exact L);simp only[Nf,NA] at X Y;refine bQ (K:=ni 129 p11 (.pointer none) none 0 []++([.seg g of (aj f),.seg i os (aj s)]++V.heap)) (aw.picks [1,0,4,5,6,7,8] ab rfl)<|aI ?_;refine dp λ g1=>?_;refine bJ (fst:=[]) (cap:=[]) [] (iQ V p11 (.pointer none) (by first|exact .inl rfl|exact .inr rfl) none 0 ([]) ([118,97,108,117,101]) ab ([a]) (λ n e=>by rw[Nh.1 e];exact I) ai (by first|omega|simp|(simp;omega)) (aJ g1 0) _ _ g1 0 aE rfl) rfl rfl rfl rfl aW (K:=[blk g1 2 (aj ([a])),.seg g of (aj f),.seg i os (aj s)]++V.heap) (aw.picks [1,2,0,3,4,5,6,7] ab rfl) ⟨en 0 rfl,⟨3,ai,rfl⟩,⟨4,ai,rfl⟩,⟨5,ai,rfl⟩,be⟩ aE ?_;rintro v H' ⟨A1,c1,rfl⟩;refine ef ?_;refine bQ (K:=ni 129 p11 (ap p11 0) A1 c1 (ir [118,97,108,117,101] [a])++([.seg g of (aj f),.seg i os (aj s)]++V.heap)) (aw.picks [0,1,3,4,5,6,7] ab rfl)<|aI ?_;refine dp λ g2=>?_;refine bJ (fst:=[]) (cap:=[]) [] (iQ V p11 (ap p11 0) (by first|exact .inl rfl|exact .inr rfl) A1 c1 (ir [118,97,108,117,101] [a]) ([99,117,116]) ab ([d]) (λ n e=>by rw[Nh.1 e];exact L) ai (by first|omega|simp|(simp;omega)) (aJ g2 0) _ _ g2 0 aE rfl) rfl rfl rfl rfl aW (K:=[blk g2 2 (aj ([d])),.seg g of (aj f),.seg i os (aj s)]++V.heap) (aw.picks [1,2,0,3,4,5,6,7] ab rfl) ⟨en 0 rfl,⟨3,ai,rfl⟩,⟨4,ai,rfl⟩,⟨5,ai,rfl⟩,be⟩ aE ?_;rintro v H' ⟨A2,c2,rfl⟩;refine fO ?_;refine gz ?_;have Z:=AD f p;have h1:=Cg s H
 refine bS (σ:=Nat×OA_×Nat) (λ t=>[(42,af t.1),(41,af f.length),(40,.slice F f.length cf),(11,ap p11 0),(2,.slice S s.length cs),(8,af a),(10,af d)])
  (λ t=>ni 129 p11 (ap p11 0) t.2.1 t.2.2 (me a d++fK f t.1)++([.seg g of (aj f),.seg i os (aj s)]++V.heap)) (λ t=>t.1<=f.length) (λ t=>f.length-t.1) (0,A2,c2) [0,1,3,4,5,6,7] a8 ab (by simp[fK];rfl) (Nk _) ?_
 rintro⟨k,A3,c3⟩ hk;simp only at hk ⊢;have O:=Z k hk aa;have hq:(me a d++fK f k).length<=150000:=by unfold me;simp only[Ng];omega
 have l:=Cv f k;refine ao ?_;refine am (ak rfl (λ hlt=>ag ?_) (λ h2=>aO ?_))
 ·have hlt:k<f.length:=by omega
  obtain⟨x,hx⟩:∃ x,f[k]?=some x:=⟨f[k],an hlt⟩;have h3:f.getD k 0=x:=by rw[Nc,hx];rfl
  have y:=p x (M9 hx);obtain rfl:=hF (by rintro rfl;simp at hlt);have m:wa f k=if 0<x then ir [102] [((k+1:Nat):Int),x] else []:=by unfold wa;rw[h3]
  refine am (au ?_);refine jc ?_;refine aG (a7 2 rfl rfl (b7 hx)) ?_;refine cS ?_;refine ak rfl (λ B=>?_) (λ C=>ag ?_)
  ·have B:0<x:=B;rw[m,if_pos B] at l;refine aI ?_;refine aB 50 (v':=af ((k+1:Nat):Int)) rfl (M8 (Value.int .i64) (cv aa))<|az ?_;refine dp λ g3=>?_
   have hy:∀ n∈[((k+1:Nat):Int),x],b9 n:=λ n e=>by
    simp only[Nl,Nr,or_false] at e
    rcases e with rfl|rfl
    ·unfold b9;omega
    ·exact y
   refine bJ (fst:=[]) (cap:=[]) [] (iQ V p11 (ap p11 0) (.inr rfl) A3 c3 (me a d++fK f k) [102] ab [((k+1:Nat):Int),x] hy ai aa (aJ g3 0) _ _ g3 0 aE rfl) rfl rfl rfl rfl aW (K:=[blk g3 2 (aj [((k+1:Nat):Int),x]),.seg g of (aj f),.seg i os (aj s)]++V.heap) (aw.picks [1,2,0,3,4,5,6,7] ab rfl) ⟨en 0 rfl,⟨3,ai,rfl⟩,⟨4,ai,rfl⟩,⟨5,ai,rfl⟩,be⟩ aE ?_;rintro v H' ⟨P,c4,rfl⟩;refine dE ?_;rw[NI,<- l];refine dw ?_;exact⟨(k+1,P,c4),[0,1,3,4,5,6,7],⟨M8 (λ z=>some (af z)) (cv aa),rfl,rfl,rfl,rfl,rfl,rfl,be⟩,ab,rfl,by simp only;omega,by simp only;omega⟩
  ·have C:¬ 0<x:=C;rw[m,if_neg C,NL] at l;refine ao ?_;exact⟨(k+1,A3,c3),[0,1,2,3,4,5,6],⟨M8 (λ z=>some (af z)) (cv aa),rfl,rfl,rfl,rfl,rfl,rfl,be⟩,ab,by simp only[l];rfl,by simp only;omega,by simp only;omega⟩
 obtain rfl:k=f.length:=aa;refine jZ ?_
 refine bS (σ:=Nat×OA_×Nat) (λ t=>[(57,af t.1),(56,af s.length),(55,.slice S s.length cs),(11,ap p11 0),(8,af a),(10,af d)])
  (λ t=>ni 129 p11 (ap p11 0) t.2.1 t.2.2 ((me a d++fK f f.length)++xK s t.1)++([.seg g of (aj f),.seg i os (aj s)]++V.heap)) (λ t=>t.1<=s.length) (λ t=>s.length-t.1) (0,A3,c3) [0,1,2,3,4,5,6] a8 ab (by simp[xK];rfl) (Nk _) ?_
 clear O l
 rintro⟨j,P,c4⟩ hj;simp only at hj ⊢;have h0:=h1 j hj;have hv:((me a d++fK f f.length)++xK s j).length<=250000:=by rw[Ng];omega
 refine ao ?_;refine am (ak rfl (λ hlt=>ag ?_) (λ h2=>aO ?_))
 ·have hlt:j<s.length:=by omega
  obtain⟨x,hx⟩:∃ x,s[j]?=some x:=⟨s[j],an hlt⟩;have y:=H x (M9 hx);obtain rfl:=hS (by rintro rfl;simp at hlt);have hr:=C8 hx;refine am (au ?_);refine BT ?_;refine dp λ g3=>?_;refine bJ (fst:=[]) (cap:=[]) [] (iQ V p11 (ap p11 0) (.inr rfl) P c4 ((me a d++fK f f.length)++xK s j) [120] ab [x] (λ n e=>by rw[Nh.1 e];exact y) ai aa (aJ g3 0) _ _ g3 0 aE rfl) rfl rfl rfl rfl aW (K:=[blk g3 2 (aj [x]),.seg g of (aj f),.seg i os (aj s)]++V.heap) (aw.picks [1,2,0,3,4,5,6,7] ab rfl) ⟨en 0 rfl,⟨3,ai,rfl⟩,⟨4,ai,rfl⟩,⟨5,ai,rfl⟩,be⟩ aE ?_;rintro v H' ⟨D,c5,rfl⟩;refine dE ?_;rw[NI _ (xK s j),<- hr];refine dw ?_;exact⟨(j+1,D,c5),[0,1,3,4,5,6,7],⟨M8 (λ z=>some (af z)) (cv aa),rfl,rfl,rfl,rfl,rfl,be⟩,ab,rfl,by simp only;omega,by simp only;omega⟩
 obtain rfl:j=s.length:=aa;refine iB (σ:=OA_×Nat) (λ t=>[(11,ap p11 0)]) (λ t=>ni 129 p11 (ap p11 0) t.1 t.2 (s7 f s a d)) ?_ ?_
 ·refine ao ?_;refine ak rfl (λ he=>?_) (λ he=>?_)
  ·refine aI ?_;refine bJ (fst:=[]) (cap:=[]) [] (iQ V p11 (ap p11 0) (.inr rfl) P c4 ((me a d++fK f f.length)++xK s s.length) [112,114,111,118,101,100] ab [] (λ n e=>absurd e Nr) ai aa none _ 0 0 0 (λ h=>absurd rfl h) rfl) rfl rfl rfl rfl aW (K:=[.seg g of (aj f),.seg i os (aj s)]++V.heap) (aw.picks [0,1,2,3,4,5,6] ab rfl) ⟨gC 0 rfl gW (.inl rfl),⟨2,ai,rfl⟩,⟨3,ai,rfl⟩,⟨4,ai,rfl⟩,be⟩ aE ?_;rintro v H' ⟨D,c5,rfl⟩;refine⟨rfl,ah ⟨(D,c5),⟨rfl,be⟩,?_⟩⟩;rw[show s7 f s a d=((me a d++fK f f.length)++xK s s.length)++ir [112,114,111,118,101,100] [] by unfold s7 vG;rw[if_pos he]];exact aw.picks [0,1] ab rfl
  ·refine aI ?_;refine bJ (fst:=[]) (cap:=[]) [] (iQ V p11 (ap p11 0) (.inr rfl) P c4 ((me a d++fK f f.length)++xK s s.length) [110,111,116,32,112,114,111,118,101,100] ab [] (λ n e=>absurd e Nr) ai aa none _ 0 0 0 (λ h=>absurd rfl h) rfl) rfl rfl rfl rfl aW (K:=[.seg g of (aj f),.seg i os (aj s)]++V.heap) (aw.picks [0,1,2,3,4,5,6] ab rfl) ⟨gC 0 rfl gW (.inl rfl),⟨2,ai,rfl⟩,⟨3,ai,rfl⟩,⟨4,ai,rfl⟩,be⟩ aE ?_;rintro v H' ⟨D,c5,rfl⟩;refine⟨rfl,ah ⟨(D,c5),⟨rfl,be⟩,?_⟩⟩;rw[show s7 f s a d=((me a d++fK f f.length)++xK s s.length)++ir [110,111,116,32,112,114,111,118,101,100] [] by unfold s7 vG;rw[if_neg he]];exact aw.picks [0,1] ab rfl
 rintro⟨D,c5⟩;simp only;refine aI ?_;refine bJ (fst:=[]) (cap:=[]) [] (zr 129 p11 (ap p11 0) D c5 (s7 f s a d) (by unfold s7 vG;split<;>simp[zc])) rfl rfl rfl rfl aW (K:=[]) (aw.picks [0,1] ab rfl) be aE<|jH ?_;refine ef ?_;exact aL [] ⟨_,rfl,M.symm,rfl⟩
open Lib
abbrev It:=Int×LI_×Int
def MM(y:Int×LN_×Int):It:=(y.1,y.2.1.map (λ (i:Nat)=>(i:Int)),y.2.2)
structure l7 (N:aR) (x:It):Prop where
 kind:x.1=112\/x.1=98\/x.1=99
 amt:0<x.2.2/\x.2.2<=4611686018427387903
 ne:x.2.1≠[]
 len:x.2.1.length<=2000
 rng:∀ e∈x.2.1,0<=e/\e<N.arcs.length
theorem Lu{N:aR}(f:N.Right){w:Wk}(h:w.OK N)(hp:bW w.left<w.left.length):l7 N (MM (hQ N w)):=by
 obtain⟨_,_,g,hP,j⟩:=pN f h hp;have o:=f.len
 obtain⟨p,d⟩:((hQ N w).1=112\/(hQ N w).1=98\/(hQ N w).1=99)/\∃ a z,mC N w.left (hQ N w).2.1 a z:=by
  rcases hP with ⟨k,_,h⟩|⟨k,_,h⟩|⟨k,v,h⟩
  ·exact⟨.inl k,_,_,h⟩
  ·exact⟨.inr (.inl k),_,_,h⟩
  ·exact⟨.inr (.inr k),_,_,h⟩
 obtain⟨a,z,d⟩:=d;have l:∀ i∈(hQ N w).2.1,i<N.arcs.length:=λ i hi=>by obtain⟨r,q,_⟩:=d.room i hi;exact (Nb.1 q).1
 have c:∀ e∈(hQ N w).2.1.map (λ (i:Nat)=>(i:Int)),0<=e/\e<N.arcs.length:=λ e he=>by
  obtain⟨i,hi,rfl⟩:=NB.1 he;have:=l i hi;omega
 have m:((hQ N w).2.1.map (λ (i:Nat)=>(i:Int))).Nodup:=List.Pairwise.map _ (λ a b n h=>n (Int.ofNat.inj h)) d.nodup;refine⟨p,⟨g,?_⟩,λ s=>d.ne (List.map_eq_nil_iff.1 s),?_,c⟩
 ·obtain⟨e,he⟩:=PU _ d.ne;have u:=j e he;have y:=(yS f h.flow e).2;show (hQ N w).2.2<=_;omega
 ·have:=kF _ ((List.range N.arcs.length).map λ (i:Nat)=>(i:Int)) m λ x t=>by
   have:=c x t;exact NB.2 ⟨x.toNat,N4.2 aa,aa⟩
  simp only[Nj,Om] at this;show (List.map _ _).length<=_;rw[Nj];omega
theorem zx{N:aR}(b:N.Right):∀ (n:Nat) (w:Wk),w.OK N->(kW N n w).length<=n/\∀ x∈(kW N n w).map MM,l7 N x
 |0,w,_=>⟨Np _,λ x a=>absurd a Nr⟩
 |n+1,w,hw=>by
  unfold kW;by_cases hp:bW w.left<w.left.length
  ·rw[if_pos hp];have c:=zx b n (z7 N w) (pN b hw hp).1;refine⟨by rw[List.length_cons];omega,fun x a=>?_⟩;rw[List.map_cons] at a
   rcases Nl.1 a with rfl|a
   ·exact Lu b hw hp
   ·exact c.2 x a
  ·rw[if_neg hp];exact⟨Nk _,λ x a=>absurd a Nr⟩
def r5(N:aR)(f:LI_):List It:=(lC N ⟨f,dJ (N.arcs.zip f) N.snk⟩).map MM
theorem Ib{N:aR}(a:N.Right){f:LI_}(b:aD N f):(r5 N f).length<=2001/\∀ x∈r5 N f,l7 N x:=by
 have h:=zx a (Wk.size ⟨f,dJ (N.arcs.zip f) N.snk⟩) ⟨f,dJ (N.arcs.zip f) N.snk⟩ ⟨b,rfl⟩;have c:=a.len;have d:=b.len;have e:qr f<=f.length:=List.countP_le_length;have g:Wk.size ⟨f,dJ (N.arcs.zip f) N.snk⟩<=qr f+1:=by unfold Wk.size;split<;>simp only<;>omega
 refine⟨?_,h.2⟩;unfold r5 lC;rw[Nj];omega
def kn(N:aR)(e:Int):Int:=pk N e.toNat
def DO(N:aR)(e:Int):Int:=jW N e.toNat
def Je(N:aR)(e:Int):Int:=match N.arcs[e.toNat]? with|some a=>a.cap|none=>0
def pL(N:aR):LI_->LI_->Int->Bool
 |[],_,_=>true
 |e::W,met,last=>if (met≠[]/\kn N e≠last)\/kn N e∈met then false else pL N W (met++[kn N e]) (DO N e)
def mV(N:aR)(x:It):Bool:=
 if x.2.2<1\/x.2.1=[] then false else if pL N x.2.1 [] 0=false then false else
 if x.1=112 then decide ((kn N (x.2.1.headD 0)=N.src/\DO N (x.2.1.getLastD 0)=N.snk)/\DO N (x.2.1.getLastD 0)∉x.2.1.map (kn N))
 else if x.1=98 then decide ((kn N (x.2.1.headD 0)=N.snk/\DO N (x.2.1.getLastD 0)=N.src)/\DO N (x.2.1.getLastD 0)∉x.2.1.map (kn N))
 else if x.1=99 then decide (kn N (x.2.1.headD 0)=DO N (x.2.1.getLastD 0)) else false
def xG(N:aR):LI_->Int->LI_->Option (LI_)
 |[],_,o=>some o
 |e::W,m,o=>if Je N e-o.getD e.toNat 0<m then none else xG N W m (o.set e.toNat (o.getD e.toNat 0+m))
def qh(N:aR):List It->LI_->Option (LI_)
 |[],o=>some o
 |x::r,o=>match xG N x.2.1 x.2.2 o with
  |some o'=>qh N r o'
  |none=>none
def qS(N:aR)(its:List It):Int:=if its.all (mV N)=false then 1 else if qh N its (List.replicate N.arcs.length 0)=none then 3 else 0
def fd(N:aR)(x:It):LI_:=x.2.2::x.2.1.map (kn N)++(if x.1=112\/x.1=98 then [DO N (x.2.1.getLastD 0)] else [])
def pG(k:Int):LU_:=if k=112 then [112,97,116,104] else if k=98 then [98,97,99,107] else [99,121,99,108,101]
def m9(N:aR)(x:It):LU_:=ir (pG x.1) (fd N x)
def d8(N:aR)(its:List It):LU_:=(its.map (m9 N)).flatten
def uN(N:aR)(its:List It):Value:=.tuple #[du (if qS N its=0 then d8 N its else []),.int .i64 (qS N its)]
theorem Mn{N:aR}(b:N.Right)(e:Int):b9 (kn N e):=by
 have:=b.nodes;unfold kn pk
 cases h:N.arcs[e.toNat]? with
 |none=>unfold b9;simp only;omega
 |some a=>have:=b.arc a (M9 h);unfold b9;simp only;omega
theorem My{N:aR}(b:N.Right)(e:Int):b9 (DO N e):=by
 have:=b.nodes;unfold DO jW
 cases h:N.arcs[e.toNat]? with
 |none=>unfold b9;simp only;omega
 |some a=>have:=b.arc a (M9 h);unfold b9;simp only;omega
theorem C2{N:aR}(b:N.Right){x:It}(c:l7 N x):(∀ n∈fd N x,b9 n)/\(fd N x).length<=2002:=by
 have:=c.len;refine⟨λ n a=>?_,?_⟩
 ·unfold fd at a
  rcases Nm.1 a with a|a
  ·rcases Nl.1 a with rfl|a
   ·have:=c.amt;unfold b9;omega
   ·obtain⟨e,_,rfl⟩:=NB.1 a;exact Mn b e
  ·split at a
   ·rw[Nh.1 a];exact My b _
   ·exact absurd a Nr
 ·unfold fd;rw[Ng,Nf,Nj];split<;>simp only[Nf,NA]<;>omega
theorem Iz{N:aR}(hR:N.Right){x:It}(hx:l7 N x):(m9 N x).length<=42060:=by
 obtain⟨h1,h2⟩:=C2 hR hx;have h3:=hJ (pG x.1) _ h1
 have h4:(pG x.1).length≤5:=by unfold pG;split;· decide
                               split<;>decide
 unfold m9;omega
theorem r7{N:aR}(a:N.Right):∀ {its:List It},(∀ x∈its,l7 N x)->(d8 N its).length<=its.length*42060
 |[],_=>by simp[d8]
 |x::r,h=>by
  have d:=Iz a (h x ai);have b:=r7 a (its:=r) λ y c=>h y (by simp[c]);unfold d8 at b ⊢;rw[Ns,Oy,Ng,Nf];omega
theorem zP(N:aR)(its:List It)(x:It):d8 N (its++[x])=d8 N its++m9 N x:=by unfold d8;simp
theorem Bn(a:Nat)(x y z:Int)(l:List eq)(Ar:OA_)(cr:Nat)(hl:l.length<=3000)(fr to_:Int):
 Fn 176 [.int .i64 fr,.int .i64 to_,.pointer (some ⟨a,0,none⟩)] (ay [blk a 33 [.int .i64 x,.int .i64 y,.int .i64 z,.slice Ar l.length cr],.own (.slice Ar l.length cr) 37 3 l.length (arcs l)])
  ([]++[blk a 33 [.int .i64 x,.int .i64 y,.int .i64 z,.slice Ar l.length cr],.own (.slice Ar l.length cr) 37 3 l.length (arcs l)]) λ _ H'=>∃ (b:OA_) (c:Nat),
    H'=[blk a 33 [.int .i64 x,.int .i64 y,.int .i64 z,.slice b (l++[eq.mk fr to_ 1]).length c],.own (.slice b (l++[eq.mk fr to_ 1]).length c) 37 3 (l++[eq.mk fr to_ 1]).length (arcs (l++[eq.mk fr to_ 1]))]:=by
 generalize hM:ay _=M
 refine aT Tryz.func176 λ w0=>?_;refine aI ?_;refine bh (v:=.slice Ar l.length cr) 0 ?_;refine az ?_;refine fv ?_;refine dp λ g=>?_;refine bp (n:=l.length) (m:=1) (off:=0) (news:=arcs [eq.mk fr to_ 1]) 2 0 rfl rfl rfl rfl rfl rfl ab rfl rfl (aQ g _ _ (0,0)) aE rfl rfl aa aa (λ _ _=>rfl) λ d c2=>az ?_;refine dz 1 ?_;refine cK (aw.picks [1,2] ab rfl)<|ah<|?_;rw[<- yu,show l.length+1=(l++[eq.mk fr to_ 1]).length by simp];exact⟨_,rfl,d,c2,rfl⟩
theorem Cs(g:Gr)(hg:g.Right)(A:OA_)(c b o:Nat)(hA:g.edges≠[]->A=some ⟨b,o,none⟩):Fn 152 [xj g A c] [] [.seg b o (fL g.edges)] λ v H'=>∃ (I:OA_) (K:Nat),v=.tuple #[cd (dO g) I K,.int .i64 0]/\
 H'=[.own (.slice I (dO g).arcs.length K) 37 3 (dO g).arcs.length (arcs (dO g).arcs)]:=by
 have V:=hg.left;have X:=hg.right;have Y:=hg.len;obtain⟨nl,z⟩:∃ n:Nat,g.left=n:=⟨g.left.toNat,aa⟩;obtain⟨nr,B⟩:∃ n:Nat,g.right=n:=⟨g.right.toNat,aa⟩;obtain⟨f,p⟩:∃ f:Nat->List eq,f=λ k=>(List.range k).map λ (i:Nat)=>eq.mk 1 (3+i) 1:=⟨_,rfl⟩;obtain⟨d,q⟩:∃ d:Nat->List eq,d=λ k=>f nl++(g.edges.take k).map λ e=>eq.mk (2+e.l) (2+g.left+e.r) 1:=⟨_,rfl⟩;obtain⟨m,t⟩:∃ m:Nat->List eq,m=λ k=>d g.edges.length++(List.range k).map λ (i:Nat)=>eq.mk (3+g.left+i) 2 1:=⟨_,rfl⟩;have L:∀ k,(f k).length=k:=λ k=>by rw[p];simp
 have M:∀ k,k<=g.edges.length->(d k).length=nl+k:=λ k N=>by rw[q];simp only[Ng,L,Nj,ND];omega
 have P:∀ k,(m k).length=nl+g.edges.length+k:=λ k=>by rw[t];simp only[Ng,M _ (Np _),Nj,Om]
 have s1:∀ k,f (k+1)=f k++[eq.mk 1 (3+k) 1]:=λ k=>by rw[p];simp[OY]
 have s2:∀ k e,g.edges[k]?=some e->d (k+1)=d k++[eq.mk (2+e.l) (2+g.left+e.r) 1]:=λ k e he=>by rw[q];simp only[Nv,he,NJ,NI];rfl
 have Q:∀ k,m (k+1)=m k++[eq.mk (3+g.left+k) 2 1]:=λ k=>by rw[t];simp[OY]
 have C:m nr=(dO g).arcs:=by
  rw[t,q,p];show _=((List.range g.left.toNat).map _++g.edges.map _)++(List.range g.right.toNat).map _;rw[z,B,Nz,Nz];simp only[NH]
 refine ie Tryz.func152 rfl rfl λ w0=>bA ?_;refine dh (cs:=rE g A c) λ y=>?_;refine dM λ x=>?_;refine Hi ?_;refine ak rfl (λ h=>absurd rfl h) (λ _=>ag ?_);refine aI ?_
 (first|refine ae [] (ad 0 rfl) rfl ?_|refine ae [] (ad 1 rfl) rfl ?_|refine ae [] (ad 2 rfl) rfl ?_|refine ae [] (ad 3 rfl) rfl ?_|refine ae [] (ad 4 rfl) rfl ?_|refine ae [] (ad 5 rfl) rfl ?_|refine ae [] (ad 6 rfl) rfl ?_|refine ae [] (ad 7 rfl) rfl ?_)
 refine az ?_
 (first|refine ae [] (ad 0 rfl) rfl ?_|refine ae [] (ad 1 rfl) rfl ?_|refine ae [] (ad 2 rfl) rfl ?_|refine ae [] (ad 3 rfl) rfl ?_|refine ae [] (ad 4 rfl) rfl ?_|refine ae [] (ad 5 rfl) rfl ?_|refine ae [] (ad 6 rfl) rfl ?_|refine ae [] (ad 7 rfl) rfl ?_)
 refine az ?_;refine aB 22 (v':=af (2+g.left+g.right)) rfl (M8 (Value.int .i64) (by rw[cv (n:=2+g.left) aa,cv aa]))<|fv ?_;refine dM λ a=>?_;refine iG ?_;refine cW ?_
 (first|refine ae [] (ad 0 rfl) rfl ?_|refine ae [] (ad 1 rfl) rfl ?_|refine ae [] (ad 2 rfl) rfl ?_|refine ae [] (ad 3 rfl) rfl ?_|refine ae [] (ad 4 rfl) rfl ?_|refine ae [] (ad 5 rfl) rfl ?_|refine ae [] (ad 6 rfl) rfl ?_|refine ae [] (ad 7 rfl) rfl ?_)
 refine aB 26 (v':=af (nl:Int)) rfl (M8 (Value.int .i64) z)<|aN ?_;refine b6 37 3<|au<|?_
 refine bS (σ:=Nat×OA_×Nat) (λ s=>[(27,af s.1),(26,af nl),(6,.func (.func 176) #[] #[ap a 0]),(5,ap a 0),(2,ap x 0),(1,ap y 0)])
  (λ s=>[blk a 33 [af (2+g.left+g.right),af 1,af 2,.slice s.2.1 (f s.1).length s.2.2],.own (.slice s.2.1 (f s.1).length s.2.2) 37 3 (f s.1).length (arcs (f s.1)),blk x 33 [af 0,af 0,af 0,.slice none 0 0],blk y 178 (rE g A c),.seg b o (fL g.edges)])
  (λ s=>s.1<=nl) (λ s=>nl-s.1) (0,none,0) [1,0,2,3,4] a8 ab (by rw[p];rfl) (Nk _) ?_
 rintro⟨k,Ar,cr⟩ N;simp only at N ⊢;have D:=L k;refine ao ?_;refine am (ak rfl (λ hlt=>ag ?_) (λ E=>aO ?_))
 ·refine am (au ?_);refine cW ?_;refine aB 32 (v':=af (3+k)) rfl (M8 (Value.int .i64) (cv aa)) ?_;show JL _ _ _ _ _ ([_,_]++[_,_,_]);refine sk (fst:=[]) (cap:=[ap a 0]) (Bn a (2+g.left+g.right) 1 2 (f k) Ar cr aa (1) ((3+k))) rfl aw.refl be ?_;rintro v H' ⟨F,c2,rfl⟩;refine dw ?_;exact⟨(k+1,F,c2),[0,1,2,3,4],⟨M8 some (M8 (Value.int .i64) (cv aa)),rfl,rfl,rfl,rfl,rfl,be⟩,ab,by simp only[s1];rfl,by simp only;omega,by simp only;omega⟩
 obtain rfl:k=nl:=aa;have u:f k=d 0:=by rw[q];simp
 rw[u] at D ⊢;refine aI ?_
 (first|refine ae [] (ad 0 rfl) rfl ?_|refine ae [] (ad 1 rfl) rfl ?_|refine ae [] (ad 2 rfl) rfl ?_|refine ae [] (ad 3 rfl) rfl ?_|refine ae [] (ad 4 rfl) rfl ?_|refine ae [] (ad 5 rfl) rfl ?_|refine ae [] (ad 6 rfl) rfl ?_|refine ae [] (ad 7 rfl) rfl ?_)
 refine jb ?_
 refine bS (σ:=Nat×OA_×Nat) (λ s=>[(38,af s.1),(37,af g.edges.length),(36,.slice A g.edges.length c),(6,.func (.func 176) #[] #[ap a 0]),(5,ap a 0),(2,ap x 0),(1,ap y 0)])
  (λ s=>[blk a 33 [af (2+g.left+g.right),af 1,af 2,.slice s.2.1 (d s.1).length s.2.2],.own (.slice s.2.1 (d s.1).length s.2.2) 37 3 (d s.1).length (arcs (d s.1)),blk x 33 [af 0,af 0,af 0,.slice none 0 0],blk y 178 (rE g A c),.seg b o (fL g.edges)])
  (λ s=>s.1<=g.edges.length) (λ s=>g.edges.length-s.1) (0,Ar,cr) [0,1,2,3,4] a8 ab rfl (Nk _) ?_
 clear D u
 rintro⟨j,Ar,cr⟩ O;simp only at O ⊢;have H:=M j O;refine ao ?_;refine am (ak rfl (λ hlt=>ag ?_) (λ E=>aO ?_))
 ·have hlt:j<g.edges.length:=by omega
  obtain rfl:=hA (by intro R;rw[R] at hlt;simp at hlt);obtain⟨e,he⟩:∃ e,g.edges[j]?=some e:=⟨g.edges[j],an hlt⟩;have S:=hg.edge e (M9 he);refine am (au ?_);refine tY ?_;refine aG (a7 4 rfl rfl (kr he)) ?_;refine dM λ Z=>?_;refine mU ?_;refine aI ?_;refine bh (v:=af e.l) 0 ?_;refine az ?_
  (first|refine ae [] (ad 0 rfl) rfl ?_|refine ae [] (ad 1 rfl) rfl ?_|refine ae [] (ad 2 rfl) rfl ?_|refine ae [] (ad 3 rfl) rfl ?_|refine ae [] (ad 4 rfl) rfl ?_|refine ae [] (ad 5 rfl) rfl ?_|refine ae [] (ad 6 rfl) rfl ?_|refine ae [] (ad 7 rfl) rfl ?_)
  refine az ?_;refine bh (v:=af e.r) 0 ?_;refine az ?_;refine aB 45 (v':=af (2+e.l)) rfl (M8 (Value.int .i64) (cv aa))<|aB 51 (v':=af (2+g.left+e.r)) rfl (M8 (Value.int .i64) (by rw[cv (n:=2+g.left) aa,cv aa]))<|cK (aw.picks [1,2,3,4,5] ab rfl)<|?_;show JL _ _ _ _ _ ([_,_]++[_,_,_]);refine sk (fst:=[]) (cap:=[ap a 0]) (Bn a (2+g.left+g.right) 1 2 (d j) Ar cr aa ((2+e.l)) ((2+g.left+e.r))) rfl aw.refl be ?_;rintro v H' ⟨F,c2,rfl⟩;refine dw ?_;exact⟨(j+1,F,c2),[0,1,2,3,4],⟨M8 some (M8 (Value.int .i64) (cv aa)),rfl,rfl,rfl,rfl,rfl,rfl,be⟩,ab,by simp only[s2 j e he];rfl,by simp only;omega,by simp only;omega⟩
 obtain rfl:j=g.edges.length:=aa;have w:d g.edges.length=m 0:=by rw[t];simp
 rw[w] at H ⊢;refine aI ?_
 (first|refine ae [] (ad 0 rfl) rfl ?_|refine ae [] (ad 1 rfl) rfl ?_|refine ae [] (ad 2 rfl) rfl ?_|refine ae [] (ad 3 rfl) rfl ?_|refine ae [] (ad 4 rfl) rfl ?_|refine ae [] (ad 5 rfl) rfl ?_|refine ae [] (ad 6 rfl) rfl ?_|refine ae [] (ad 7 rfl) rfl ?_)
 refine aB 55 (v':=af (nr:Int)) rfl (M8 (Value.int .i64) B)<|jb ?_
 refine bS (σ:=Nat×OA_×Nat) (λ s=>[(56,af s.1),(55,af nr),(6,.func (.func 176) #[] #[ap a 0]),(5,ap a 0),(2,ap x 0),(1,ap y 0)])
  (λ s=>[blk a 33 [af (2+g.left+g.right),af 1,af 2,.slice s.2.1 (m s.1).length s.2.2],.own (.slice s.2.1 (m s.1).length s.2.2) 37 3 (m s.1).length (arcs (m s.1)),blk x 33 [af 0,af 0,af 0,.slice none 0 0],blk y 178 (rE g A c),.seg b o (fL g.edges)])
  (λ s=>s.1<=nr) (λ s=>nr-s.1) (0,Ar,cr) [0,1,2,3,4] a8 ab rfl (Nk _) ?_
 clear H w
 rintro⟨i,Ar,cr⟩ hi;simp only at hi ⊢;have U:=P i;refine ao ?_;refine am (ak rfl (λ hlt=>ag ?_) (λ E=>aO ?_))
 ·refine am (au ?_);refine cW ?_
  (first|refine ae [] (ad 0 rfl) rfl ?_|refine ae [] (ad 1 rfl) rfl ?_|refine ae [] (ad 2 rfl) rfl ?_|refine ae [] (ad 3 rfl) rfl ?_|refine ae [] (ad 4 rfl) rfl ?_|refine ae [] (ad 5 rfl) rfl ?_|refine ae [] (ad 6 rfl) rfl ?_|refine ae [] (ad 7 rfl) rfl ?_)
  refine az ?_;refine aB 65 (v':=af (3+g.left+i)) rfl (M8 (Value.int .i64) (by rw[cv (n:=2+g.left) aa,cv (n:=2+g.left+1) aa,cv aa];omega)) ?_;show JL _ _ _ _ _ ([_,_]++[_,_,_]);refine sk (fst:=[]) (cap:=[ap a 0]) (Bn a (2+g.left+g.right) 1 2 (m i) Ar cr aa ((3+g.left+i)) (2)) rfl aw.refl be ?_;rintro v H' ⟨F,c2,rfl⟩;refine dw ?_;exact⟨(i+1,F,c2),[0,1,2,3,4],⟨M8 some (M8 (Value.int .i64) (cv aa)),rfl,rfl,rfl,rfl,rfl,be⟩,ab,by simp only[Q];rfl,by simp only;omega,by simp only;omega⟩
 obtain rfl:i=nr:=aa;rw[C];refine bA ?_;refine bh (v:=cd (dO g) Ar cr) 0 ?_;refine dz 2 ?_;refine lI ?_;exact⟨[_,_],[1],_,⟨⟨x,2,_,_,rfl,rfl,rfl⟩,rfl,be⟩,ab,rfl,Ar,cr,rfl,rfl⟩
section
variable {X:Cx} {E:Env} {H:Heap}
theorem Iv{o:Oper}{t e n c i j b d:Nat}{x l hi:Operand}{A:OA_}{z:Option Value}{m:TI}{k p:IntKind}(u:o.op=.slice t x (some l) (some hi) none)(v:val E x=some (.slice A n c))(f:val E l=some (.int k (i:Int)))(g:val E hi=some (.int p (j:Int)))
 (q:tab t=some ⟨.slice e,b,d,z⟩) (he:tab e=some m) (y:i<=j) (B:j<=c):i7 X o E H (.slice (fT A c i m.size) (j-i) (c-i)):=by
 intro a w h C;have r:=ux q;have s:=run_slice_lh (P:=Tryz.prog) (w:=w) t A n c r k p (i:Int) (j:Int) aa aa aa;rw[sx q] at s;simp[execOp,u,h.val v,h.val f,h.val g,run_sliceAt_slice w t _ _ _ _ r,s,dT he,sliced,fT]
end
def dV(f:LI_)(nl k:Nat):LI_:=((List.range k).filter λ (i:Nat)=>decide (0<f.getD (nl+i) 0)).map λ (i:Nat)=>(i:Int)
theorem sF(f:LI_)(nl k:Nat):dV f nl (k+1)=dV f nl k++(if 0<f.getD (nl+k) 0 then [(k:Int)] else []):=by
 unfold dV;refine wY ?_
 congr 1
 by_cases h:0<f.getD (nl+k) 0
 ·rw[if_pos h,OJ,if_pos (OU h)];rfl
 ·rw[if_neg h,OJ,if_neg (by simpa using h)];rfl
theorem pF(f:LI_)(nl k:Nat):(dV f nl k).length<=k:=by
 unfold dV;exact CE
def jA(N:aR)(f:LI_):Prop:=aD N f/\¬ tf N (a9 (N.arcs.zip f)) 1 N.snk
def HC(gf:FuncId)(lb:LV_)(p ty:Nat)(n0:Int)(nr:Nat)(x:Nat->LV_):Prop:=
 ∀ (l:Nat) (J:Nat->Int->World->Prop) (W:World),(∀ k a W,J k a W->(blk p ty [.int .i64 a]).holds W)->
   (∀ k a b W W',J k a W->dL W [p] W' [blk p ty [.int .i64 b]]->J k b W')->
   (∀ k a W,k<nr->J k a W->YieldAt Fence.wide 0 Tryz.prog l (x k).toArray W λ e W'=>e=.returned (.bool true)/\J (k+1) a W')->
   J 0 n0 W->Calls Tryz.prog gf (#[.func (.yield l) #[] #[]]++lb.toArray) W λ e W'=>(∃ v,e=.returned v)/\∃ a,J nr a W'
section
variable {w0:World} {M:LN_} {n:Nat} {E:Env} {R:Exit->Act->World->Prop}
theorem IF{σ:Type}{g:Operand}{ps:LN_}{assign body:Code}{gf:FuncId}{lb:LV_}{p ty:Nat}{n0:Int}{nr:Nat}{x:Nat->LV_}(f:σ->Heap)(Inv:Nat->σ->Prop)(s0:σ)(hg:val E g=some (.func (.func gf) #[] lb.toArray))(hc:eg gf=true)
 (hit:HC gf lb p ty n0 nr x) (O:∀ k,k<nr->(x k).length=ps.length) (Q:(ps.all λ p=>Nat.blt p n)=true) (h0:Inv 0 s0)
 (i:∀ r D k (s:σ) (y:Int) (u A:Obj),k<nr->Inv k s->JR ⟨w0,M,⟨n,[]⟩⟩ r assign (λ E1 H1=>H1=(.obj r u::.obj D uA::blk p ty [.int .i64 y]::f s)/\
  JR ⟨w0,M,⟨n,[]⟩⟩ r body (λ _ H2=>∃ (L:σ),Inv (k+1) L/\aw ⟨w0,M,⟨n,[]⟩⟩ H2 (.obj r A::.obj D uA::blk p ty [.int .i64 y]::f L)) E1 (.obj r A::.obj D uA::blk p ty [.int .i64 y]::f s)) (wh ps (x k) E) (.obj r u::.obj D uA::blk p ty [.int .i64 y]::f s))
 (j:∀ D a w (s:σ) (y:Int),Inv nr s->gt ⟨n,[sH D]⟩ a E->dL w0 M w (.obj D uA::blk p ty [.int .i64 y]::f s)->R .normal a w):W ⟨w0,M,⟨n,[]⟩⟩ (.rangeFunc g ps.toArray assign body) R E (blk p ty [.int .i64 n0]::f s0):=by
 intro a w m hH;refine (wpIn_wide (n:=0)).1 (wpIn_rangeFunc ?_);intro fn _;obtain⟨rec,c⟩:∃ rec:LoopState->Option Code->Loop,rec=λ st pe=>{ state:=st,pending:=pe,fn,tmps:=a.tmps,params:=ps.toArray,assign,body,defers:=w.heap.size }:=⟨_,rfl⟩;obtain⟨l,B⟩:∃ l,(w.alloc (.deferred (some []))).alloc (.loop (rec .ready none))=l:=⟨_,rfl⟩
 have U:dL w0 M l (.obj (w.heap.size+1) (.loop (rec .ready none))::.obj w.heap.size uA::blk p ty [af n0]::f s0):=by
  have:=(hH.alloc uA).alloc (.loop (rec .ready none));rw[World.size_alloc] at this;rw[<- B];exact this
 have V:a.eval g=.func (.func gf) #[] lb.toArray:=m.val hg;refine⟨w.heap.size+1,[sH w.heap.size],l,{ target:=.fn (.func gf) lb.toArray,args:=#[.func (.yield (w.heap.size+1)) #[] #[]] },l,gf,#[.func (.yield (w.heap.size+1)) #[] #[]]++lb.toArray,l,?_,?_,λ _ _=>trivial,?_,λ hd=>(by simp[Fence.wide] at hd),?_⟩
 ·rw[<- B,c];exact run_enterLoop_outer _ _ _ _ _
 ·simp only[resolve,V];simp[go_sem]
 ·simp[invoke,iR hc]
 ·refine (callsIn_wide.2 (hit (w.heap.size+1) (λ k y W=>∃ s,Inv k s/\dL w0 M W (.obj (w.heap.size+1) (.loop (rec .ready none))::.obj w.heap.size uA::blk p ty [af y]::f s)) l (λ k y W h=>h.elim λ s h=>h.2.holds (blk p ty [af y]) ai) ?_ ?_ ⟨s0,h0,U⟩)).mono ?_
  ·rintro k y z W W' ⟨s,C,h⟩ o;refine⟨s,C,?_⟩;exact h.step (d:=blk p ty [af z]) 2 rfl o.os o.tape o.output o.size (λ q N hm=>o.keep q N (λ e=>hm (by rw[Nh.1 e];rfl))) (o.holds _ ai) (λ b X=>.inl X)
  ·rintro k y W hk ⟨s,C,h⟩;have hl:W.heap[w.heap.size+1]?=some (.loop (rec .ready none)):=h.holds (.obj _ _) ai;have hy:=run_yield (P:=Tryz.prog) (args:=(x k).toArray) hl (by rw[c];simp[O k hk]);rw[c] at hy;refine⟨fn,_,assign,body,hy,roundIn_of_wpIn trivial ?_⟩
   have Y:gt ⟨n,[]⟩ { tmps:=((ps.toArray.zip (x k).toArray).foldl (λ t (p,v)=>t.setIfInBounds p v) a.tmps),defers:=[] } (wh ps (x k) E):=by
    have:=gt.bind ps (x k) a.tmps E Q ⟨m.size,rfl,m.get⟩
    have e:(ps.toArray.zip (x k).toArray).foldl (λ t (p,v)=>t.setIfInBounds p v) a.tmps=(ps.zip (x k)).foldl (λ t (p,v)=>t.setIfInBounds p v) a.tmps:=by
     rw[<- PX];simp
    rw[e];exact this
   refine wpIn_mono (i (w.heap.size+1) w.heap.size k s y (.loop (rec .ready none)) (.loop { rec .ready none with state:=.busy }) hk C _ W Y h) ?_;rintro e a1 Z ⟨E1,H1,h1,F,N⟩
   cases e with
   |normal=>
    obtain⟨rfl,X⟩:=N;have h2:Z.heap[w.heap.size+1]?=some (.loop (rec .ready none)):=F.holds (.obj _ _) ai;refine⟨_,run_beginRound h2 (by rw[c]),?_⟩;refine wpIn_mono (X a1 _ h1 F.turn) ?_;rintro e a3 W3 ⟨E3,H3,hr,hx,H⟩
    cases e with
    |normal=>
     obtain⟨L,hR,I⟩:=H;have K:=I W3 hx;have hv:W3.heap[w.heap.size+1]?=some (.loop { rec .ready none with state:=.busy }):=K.holds (.obj _ _) ai;refine⟨_,_,run_endRound none hv,rfl,?_⟩;have:=K.turn (o':=.loop (rec .ready none));rw[c] at this ⊢;exact⟨L,hR,this⟩
    |_=>exact H.elim
   |_=>exact N.elim
  ·rintro e Z ⟨⟨v,rfl⟩,y,s,C,h⟩;have hl:Z.heap[w.heap.size+1]?=some (.loop (rec .ready none)):=h.holds (.obj _ _) ai;refine⟨none,_,by have:=run_endLoop (P:=Tryz.prog) hl (by rw[c];simp);rw[c] at this;exact this,?_⟩;have K:=h.turn (o':=.loop (rec .exhausted none));rw[c] at K;exact j w.heap.size _ _ s y C ⟨m.size,by show [_]++a.defers=_;rw[m.defers];rfl,m.get⟩ K.tail
end
section
variable {G:Nat->World->Prop} {n:Nat} {S:Heap} {E:Env} {k:Nat} {M:LN_} {R:Exit->Act->World->Prop}
theorem D3{c:Code}{Q:e6}(j:∀ W,G k W->dL W M W S)(h:∀ w,J ⟨w,M,⟨n,[]⟩⟩ c Q E S)
 (l:∀ e b a w',gt ⟨n,[]⟩ a b->(∃ w H',G k w/\dL w M w' H'/\Q e b H')->R e a w'):WG G n c R E k:=by
 intro a w m i;refine wp_mono (h w a w m (j w i)) ?_;rintro e o w' ⟨b,H',d,f,g⟩;exact l e b o w' d ⟨w,H',i,f,g⟩
theorem Iq{w:World}{p ty:Nat}{vs:LV_}(h:(blk p ty vs).holds w):dL w [p] w [blk p ty vs]:=
 ⟨rfl,rfl,rfl,Np _,λ _ _ _=>rfl,λ c a=>(Nh.1 a)▸h,λ c a b d=>.inr (by rw[Nh.1 a] at d;simp[aU.mine] at d;simp[d]),OQ _ _⟩
end
end Go.Proofs.YtmcnpaelaieniaaGreatDoor
