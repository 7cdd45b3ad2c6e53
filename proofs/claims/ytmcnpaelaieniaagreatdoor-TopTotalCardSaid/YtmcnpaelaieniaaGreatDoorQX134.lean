import Derived.Test.YtmcnpaelaieniaaGreatDoorQX140
/- A part of the proof. -/
set_option linter.unusedVariables false
set_option linter.unusedSimpArgs false
set_option maxHeartbeats 8000000
namespace Go.Proofs.YtmcnpaelaieniaaGreatDoor
open Go.RowKit
theorem wo(A:OA_)(c b o:Nat)(l:LB_)(g:l≠[]->A=some ⟨b,o,none⟩)(hl:l.length<=100000)(is:Bool):
 Fn 156 [.slice A l.length c,.bool is] [] [.seg b o (dM l)] λ v H'=>∃ i j,v=.slice i (b9 l is l.length).length j/\H'=[.own v 3 1 (b9 l is l.length).length (aj (b9 l is l.length))]:=by
 refine aT Tryz.func156 λ w0=>?_;refine ja ?_;refine jn ?_;refine bX 3 1 ?_
 refine bP (σ:=Nat×OA_×Nat) (λ s=>[(10,af s.1),(9,af l.length),(8,.slice A l.length c),(5,.slice s.2.1 (b9 l is s.1).length s.2.2),(1,.bool is)])
  (λ s=>[.own (.slice s.2.1 (b9 l is s.1).length s.2.2) 3 1 (b9 l is s.1).length (aj (b9 l is s.1)),.seg b o (dM l)]) (λ s=>s.1<=l.length) (λ s=>l.length-s.1)
  (0,none,0) [0,1] a7 ab rfl (Nl _) ?_
 rintro⟨k,A1,d⟩ q;simp only at q ⊢;have r:=lA l is k;refine ao ?_;refine am (ak rfl (λ hlt=>ag ?_) (λ t=>aO ?_))
 ·have hlt:k<l.length:=by omega
  obtain rfl:=g (by rintro rfl;simp at hlt);obtain⟨m,hm⟩:∃ m,l[k]?=some m:=⟨l[k],be hlt⟩;have a:=nu l is k;refine am (aq ?_);refine iz ?_;refine aF (aZ 1 rfl rfl (show (dM l)[k]?=some (.bool m) from iD hm)) ?_;refine aN ?_;by_cases hgo:0<k/\m=is
  ·rw[if_pos ⟨hgo.1,by rw[hm,hgo.2]⟩] at a;refine Hf ?_;refine aE (fV [] rfl ?_);refine dp λ g2=>?_;refine bx (n:=(b9 l is k).length) (m:=1) (off:=0) (news:=aj [(k:Int)]) 1 0 rfl rfl rfl rfl rfl rfl ab rfl rfl (aS g2 _ _ (0,0)) aK rfl rfl aa aa (λ _ _=>rfl) λ u c2=>?_;rw[show (b9 l is k).length+1=(b9 l is (k+1)).length by rw[a];simp,show aj (b9 l is k)++aj [(k:Int)]=aj (b9 l is (k+1)) by rw[a];simp[aj]];refine cR ?_;refine⟨(k+1,u,c2),[1,2],⟨?_,rfl,rfl,rfl,rfl,an⟩,ab,rfl,by simp only;omega,by simp only;omega⟩;refine fy ?_;rw[cp aa];rfl
  ·rw[if_neg (fun h=>hgo ⟨h.1,by rw[hm] at h;simpa using h.2⟩),List.append_nil] at a
   refine fN [(21,.bool false),(10,af k),(9,af l.length),(8,ax b o l.length c),(5,.slice A1 (b9 l is k).length d),(1,.bool is)]
    [.own (.slice A1 (b9 l is k).length d) 3 1 (b9 l is k).length (aj (b9 l is k)),.seg b o (dM l)] ?_ ?_
   ·refine aI ?_;by_cases h0:0<k
    ·exact Hx
    ·refine dc 17 rfl aa<|cW [2] ?_;exact qm
   ·refine bo rfl (ag ?_);refine ao ?_;refine⟨(k+1,A1,d),[0,1],⟨?_,rfl,rfl,by simp only[a];rfl,rfl,an⟩,ab,by simp only[a];rfl,by simp only;omega,by simp only;omega⟩;refine fy ?_;rw[cp aa];rfl
 ·have f:k=l.length:=by omega
  subst f;refine ao ?_;refine aM [0] ⟨_,rfl,A1,d,rfl,rfl⟩
structure fH (m:Int) (l:LI_):Prop where
 rise:l.Pairwise (·<·)
 rng:∀ x∈l,1<=x/\x<=m
theorem fH.snoc{m:Int}{l:LI_}{x:Int}:fH m (l++[x])↔fH m l/\(∀ y∈l,y<x)/\1<=x/\x<=m:=by
 constructor
 ·intro h;obtain⟨b,_,c⟩:=Of.1 h.rise;have d:=h.rng x ai;exact⟨⟨b,λ y a=>h.rng y (by simp[a])⟩,λ y a=>c y a x ai,d.1,d.2⟩
 ·rintro⟨h,b,e,c⟩;refine⟨rA h.rise b,λ y a=>?_⟩
  rcases Np.1 a with a|a
  ·exact h.rng y a
  ·rw[Ni.1 a];exact⟨e,c⟩
def GH(sl sr:LI_)(Al Ar:OA_)(cl cr:Nat):Value:=.agg #[.slice Al sl.length cl,.slice Ar sr.length cr]
open Classical in
noncomputable def qV(N:aV)(s:LI_):Int:=if ¬ fH N.nodes s then 1 else if N.src∈s/\N.snk∉s then 0 else 9
theorem sC{N:aV}{s:LI_}(h:¬ fH N.nodes s):qV N s=1:=by unfold qV;rw[if_pos h]
theorem si{N:aV}{s:LI_}(h:fH N.nodes s)(k:¬ (N.src∈s/\N.snk∉s)):qV N s=9:=by unfold qV;rw[if_neg (λ n=>n h),if_neg k]
theorem sa{N:aV}{s:LI_}:qV N s=0↔fm N s:=by
 constructor
 ·intro h;by_cases a:fH N.nodes s
  ·by_cases b:N.src∈s/\N.snk∉s
   ·exact⟨a.rise,a.rng,b.1,b.2⟩
   ·rw[si a b] at h;exact absurd h ab
  ·rw[sC a] at h;exact absurd h ab
 ·intro h;unfold qV;rw[if_neg (λ n=>n ⟨h.rise,h.rng⟩),if_pos ⟨h.src,h.snk⟩]
theorem zI{m:Int}{l r:LI_}{x:Int}(h:fH m (l++x::r)):(l.getLast?.getD 0)<x/\x<=m:=by
 have a:=h.rng x ai;refine⟨?_,a.2⟩
 cases hl:l.getLast? with
 |none=>show (0:Int)<x;omega
 |some y=>exact (Of.1 h.rise).2.2 y (OC hl) x ai
theorem Gh{m:Int}{l:LI_}(h:fH m l):∀ y∈l,y<=l.getLast?.getD 0:=by
 intro y a
 rcases Ob l with rfl|⟨q,z,rfl⟩
 ·exact absurd a Nt
 ·rw[Oc] at*;rw[N1];show y<=z
  rcases Np.1 a with a|a
  ·have:=(Of.1 h.rise).2.2 y a z ai;omega
  ·rw[Ni.1 a];omega
theorem yE(N:aV)(hN:N.Fits)(hR:N.Right)(A:OA_)(c b o:Nat)(hA:N.arcs≠[]->A=some ⟨b,o,none⟩)(s:LI_)(t:¬ fm N s)(u:s.length<=100000)(S:OA_)(cs l os:Nat)(w:s≠[]->S=some ⟨l,os,none⟩):
 Fn 97 [bZ N A c,.slice S s.length cs] [] [.seg b o (arcs N.arcs),.seg l os (aj s)] λ v H'=>v=.tuple #[.slice none 0 0,.int .i64 (qV N s)]/\H'=[]:=by
 have z:=hR.len;have B:=hR.nodes;refine aT Tryz.func97 λ w0=>?_;refine bu ?_;refine cY (cs:=bU N A c) λ p=>?_;refine zO ?_;refine ak rfl (λ h=>absurd rfl h) (λ _=>ag ?_);refine bu ?_;refine qe rfl aK λ r=>cR ?_;refine jn ?_
 refine bP (σ:=Nat) (λ k=>[(22,af k),(21,af s.length),(20,.slice S s.length cs),(8,af ((s.take k).getLast?.getD 0)),(7,.map (some r)),(2,ap p 0)])
  (λ k=>[.obj r (jT (l6 (s.take k))),blk p 33 (bU N A c),.seg b o (arcs N.arcs),.seg l os (aj s)]) (λ k=>k<=s.length/\fH N.nodes (s.take k)) (λ k=>s.length-k)
  0 [0,1,2,3] a7 ab rfl ⟨Nl _,⟨ai,ai⟩⟩ ?_
 rintro k ⟨E,e⟩;refine ao ?_;refine am (ak rfl (λ hlt=>ag ?_) (λ C=>aO ?_))
 ·have hlt:k<s.length:=by omega
  obtain rfl:=w (by rintro rfl;simp at hlt);obtain⟨x,hx⟩:∃ x,s[k]?=some x:=⟨s[k],be hlt⟩
  have i:s=s.take k++x::s.drop (k+1):=by
   have:s.drop k=x::s.drop (k+1):=by rw[N5 hlt];rw[(Ng.1 hx).2]
   rw[<- this,Oa]
  have f:s.take (k+1)=s.take k++[x]:=by rw[Nu,hx];rfl
  refine am (aq ?_);refine Bn ?_;by_cases g:x<=(s.take k).getLast?.getD 0
  ·refine dt 29 rfl g<|ek ?_;refine ah<|eu ?_;refine aM [] ⟨_,rfl,?_,rfl⟩;rw[sC (λ h=>by rw[i] at h;have:=(zI h).1;omega)];rfl
  refine dc 29 rfl g<|ek ?_;refine ae [3] (ad 1 rfl) rfl<|cW [3] ?_;refine ak rfl (λ h=>?_) (λ h=>ag ?_)
  ·refine ao ?_;refine aM [] ⟨_,rfl,?_,rfl⟩;rw[sC (λ h'=>by rw[i] at h';have:=(zI h').2;omega)];rfl
  have a:∀ y∈s.take k,y<x:=λ y m=>by have:=Gh e y m;omega
  have j:fH N.nodes (s.take (k+1)):=by
   rw[f,fH.snoc]
   have F:0<=(s.take k).getLast?.getD 0:=by
    cases hl:(s.take k).getLast? with
    |none=>exact Ox _
    |some y=>have:=e.rng y (OC hl);show 0<=y;omega
   exact⟨e,a,aa,aa⟩
  refine aI ?_;refine qq 0 Tryz.underlying205 Tryz.underlying3 rfl rfl rfl rfl rfl (λ q D=>?_) [] rfl ?_
  ·obtain⟨y,m,rfl⟩:=NF.1 D;have:=a y m;show y≠x;omega
  refine cR ?_;refine⟨k+1,[0,1,2,3],⟨?_,rfl,rfl,?_,rfl,rfl,an⟩,ab,?_,⟨aa,j⟩,aa⟩
  ·refine fy ?_;rw[cp aa];rfl
  ·rw[f,N1];rfl
  ·rw[f];unfold l6;rw[NI];rfl
 ·have n:k=s.length:=by omega
  subst n;rw[NH] at e ⊢;have d:¬ (N.src∈s/\N.snk∉s):=λ h=>t ⟨e.rise,e.rng,h.1,h.2⟩;refine aI ?_;refine bj 1 ?_;refine aF (fW 0 Tryz.underlying205 Tryz.underlying3 rfl rfl rfl rfl rfl) ?_;by_cases g:N.src∈s
  ·refine aA 42 (v':=.bool true) rfl (by rw[dn,aQ g])<|FC ?_;refine aA 48 (v':=.bool true) rfl (by rw[dn,aQ (No.1 λ h=>d ⟨g,h⟩)])<|cW [5] ?_;refine eu ?_;refine aM [] ⟨_,rfl,?_,rfl⟩;rw[si e d];rfl
  ·refine aA 42 (v':=.bool false) rfl (by rw[dn,aU g])<|az ?_;refine aA 44 (v':=.bool true) rfl rfl<|bp [5] ?_;refine ah<|eu ?_;refine aM [] ⟨_,rfl,?_,rfl⟩;rw[si e d];rfl
open Classical in
noncomputable def DO(N:aV)(s:LI_):Int×Int:=if fm N s then (iw s N.arcs,0) else (0,qV N s)
theorem qK(N:aV)(g:N.Fits)(i:N.Right)(A:OA_)(c b o:Nat)(j:N.arcs≠[]->A=some ⟨b,o,none⟩)(s:LI_)(a:s.length<=100000)(S:OA_)(cs d os:Nat)(k:s≠[]->S=some ⟨d,os,none⟩):
 Fn 59 [bZ N A c,.slice S s.length cs] [] [.seg b o (arcs N.arcs),.seg d os (aj s)] λ v H'=>v=tg (DO N s)/\H'=[]:=by
 by_cases e:fm N s
 ·unfold DO;rw[if_pos e];exact sS N g i A c b o j s e a S cs d os k
 unfold DO;rw[if_neg e];refine aT Tryz.func59 λ w0=>?_;refine bu ?_;refine cY (cs:=bU N A c) λ p=>?_;refine ie ?_;refine cj (yE N g i A c b o j s e a S cs d os k) rfl ⟨bz 1 rfl,bz 2 rfl,an⟩ ?_;refine cR ?_;refine jn ?_;refine bP (σ:=Unit) (λ _=>[(19,af 0),(18,af 0),(8,af 0),(7,af (qV N s))]) (λ _=>[]) (λ _=>True) (λ _=>0) () [] a7 ab rfl an ?_;intro _ _;refine ao ?_;refine am (ak rfl (λ f=>absurd f ab) (λ l=>aO ?_));exact jS
open Classical in
noncomputable def sU(N:aV)(f s:LI_):Int:=if aD N f then (if fm N s then (if dH (N.arcs.zip f) N.snk=iw s N.arcs then 0 else 8) else qV N s) else eP N f
theorem Fa(N:aV)(j:N.Fits)(k:N.Right)(A:OA_)(c b o:Nat)(l:N.arcs≠[]->A=some ⟨b,o,none⟩)(f:LI_)(m:∀ x∈f,b7 x)(n:f.length*8<=140737488351232)(F:OA_)(cf g of:Nat)(r:f≠[]->F=some ⟨g,of,none⟩)
 (s:LI_) (d:s.length<=100000) (S:OA_) (cs i os:Nat) (t:s≠[]->S=some ⟨i,os,none⟩):
 Fn 129 [bZ N A c,.slice F f.length cf,.slice S s.length cs] [] [.seg b o (arcs N.arcs),.seg g of (aj f),.seg i os (aj s)] λ v H'=>v=.int .i64 (sU N f s)/\H'=[]:=by
 unfold sU;by_cases a:aD N f/\fm N s
 ·rw[if_pos a.1,if_pos a.2];exact GC N j k A c b o l f a.1 F cf g of r s a.2 d S cs i os t
 refine aT Tryz.func129 λ w0=>?_;refine bu ?_;refine cY (cs:=bU N A c) λ p=>?_;refine ie ?_;refine dG (f9 N j k A c b o l f F cf g of r m n) rfl ⟨bz 1 rfl,bz 2 rfl,an⟩ ?_;rintro v H' ⟨⟨rfl,e⟩|⟨rfl,e⟩,rfl⟩
 case inr=>
  refine fD ?_;refine ak rfl (λ h=>?_) (λ h=>absurd (cZ.1 (No.1 h)) e);refine ao ?_;refine aM [] ⟨_,rfl,?_,rfl⟩;rw[if_neg e];rfl
 have q:¬ fm N s:=λ h=>a ⟨e,h⟩;have T:=qK N j k A c b o l s d S cs i os t;unfold DO at T;rw[if_neg q] at T;rw[if_pos e,if_neg q];refine fD ?_;refine ak rfl (λ h=>absurd rfl h) (λ _=>ag ?_);refine rR ?_;refine cj T rfl ⟨bz 1 rfl,bz 3 rfl,an⟩ ?_;refine im ?_;refine ao ?_;refine ak rfl (λ h=>?_) (λ h=>absurd (sa.1 (No.1 h)) q);exact jS
open Lib
def hU(w:LU_)(l:LI_):LU_:=gD w l++[10]
theorem ze(w:LU_)(l:LI_):hU w l≠[]:=by unfold hU;simp
theorem Bo:Cp 129:=by unfold Cp;kernel_rfl
theorem iO(V:LibV)(b:Nat)(p:Value)(hp:Kp b p)(A:OA_)(c:Nat)(m:LU_)(w:LU_)(hw:w.length<=100)(l:LI_)(hl:∀ n∈l,b7 n)(r:l.length<=100000)(hm:m.length<=100000000000)(B:OA_)(n o d e:Nat)(t:l≠[]->B=some ⟨d,e,none⟩)(u:n=l.length):
 Fn 60 [.pointer (some ⟨b,0,none⟩),dk w,.slice B n o] (aC (nf 129 b p A c m)) (([.seg d e (aj l)]++V.heap)++nf 129 b p A c m) λ _ H'=>∃ (f:OA_) (i:Nat),H'=nf 129 b (.pointer (some ⟨b,0,none⟩)) f i (m++hU w l):=by
 subst u;have y:=fi w l hl
 generalize hM:aC _=M
 refine aT Tryz.func60 λ w0=>?_;refine aI ?_;refine dp λ g0=>?_;refine jg ?_;refine qg ?_
 refine bP (σ:=Nat×OA_×Nat) (λ s=>[(13,af s.1),(12,af l.length),(11,.slice B l.length o),(6,.slice s.2.1 (w::(l.take s.1).map itoa).length s.2.2),(0,ap b 0)])
  (λ s=>.own (.slice s.2.1 (w::(l.take s.1).map itoa).length s.2.2) 9 1 (w::(l.take s.1).map itoa).length (cv (w::(l.take s.1).map itoa))::(([.seg d e (aj l)]++V.heap)++nf 129 b p A c m))
  (λ s=>s.1<=l.length) (λ s=>l.length-s.1) (0,aL g0 0,1) [0,1,2,3,4,5,6] a7 ab rfl (Nl _) ?_
 rintro⟨k,F,c2⟩ z;simp only at z ⊢;refine ao ?_;refine am (ak rfl (λ C=>ag ?_) (λ D=>aO ?_))
 ·have hlt':k<l.length:=by omega
  obtain⟨x,j⟩:∃ x,l[k]?=some x:=⟨l[k],be hlt'⟩;obtain rfl:=t (by rintro rfl;simp at hlt');have hxB:=hl x (Nb j);have hlen:(w::(l.take k).map itoa).length=k+1:=by rw[Nh,Nm,NE];omega
  refine am (aq ?_);refine wu ?_;refine aF (aZ 1 rfl rfl (bQ j)) ?_;refine BQ ?_;refine dp λ g2=>?_;refine bx (n:=(w::(l.take k).map itoa).length) (m:=1) (off:=0) (news:=cv [itoa x]) 1 0 rfl rfl rfl rfl rfl rfl ab rfl rfl (aS g2 _ _ (0,0)) aK rfl rfl aa aa (λ _ _=>rfl) λ E c3=>cR ?_;have a:w::(l.take (k+1)).map itoa=(w::(l.take k).map itoa)++[itoa x]:=by rw[Nu,j];simp
  refine⟨(k+1,E,c3),[1,2,3,4,5,6,7],⟨?_,rfl,rfl,?_,rfl,an⟩,ab,?_,by simp only;omega,by simp only;omega⟩
  ·refine fy ?_;rw[cp aa];rfl
  ·simp only[a];rw[Nj];rfl
  ·simp only[a];rw[Nj,show cv ((w::(l.take k).map itoa)++[itoa x])=cv (w::(l.take k).map itoa)++cv [itoa x] by simp[cv]];rfl
 obtain rfl:k=l.length:=aa;refine aR (aH 0 rfl) (λ q=>?_);obtain⟨g,rfl⟩:=q.2.2.1 ai;rw[NH] at*;refine cq ?_;refine bM 7 (dT [0,1,2,3]++[(4,false)]++dT [5]++[(6,false)]) [] aX ab rfl<|jI ?_;refine cj (tW (aL g 0) _ c2 g 0 (w::l.map itoa) rfl aK q.2.1 (by show (gD w l).length<=_;omega) eK) rfl ⟨fX 0 rfl ca (.inr rfl),an⟩ ?_;refine b6 []<|bh rfl (iW (l:=gD w l) (m:=[10]) rfl rfl rfl eK) ?_;refine cz ?_;refine bK (fst:=[]) (cap:=[]) [] (G2 129 b p Bo hp A c m (gD w l++[10]) eK) rfl rfl rfl rfl aX (K:=[]) (ay.picks [5,6] ab rfl) an aK ?_;rintro v H' ⟨f,i,rfl⟩;refine dw ?_;refine b6 []<|gA ?_;exact⟨_,rfl,f,i,rfl⟩
open Lib
def vF(f:LI_)(i:Nat):LU_:=if 0<f.getD i 0 then hU [102] [((i+1:Nat):Int),f.getD i 0] else []
def fK(f:LI_)(k:Nat):LU_:=((List.range k).map (vF f)).flatten
def xK(s:LI_)(k:Nat):LU_:=((s.take k).map λ x=>hU [120] [x]).flatten
theorem Ci(f:LI_)(k:Nat):fK f (k+1)=fK f k++vF f k:=by unfold fK;rw[OY];simp
theorem Cg{s:LI_}{k:Nat}{x:Int}(h:s[k]?=some x):xK s (k+1)=xK s k++hU [120] [x]:=by unfold xK;rw[Nu,h];simp
def lR(v c:Int):LU_:=hU [118,97,108,117,101] [v]++hU [99,117,116] [c]
def wj(v c:Int):LU_:=if v=c then hU [112,114,111,118,101,100] [] else hU [110,111,116,32,112,114,111,118,101,100] []
def po(f s:LI_)(v c:Int):LU_:=((lR v c++fK f f.length)++xK s s.length)++wj v c
open Classical in
noncomputable def n8(N:aV)(f s:LI_):Value:=if aD N f then (if fm N s then .tuple #[dk (po f s (dH (N.arcs.zip f) N.snk) (iw s N.arcs)),.int .i64 0] else .tuple #[dk [],.int .i64 (qV N s)]) else .tuple #[dk [],.int .i64 (eP N f)]
theorem gX(w:LU_)(l:LI_)(h:∀ n∈l,b7 n):(hU w l).length<=w.length+l.length*21+1:=by
 have:=fi w l h;unfold hU;rw[Nj];simp only[Nh,NC];omega
theorem z5(f:LI_)(a:∀ x∈f,b7 x):∀ k,k<=f.length->k<=100000->(fK f k).length<=k*50
 |0,_,_=>by simp[fK]
 |k+1,h,d=>by
  have e:=z5 f a k aa aa;rw[Ci,Nj]
  have:(vF f k).length<=50:=by
   unfold vF;split
   ·have c:b7 (f.getD k 0):=by
     rw[Nf,be (show k<f.length by omega)];exact a _ (Oz _)
    have:=gX [102] [((k+1:Nat):Int),f.getD k 0] (λ n b=>by
     simp only[Nn,Nt,or_false] at b
     rcases b with rfl|rfl
     ·unfold b7;omega
     ·exact c)
    simp only[Nh,NC] at this;omega
   ·simp
  omega
theorem BP(s:LI_)(a:∀ x∈s,b7 x):∀ k,k<=s.length->(xK s k).length<=k*50
 |0,_=>by simp[xK]
 |k+1,h=>by
  have d:=BP s a k aa;have c:s[k]?=some s[k]:=be aa;rw[Cg c,Nj]
  have:=gX [120] [s[k]] (λ n b=>by
   simp only[Ni] at b;rw[b];exact a _ (Oz _))
  simp only[Nh,NC] at this;omega
theorem sk{m:Int}{s:LI_}(hm:m<=500)(h:fH m s):s.length<=500:=by
 rcases P1 500 s.length with a|c
 ·exfalso
  have key:∀ k,∀ b:k<s.length,(k:Int)+1<=s[k]:=by
   intro k
   induction k with
   |zero=>intro b;have:=(h.rng _ (Oz b)).1;omega
   |succ k d=>
    intro b;have e:=d aa;have f:=(N9.1 h.rise) k (k+1) aa b aa;omega
  have e:=key 500 a;have f:=(h.rng _ (Oz a)).2;omega
 ·exact c
theorem oL(V:LibV)(N:aV)(hN:N.Fits)(E:N.Right)(A:OA_)(c b o:Nat)(hA:N.arcs≠[]->A=some ⟨b,o,none⟩)(f:LI_)(p:∀ x∈f,b7 x)(Q:f.length*8<=140737488351232)(F:OA_)(cf g of:Nat)(hF:f≠[]->F=some ⟨g,of,none⟩)
 (s:LI_) (H:∀ x∈s,b7 x) (R:s.length<=100000) (S:OA_) (cs i os:Nat) (hS:s≠[]->S=some ⟨i,os,none⟩):
 Fn 32 [bZ N A c,.slice F f.length cf,.slice S s.length cs] [] ([.seg b o (arcs N.arcs),.seg g of (aj f),.seg i os (aj s)]++V.heap) λ v H'=>v=n8 N f s/\H'=[]:=by
 refine aT Tryz.func32 λ w0=>?_;refine bu ?_;refine cY (cs:=bU N A c) λ p3=>?_;refine ie ?_;refine dG (f9 N hN E A c b o hA f F cf g of hF p Q) rfl ⟨bz 1 rfl,bz 2 rfl,an⟩ ?_;rintro v H' ⟨⟨rfl,q⟩|⟨rfl,q⟩,rfl⟩
 case inr=>
  refine fD ?_;refine ak rfl (λ h=>?_) (λ h=>absurd (cZ.1 (No.1 h)) q);refine ao ?_;refine aM [] ⟨_,rfl,?_,rfl⟩;unfold n8;rw[if_neg q];rfl
 refine fD ?_;refine ak rfl (λ h=>absurd rfl h) (λ _=>ag ?_);refine rR ?_;refine cj (qK N hN E A c b o hA s R S cs i os hS) rfl ⟨bz 1 rfl,bz 3 rfl,an⟩ ?_;by_cases r:fm N s
 case neg=>
  unfold DO;rw[if_neg r];refine cR ?_;refine ak rfl (λ h=>?_) (λ h=>absurd (sa.1 (No.1 h)) r);refine ao ?_;refine aM [] ⟨_,rfl,?_,rfl⟩;unfold n8;rw[if_pos q,if_neg r];rfl
 unfold DO;rw[if_pos r];obtain⟨a,u⟩:∃ a,a=dH (N.arcs.zip f) N.snk:=⟨_,rfl⟩;obtain⟨d,w⟩:∃ d,d=iw s N.arcs:=⟨_,rfl⟩;have I:b7 a:=by have:=dm E q.toRanged N.snk;rw[u];unfold b7;omega
 have L:b7 d:=by have:=xy E s;rw[w];unfold b7;omega
 have U:=E.nodes;have hb:=q.len;have hc:=E.len;have hz:=sk U.2 ⟨r.rise,r.rng⟩;have M:n8 N f s=.tuple #[dk (po f s a d),af 0]:=by unfold n8;rw[if_pos q,if_pos r,u,w]
 rw[<- u,<- w];refine cR ?_;refine ak rfl (λ h=>absurd rfl h) (λ _=>ag ?_);refine bu ?_;refine dD λ p11=>?_;refine aN ?_;refine bX 5 1 ?_;have X:=gX [118,97,108,117,101] [a] (λ n e=>by rw[Ni.1 e];exact I);have Y:=gX [99,117,116] [d] (λ n e=>by rw[Ni.1 e];exact L);simp only[Nh,NC] at X Y;refine bS (K:=nf 129 p11 (.pointer none) none 0 []++([.seg g of (aj f),.seg i os (aj s)]++V.heap)) (ay.picks [1,0,4,5,6,7,8] ab rfl)<|aI ?_;refine dp λ g1=>?_;refine bK (fst:=[]) (cap:=[]) [] (iO V p11 (.pointer none) (by first|exact .inl rfl|exact .inr rfl) none 0 ([]) ([118,97,108,117,101]) ab ([a]) (λ n e=>by rw[Ni.1 e];exact I) ai (by first|omega|simp|(simp;omega)) (aL g1 0) _ _ g1 0 aK rfl) rfl rfl rfl rfl aX (K:=[blk g1 2 (aj ([a])),.seg g of (aj f),.seg i os (aj s)]++V.heap) (ay.picks [1,2,0,3,4,5,6,7] ab rfl) ⟨ew 0 rfl,⟨3,ai,rfl⟩,⟨4,ai,rfl⟩,⟨5,ai,rfl⟩,an⟩ aK ?_;rintro v H' ⟨A1,c1,rfl⟩;refine ec ?_;refine bS (K:=nf 129 p11 (ap p11 0) A1 c1 (hU [118,97,108,117,101] [a])++([.seg g of (aj f),.seg i os (aj s)]++V.heap)) (ay.picks [0,1,3,4,5,6,7] ab rfl)<|aI ?_;refine dp λ g2=>?_;refine bK (fst:=[]) (cap:=[]) [] (iO V p11 (ap p11 0) (by first|exact .inl rfl|exact .inr rfl) A1 c1 (hU [118,97,108,117,101] [a]) ([99,117,116]) ab ([d]) (λ n e=>by rw[Ni.1 e];exact L) ai (by first|omega|simp|(simp;omega)) (aL g2 0) _ _ g2 0 aK rfl) rfl rfl rfl rfl aX (K:=[blk g2 2 (aj ([d])),.seg g of (aj f),.seg i os (aj s)]++V.heap) (ay.picks [1,2,0,3,4,5,6,7] ab rfl) ⟨ew 0 rfl,⟨3,ai,rfl⟩,⟨4,ai,rfl⟩,⟨5,ai,rfl⟩,an⟩ aK ?_;rintro v H' ⟨A2,c2,rfl⟩;refine fD ?_;refine gK ?_;have Z:=z5 f p;have h1:=BP s H
 refine bP (σ:=Nat×OA_×Nat) (λ t=>[(42,af t.1),(41,af f.length),(40,.slice F f.length cf),(11,ap p11 0),(2,.slice S s.length cs),(8,af a),(10,af d)])
  (λ t=>nf 129 p11 (ap p11 0) t.2.1 t.2.2 (lR a d++fK f t.1)++([.seg g of (aj f),.seg i os (aj s)]++V.heap)) (λ t=>t.1<=f.length) (λ t=>f.length-t.1) (0,A2,c2) [0,1,3,4,5,6,7] a7 ab (by simp[fK];rfl) (Nl _) ?_
 rintro⟨k,A3,c3⟩ hk;simp only at hk ⊢;have O:=Z k hk aa;have hq:(lR a d++fK f k).length<=150000:=by unfold lR;simp only[Nj];omega
 have l:=Ci f k;refine ao ?_;refine am (ak rfl (λ hlt=>ag ?_) (λ h2=>aO ?_))
 ·have hlt:k<f.length:=by omega
  obtain⟨x,hx⟩:∃ x,f[k]?=some x:=⟨f[k],be hlt⟩;have h3:f.getD k 0=x:=by rw[Nf,hx];rfl
  have y:=p x (Nb hx);obtain rfl:=hF (by rintro rfl;simp at hlt);have m:vF f k=if 0<x then hU [102] [((k+1:Nat):Int),x] else []:=by unfold vF;rw[h3]
  refine am (aq ?_);refine iz ?_;refine aF (aZ 2 rfl rfl (bQ hx)) ?_;refine cR ?_;refine ak rfl (λ B=>?_) (λ C=>ag ?_)
  ·have B:0<x:=B;rw[m,if_pos B] at l;refine aI ?_;refine aA 50 (v':=af ((k+1:Nat):Int)) rfl (Na (Value.int .i64) (cp aa))<|az ?_;refine dp λ g3=>?_
   have hy:∀ n∈[((k+1:Nat):Int),x],b7 n:=λ n e=>by
    simp only[Nn,Nt,or_false] at e
    rcases e with rfl|rfl
    ·unfold b7;omega
    ·exact y
   refine bK (fst:=[]) (cap:=[]) [] (iO V p11 (ap p11 0) (.inr rfl) A3 c3 (lR a d++fK f k) [102] ab [((k+1:Nat):Int),x] hy ai aa (aL g3 0) _ _ g3 0 aK rfl) rfl rfl rfl rfl aX (K:=[blk g3 2 (aj [((k+1:Nat):Int),x]),.seg g of (aj f),.seg i os (aj s)]++V.heap) (ay.picks [1,2,0,3,4,5,6,7] ab rfl) ⟨ew 0 rfl,⟨3,ai,rfl⟩,⟨4,ai,rfl⟩,⟨5,ai,rfl⟩,an⟩ aK ?_;rintro v H' ⟨P,c4,rfl⟩;refine dw ?_;rw[NQ,<- l];refine dv ?_;exact⟨(k+1,P,c4),[0,1,3,4,5,6,7],⟨Na (λ z=>some (af z)) (cp aa),rfl,rfl,rfl,rfl,rfl,rfl,an⟩,ab,rfl,by simp only;omega,by simp only;omega⟩
  ·have C:¬ 0<x:=C;rw[m,if_neg C,NN] at l;refine ao ?_;exact⟨(k+1,A3,c3),[0,1,2,3,4,5,6],⟨Na (λ z=>some (af z)) (cp aa),rfl,rfl,rfl,rfl,rfl,rfl,an⟩,ab,by simp only[l];rfl,by simp only;omega,by simp only;omega⟩
 obtain rfl:k=f.length:=aa;refine jN ?_
 refine bP (σ:=Nat×OA_×Nat) (λ t=>[(57,af t.1),(56,af s.length),(55,.slice S s.length cs),(11,ap p11 0),(8,af a),(10,af d)])
  (λ t=>nf 129 p11 (ap p11 0) t.2.1 t.2.2 ((lR a d++fK f f.length)++xK s t.1)++([.seg g of (aj f),.seg i os (aj s)]++V.heap)) (λ t=>t.1<=s.length) (λ t=>s.length-t.1) (0,A3,c3) [0,1,2,3,4,5,6] a7 ab (by simp[xK];rfl) (Nl _) ?_
 clear O l
 rintro⟨j,P,c4⟩ hj;simp only at hj ⊢;have h0:=h1 j hj;have hv:((lR a d++fK f f.length)++xK s j).length<=250000:=by rw[Nj];omega
 refine ao ?_;refine am (ak rfl (λ hlt=>ag ?_) (λ h2=>aO ?_))
 ·have hlt:j<s.length:=by omega
  obtain⟨x,hx⟩:∃ x,s[j]?=some x:=⟨s[j],be hlt⟩;have y:=H x (Nb hx);obtain rfl:=hS (by rintro rfl;simp at hlt);have hr:=Cg hx;refine am (aq ?_);refine Bn ?_;refine dp λ g3=>?_;refine bK (fst:=[]) (cap:=[]) [] (iO V p11 (ap p11 0) (.inr rfl) P c4 ((lR a d++fK f f.length)++xK s j) [120] ab [x] (λ n e=>by rw[Ni.1 e];exact y) ai aa (aL g3 0) _ _ g3 0 aK rfl) rfl rfl rfl rfl aX (K:=[blk g3 2 (aj [x]),.seg g of (aj f),.seg i os (aj s)]++V.heap) (ay.picks [1,2,0,3,4,5,6,7] ab rfl) ⟨ew 0 rfl,⟨3,ai,rfl⟩,⟨4,ai,rfl⟩,⟨5,ai,rfl⟩,an⟩ aK ?_;rintro v H' ⟨D,c5,rfl⟩;refine dw ?_;rw[NQ _ (xK s j),<- hr];refine dv ?_;exact⟨(j+1,D,c5),[0,1,3,4,5,6,7],⟨Na (λ z=>some (af z)) (cp aa),rfl,rfl,rfl,rfl,rfl,an⟩,ab,rfl,by simp only;omega,by simp only;omega⟩
 obtain rfl:j=s.length:=aa;refine iv (σ:=OA_×Nat) (λ t=>[(11,ap p11 0)]) (λ t=>nf 129 p11 (ap p11 0) t.1 t.2 (po f s a d)) ?_ ?_
 ·refine ao ?_;refine ak rfl (λ he=>?_) (λ he=>?_)
  ·refine aI ?_;refine bK (fst:=[]) (cap:=[]) [] (iO V p11 (ap p11 0) (.inr rfl) P c4 ((lR a d++fK f f.length)++xK s s.length) [112,114,111,118,101,100] ab [] (λ n e=>absurd e Nt) ai aa none _ 0 0 0 (λ h=>absurd rfl h) rfl) rfl rfl rfl rfl aX (K:=[.seg g of (aj f),.seg i os (aj s)]++V.heap) (ay.picks [0,1,2,3,4,5,6] ab rfl) ⟨fX 0 rfl fE (.inl rfl),⟨2,ai,rfl⟩,⟨3,ai,rfl⟩,⟨4,ai,rfl⟩,an⟩ aK ?_;rintro v H' ⟨D,c5,rfl⟩;refine⟨rfl,ah ⟨(D,c5),⟨rfl,an⟩,?_⟩⟩;rw[show po f s a d=((lR a d++fK f f.length)++xK s s.length)++hU [112,114,111,118,101,100] [] by unfold po wj;rw[if_pos he]];exact ay.picks [0,1] ab rfl
  ·refine aI ?_;refine bK (fst:=[]) (cap:=[]) [] (iO V p11 (ap p11 0) (.inr rfl) P c4 ((lR a d++fK f f.length)++xK s s.length) [110,111,116,32,112,114,111,118,101,100] ab [] (λ n e=>absurd e Nt) ai aa none _ 0 0 0 (λ h=>absurd rfl h) rfl) rfl rfl rfl rfl aX (K:=[.seg g of (aj f),.seg i os (aj s)]++V.heap) (ay.picks [0,1,2,3,4,5,6] ab rfl) ⟨fX 0 rfl fE (.inl rfl),⟨2,ai,rfl⟩,⟨3,ai,rfl⟩,⟨4,ai,rfl⟩,an⟩ aK ?_;rintro v H' ⟨D,c5,rfl⟩;refine⟨rfl,ah ⟨(D,c5),⟨rfl,an⟩,?_⟩⟩;rw[show po f s a d=((lR a d++fK f f.length)++xK s s.length)++hU [110,111,116,32,112,114,111,118,101,100] [] by unfold po wj;rw[if_neg he]];exact ay.picks [0,1] ab rfl
 rintro⟨D,c5⟩;simp only;refine aI ?_;refine bK (fst:=[]) (cap:=[]) [] (zh 129 p11 (ap p11 0) D c5 (po f s a d) (by unfold po wj;split<;>simp[ze])) rfl rfl rfl rfl aX (K:=[]) (ay.picks [0,1] ab rfl) an aK<|j2 ?_;refine ec ?_;exact aM [] ⟨_,rfl,M.symm,rfl⟩
open Lib
abbrev It:=Int×LI_×Int
def M2(y:Int×LN_×Int):It:=(y.1,y.2.1.map (λ (i:Nat)=>(i:Int)),y.2.2)
structure lM (N:aV) (x:It):Prop where
 kind:x.1=112\/x.1=98\/x.1=99
 amt:0<x.2.2/\x.2.2<=4611686018427387903
 ne:x.2.1≠[]
 len:x.2.1.length<=2000
 rng:∀ e∈x.2.1,0<=e/\e<N.arcs.length
theorem Lj{N:aV}(f:N.Right){w:Wk}(h:w.OK N)(hp:b5 w.left<w.left.length):lM N (M2 (hO N w)):=by
 obtain⟨_,_,g,hP,j⟩:=pY f h hp;have o:=f.len
 obtain⟨p,d⟩:((hO N w).1=112\/(hO N w).1=98\/(hO N w).1=99)/\∃ a z,mT N w.left (hO N w).2.1 a z:=by
  rcases hP with ⟨k,_,h⟩|⟨k,_,h⟩|⟨k,v,h⟩
  ·exact⟨.inl k,_,_,h⟩
  ·exact⟨.inr (.inl k),_,_,h⟩
  ·exact⟨.inr (.inr k),_,_,h⟩
 obtain⟨a,z,d⟩:=d;have l:∀ i∈(hO N w).2.1,i<N.arcs.length:=λ i hi=>by obtain⟨r,q,_⟩:=d.room i hi;exact (Ng.1 q).1
 have c:∀ e∈(hO N w).2.1.map (λ (i:Nat)=>(i:Int)),0<=e/\e<N.arcs.length:=λ e he=>by
  obtain⟨i,hi,rfl⟩:=NF.1 he;have:=l i hi;omega
 have m:((hO N w).2.1.map (λ (i:Nat)=>(i:Int))).Nodup:=List.Pairwise.map _ (λ a b n h=>n (Int.ofNat.inj h)) d.nodup;refine⟨p,⟨g,?_⟩,λ s=>d.ne (List.map_eq_nil_iff.1 s),?_,c⟩
 ·obtain⟨e,he⟩:=PW _ d.ne;have u:=j e he;have y:=(yG f h.flow e).2;show (hO N w).2.2<=_;omega
 ·have:=kv _ ((List.range N.arcs.length).map λ (i:Nat)=>(i:Int)) m λ x t=>by
   have:=c x t;exact NF.2 ⟨x.toNat,N8.2 aa,aa⟩
  simp only[Nm,Ot] at this;show (List.map _ _).length<=_;rw[Nm];omega
theorem za{N:aV}(b:N.Right):∀ (n:Nat) (w:Wk),w.OK N->(lj N n w).length<=n/\∀ x∈(lj N n w).map M2,lM N x
 |0,w,_=>⟨Nr _,λ x a=>absurd a Nt⟩
 |n+1,w,hw=>by
  unfold lj;by_cases hp:b5 w.left<w.left.length
  ·rw[if_pos hp];have c:=za b n (zX N w) (pY b hw hp).1;refine⟨by rw[List.length_cons];omega,fun x a=>?_⟩;rw[List.map_cons] at a
   rcases Nn.1 a with rfl|a
   ·exact Lj b hw hp
   ·exact c.2 x a
  ·rw[if_neg hp];exact⟨Nl _,λ x a=>absurd a Nt⟩
def pP(N:aV)(f:LI_):List It:=(lD N ⟨f,dH (N.arcs.zip f) N.snk⟩).map M2
theorem GA{N:aV}(a:N.Right){f:LI_}(b:aD N f):(pP N f).length<=2001/\∀ x∈pP N f,lM N x:=by
 have h:=za a (Wk.size ⟨f,dH (N.arcs.zip f) N.snk⟩) ⟨f,dH (N.arcs.zip f) N.snk⟩ ⟨b,rfl⟩;have c:=a.len;have d:=b.len;have e:ql f<=f.length:=List.countP_le_length;have g:Wk.size ⟨f,dH (N.arcs.zip f) N.snk⟩<=ql f+1:=by unfold Wk.size;split<;>simp only<;>omega
 refine⟨?_,h.2⟩;unfold pP lD;rw[Nm];omega
def j4(N:aV)(e:Int):Int:=pu N e.toNat
def Ez(N:aV)(e:Int):Int:=jO N e.toNat
def Ke(N:aV)(e:Int):Int:=match N.arcs[e.toNat]? with|some a=>a.cap|none=>0
def qs(N:aV):LI_->LI_->Int->Bool
 |[],_,_=>true
 |e::W,met,last=>if (met≠[]/\j4 N e≠last)\/j4 N e∈met then false else qs N W (met++[j4 N e]) (Ez N e)
def mY(N:aV)(x:It):Bool:=
 if x.2.2<1\/x.2.1=[] then false else if qs N x.2.1 [] 0=false then false else
 if x.1=112 then decide ((j4 N (x.2.1.headD 0)=N.src/\Ez N (x.2.1.getLastD 0)=N.snk)/\Ez N (x.2.1.getLastD 0)∉x.2.1.map (j4 N))
 else if x.1=98 then decide ((j4 N (x.2.1.headD 0)=N.snk/\Ez N (x.2.1.getLastD 0)=N.src)/\Ez N (x.2.1.getLastD 0)∉x.2.1.map (j4 N))
 else if x.1=99 then decide (j4 N (x.2.1.headD 0)=Ez N (x.2.1.getLastD 0)) else false
def xv(N:aV):LI_->Int->LI_->Option (LI_)
 |[],_,o=>some o
 |e::W,m,o=>if Ke N e-o.getD e.toNat 0<m then none else xv N W m (o.set e.toNat (o.getD e.toNat 0+m))
def pN(N:aV):List It->LI_->Option (LI_)
 |[],o=>some o
 |x::r,o=>match xv N x.2.1 x.2.2 o with
  |some o'=>pN N r o'
  |none=>none
def qp(N:aV)(its:List It):Int:=if its.all (mY N)=false then 1 else if pN N its (List.replicate N.arcs.length 0)=none then 3 else 0
def fe(N:aV)(x:It):LI_:=x.2.2::x.2.1.map (j4 N)++(if x.1=112\/x.1=98 then [Ez N (x.2.1.getLastD 0)] else [])
def nt(k:Int):LU_:=if k=112 then [112,97,116,104] else if k=98 then [98,97,99,107] else [99,121,99,108,101]
def me(N:aV)(x:It):LU_:=hU (nt x.1) (fe N x)
def dU(N:aV)(its:List It):LU_:=(its.map (me N)).flatten
def uQ(N:aV)(its:List It):Value:=.tuple #[dk (if qp N its=0 then dU N its else []),.int .i64 (qp N its)]
theorem MJ{N:aV}(b:N.Right)(e:Int):b7 (j4 N e):=by
 have:=b.nodes;unfold j4 pu
 cases h:N.arcs[e.toNat]? with
 |none=>unfold b7;simp only;omega
 |some a=>have:=b.arc a (Nb h);unfold b7;simp only;omega
theorem Me{N:aV}(b:N.Right)(e:Int):b7 (Ez N e):=by
 have:=b.nodes;unfold Ez jO
 cases h:N.arcs[e.toNat]? with
 |none=>unfold b7;simp only;omega
 |some a=>have:=b.arc a (Nb h);unfold b7;simp only;omega
theorem CX{N:aV}(b:N.Right){x:It}(c:lM N x):(∀ n∈fe N x,b7 n)/\(fe N x).length<=2002:=by
 have:=c.len;refine⟨λ n a=>?_,?_⟩
 ·unfold fe at a
  rcases Np.1 a with a|a
  ·rcases Nn.1 a with rfl|a
   ·have:=c.amt;unfold b7;omega
   ·obtain⟨e,_,rfl⟩:=NF.1 a;exact MJ b e
  ·split at a
   ·rw[Ni.1 a];exact Me b _
   ·exact absurd a Nt
 ·unfold fe;rw[Nj,Nh,Nm];split<;>simp only[Nh,NC]<;>omega
theorem Ip{N:aV}(hR:N.Right){x:It}(hx:lM N x):(me N x).length<=42060:=by
 obtain⟨h1,h2⟩:=CX hR hx;have h3:=gX (nt x.1) _ h1
 have h4:(nt x.1).length≤5:=by unfold nt;split;· decide
                               split<;>decide
 unfold me;omega
theorem sp{N:aV}(a:N.Right):∀ {its:List It},(∀ x∈its,lM N x)->(dU N its).length<=its.length*42060
 |[],_=>by simp[dU]
 |x::r,h=>by
  have d:=Ip a (h x ai);have b:=sp a (its:=r) λ y c=>h y (by simp[c]);unfold dU at b ⊢;rw[Nv,OA,Nj,Nh];omega
theorem yl(N:aV)(its:List It)(x:It):dU N (its++[x])=dU N its++me N x:=by unfold dU;simp
theorem A8(a:Nat)(x y z:Int)(l:List ej)(Ar:OA_)(cr:Nat)(hl:l.length<=3000)(fr to_:Int):
 Fn 176 [.int .i64 fr,.int .i64 to_,.pointer (some ⟨a,0,none⟩)] (aC [blk a 33 [.int .i64 x,.int .i64 y,.int .i64 z,.slice Ar l.length cr],.own (.slice Ar l.length cr) 37 3 l.length (arcs l)])
  ([]++[blk a 33 [.int .i64 x,.int .i64 y,.int .i64 z,.slice Ar l.length cr],.own (.slice Ar l.length cr) 37 3 l.length (arcs l)]) λ _ H'=>∃ (b:OA_) (c:Nat),
    H'=[blk a 33 [.int .i64 x,.int .i64 y,.int .i64 z,.slice b (l++[ej.mk fr to_ 1]).length c],.own (.slice b (l++[ej.mk fr to_ 1]).length c) 37 3 (l++[ej.mk fr to_ 1]).length (arcs (l++[ej.mk fr to_ 1]))]:=by
 generalize hM:aC _=M
 refine aT Tryz.func176 λ w0=>?_;refine aI ?_;refine bj (v:=.slice Ar l.length cr) 0 ?_;refine az ?_;refine fv ?_;refine dp λ g=>?_;refine bx (n:=l.length) (m:=1) (off:=0) (news:=arcs [ej.mk fr to_ 1]) 2 0 rfl rfl rfl rfl rfl rfl ab rfl rfl (aS g _ _ (0,0)) aK rfl rfl aa aa (λ _ _=>rfl) λ d c2=>az ?_;refine dE 1 ?_;refine cD (ay.picks [1,2] ab rfl)<|ah<|?_;rw[<- zS,show l.length+1=(l++[ej.mk fr to_ 1]).length by simp];exact⟨_,rfl,d,c2,rfl⟩
theorem Cs(g:Gr)(hg:g.Right)(A:OA_)(c b o:Nat)(hA:g.edges≠[]->A=some ⟨b,o,none⟩):Fn 152 [xQ g A c] [] [.seg b o (fO g.edges)] λ v H'=>∃ (I:OA_) (K:Nat),v=.tuple #[bZ (dP g) I K,.int .i64 0]/\
 H'=[.own (.slice I (dP g).arcs.length K) 37 3 (dP g).arcs.length (arcs (dP g).arcs)]:=by
 have V:=hg.left;have X:=hg.right;have Y:=hg.len;obtain⟨nl,z⟩:∃ n:Nat,g.left=n:=⟨g.left.toNat,aa⟩;obtain⟨nr,B⟩:∃ n:Nat,g.right=n:=⟨g.right.toNat,aa⟩;obtain⟨f,p⟩:∃ f:Nat->List ej,f=λ k=>(List.range k).map λ (i:Nat)=>ej.mk 1 (3+i) 1:=⟨_,rfl⟩;obtain⟨d,q⟩:∃ d:Nat->List ej,d=λ k=>f nl++(g.edges.take k).map λ e=>ej.mk (2+e.l) (2+g.left+e.r) 1:=⟨_,rfl⟩;obtain⟨m,t⟩:∃ m:Nat->List ej,m=λ k=>d g.edges.length++(List.range k).map λ (i:Nat)=>ej.mk (3+g.left+i) 2 1:=⟨_,rfl⟩;have L:∀ k,(f k).length=k:=λ k=>by rw[p];simp
 have M:∀ k,k<=g.edges.length->(d k).length=nl+k:=λ k N=>by rw[q];simp only[Nj,L,Nm,NE];omega
 have P:∀ k,(m k).length=nl+g.edges.length+k:=λ k=>by rw[t];simp only[Nj,M _ (Nr _),Nm,Ot]
 have s1:∀ k,f (k+1)=f k++[ej.mk 1 (3+k) 1]:=λ k=>by rw[p];simp[OY]
 have s2:∀ k e,g.edges[k]?=some e->d (k+1)=d k++[ej.mk (2+e.l) (2+g.left+e.r) 1]:=λ k e he=>by rw[q];simp only[Nu,he,NI,NQ];rfl
 have Q:∀ k,m (k+1)=m k++[ej.mk (3+g.left+k) 2 1]:=λ k=>by rw[t];simp[OY]
 have C:m nr=(dP g).arcs:=by
  rw[t,q,p];show _=((List.range g.left.toNat).map _++g.edges.map _)++(List.range g.right.toNat).map _;rw[z,B,NA,NA];simp only[NH]
 refine ia Tryz.func152 rfl rfl λ w0=>bu ?_;refine cY (cs:=rL g A c) λ y=>?_;refine dD λ x=>?_;refine HG ?_;refine ak rfl (λ h=>absurd rfl h) (λ _=>ag ?_);refine aI ?_
 (first|refine ae [] (ad 0 rfl) rfl ?_|refine ae [] (ad 1 rfl) rfl ?_|refine ae [] (ad 2 rfl) rfl ?_|refine ae [] (ad 3 rfl) rfl ?_|refine ae [] (ad 4 rfl) rfl ?_|refine ae [] (ad 5 rfl) rfl ?_|refine ae [] (ad 6 rfl) rfl ?_|refine ae [] (ad 7 rfl) rfl ?_)
 refine az ?_
 (first|refine ae [] (ad 0 rfl) rfl ?_|refine ae [] (ad 1 rfl) rfl ?_|refine ae [] (ad 2 rfl) rfl ?_|refine ae [] (ad 3 rfl) rfl ?_|refine ae [] (ad 4 rfl) rfl ?_|refine ae [] (ad 5 rfl) rfl ?_|refine ae [] (ad 6 rfl) rfl ?_|refine ae [] (ad 7 rfl) rfl ?_)
 refine az ?_;refine aA 22 (v':=af (2+g.left+g.right)) rfl (Na (Value.int .i64) (by rw[cp (n:=2+g.left) aa,cp aa]))<|fv ?_;refine dD λ a=>?_;refine iA ?_;refine c9 ?_
 (first|refine ae [] (ad 0 rfl) rfl ?_|refine ae [] (ad 1 rfl) rfl ?_|refine ae [] (ad 2 rfl) rfl ?_|refine ae [] (ad 3 rfl) rfl ?_|refine ae [] (ad 4 rfl) rfl ?_|refine ae [] (ad 5 rfl) rfl ?_|refine ae [] (ad 6 rfl) rfl ?_|refine ae [] (ad 7 rfl) rfl ?_)
 refine aA 26 (v':=af (nl:Int)) rfl (Na (Value.int .i64) z)<|aN ?_;refine bX 37 3<|aq<|?_
 refine bP (σ:=Nat×OA_×Nat) (λ s=>[(27,af s.1),(26,af nl),(6,.func (.func 176) #[] #[ap a 0]),(5,ap a 0),(2,ap x 0),(1,ap y 0)])
  (λ s=>[blk a 33 [af (2+g.left+g.right),af 1,af 2,.slice s.2.1 (f s.1).length s.2.2],.own (.slice s.2.1 (f s.1).length s.2.2) 37 3 (f s.1).length (arcs (f s.1)),blk x 33 [af 0,af 0,af 0,.slice none 0 0],blk y 178 (rL g A c),.seg b o (fO g.edges)])
  (λ s=>s.1<=nl) (λ s=>nl-s.1) (0,none,0) [1,0,2,3,4] a7 ab (by rw[p];rfl) (Nl _) ?_
 rintro⟨k,Ar,cr⟩ N;simp only at N ⊢;have D:=L k;refine ao ?_;refine am (ak rfl (λ hlt=>ag ?_) (λ E=>aO ?_))
 ·refine am (aq ?_);refine c9 ?_;refine aA 32 (v':=af (3+k)) rfl (Na (Value.int .i64) (cp aa)) ?_;show JL _ _ _ _ _ ([_,_]++[_,_,_]);refine rW (fst:=[]) (cap:=[ap a 0]) (A8 a (2+g.left+g.right) 1 2 (f k) Ar cr aa (1) ((3+k))) rfl ay.refl an ?_;rintro v H' ⟨F,c2,rfl⟩;refine dv ?_;exact⟨(k+1,F,c2),[0,1,2,3,4],⟨Na some (Na (Value.int .i64) (cp aa)),rfl,rfl,rfl,rfl,rfl,an⟩,ab,by simp only[s1];rfl,by simp only;omega,by simp only;omega⟩
 obtain rfl:k=nl:=aa;have u:f k=d 0:=by rw[q];simp
 rw[u] at D ⊢;refine aI ?_
 (first|refine ae [] (ad 0 rfl) rfl ?_|refine ae [] (ad 1 rfl) rfl ?_|refine ae [] (ad 2 rfl) rfl ?_|refine ae [] (ad 3 rfl) rfl ?_|refine ae [] (ad 4 rfl) rfl ?_|refine ae [] (ad 5 rfl) rfl ?_|refine ae [] (ad 6 rfl) rfl ?_|refine ae [] (ad 7 rfl) rfl ?_)
 refine iZ ?_
 refine bP (σ:=Nat×OA_×Nat) (λ s=>[(38,af s.1),(37,af g.edges.length),(36,.slice A g.edges.length c),(6,.func (.func 176) #[] #[ap a 0]),(5,ap a 0),(2,ap x 0),(1,ap y 0)])
  (λ s=>[blk a 33 [af (2+g.left+g.right),af 1,af 2,.slice s.2.1 (d s.1).length s.2.2],.own (.slice s.2.1 (d s.1).length s.2.2) 37 3 (d s.1).length (arcs (d s.1)),blk x 33 [af 0,af 0,af 0,.slice none 0 0],blk y 178 (rL g A c),.seg b o (fO g.edges)])
  (λ s=>s.1<=g.edges.length) (λ s=>g.edges.length-s.1) (0,Ar,cr) [0,1,2,3,4] a7 ab rfl (Nl _) ?_
 clear D u
 rintro⟨j,Ar,cr⟩ O;simp only at O ⊢;have H:=M j O;refine ao ?_;refine am (ak rfl (λ hlt=>ag ?_) (λ E=>aO ?_))
 ·have hlt:j<g.edges.length:=by omega
  obtain rfl:=hA (by intro R;rw[R] at hlt;simp at hlt);obtain⟨e,he⟩:∃ e,g.edges[j]?=some e:=⟨g.edges[j],be hlt⟩;have S:=hg.edge e (Nb he);refine am (aq ?_);refine uh ?_;refine aF (aZ 4 rfl rfl (kl he)) ?_;refine dD λ Z=>?_;refine mx ?_;refine aI ?_;refine bj (v:=af e.l) 0 ?_;refine az ?_
  (first|refine ae [] (ad 0 rfl) rfl ?_|refine ae [] (ad 1 rfl) rfl ?_|refine ae [] (ad 2 rfl) rfl ?_|refine ae [] (ad 3 rfl) rfl ?_|refine ae [] (ad 4 rfl) rfl ?_|refine ae [] (ad 5 rfl) rfl ?_|refine ae [] (ad 6 rfl) rfl ?_|refine ae [] (ad 7 rfl) rfl ?_)
  refine az ?_;refine bj (v:=af e.r) 0 ?_;refine az ?_;refine aA 45 (v':=af (2+e.l)) rfl (Na (Value.int .i64) (cp aa))<|aA 51 (v':=af (2+g.left+e.r)) rfl (Na (Value.int .i64) (by rw[cp (n:=2+g.left) aa,cp aa]))<|cD (ay.picks [1,2,3,4,5] ab rfl)<|?_;show JL _ _ _ _ _ ([_,_]++[_,_,_]);refine rW (fst:=[]) (cap:=[ap a 0]) (A8 a (2+g.left+g.right) 1 2 (d j) Ar cr aa ((2+e.l)) ((2+g.left+e.r))) rfl ay.refl an ?_;rintro v H' ⟨F,c2,rfl⟩;refine dv ?_;exact⟨(j+1,F,c2),[0,1,2,3,4],⟨Na some (Na (Value.int .i64) (cp aa)),rfl,rfl,rfl,rfl,rfl,rfl,an⟩,ab,by simp only[s2 j e he];rfl,by simp only;omega,by simp only;omega⟩
 obtain rfl:j=g.edges.length:=aa;have w:d g.edges.length=m 0:=by rw[t];simp
 rw[w] at H ⊢;refine aI ?_
 (first|refine ae [] (ad 0 rfl) rfl ?_|refine ae [] (ad 1 rfl) rfl ?_|refine ae [] (ad 2 rfl) rfl ?_|refine ae [] (ad 3 rfl) rfl ?_|refine ae [] (ad 4 rfl) rfl ?_|refine ae [] (ad 5 rfl) rfl ?_|refine ae [] (ad 6 rfl) rfl ?_|refine ae [] (ad 7 rfl) rfl ?_)
 refine aA 55 (v':=af (nr:Int)) rfl (Na (Value.int .i64) B)<|iZ ?_
 refine bP (σ:=Nat×OA_×Nat) (λ s=>[(56,af s.1),(55,af nr),(6,.func (.func 176) #[] #[ap a 0]),(5,ap a 0),(2,ap x 0),(1,ap y 0)])
  (λ s=>[blk a 33 [af (2+g.left+g.right),af 1,af 2,.slice s.2.1 (m s.1).length s.2.2],.own (.slice s.2.1 (m s.1).length s.2.2) 37 3 (m s.1).length (arcs (m s.1)),blk x 33 [af 0,af 0,af 0,.slice none 0 0],blk y 178 (rL g A c),.seg b o (fO g.edges)])
  (λ s=>s.1<=nr) (λ s=>nr-s.1) (0,Ar,cr) [0,1,2,3,4] a7 ab rfl (Nl _) ?_
 clear H w
 rintro⟨i,Ar,cr⟩ hi;simp only at hi ⊢;have U:=P i;refine ao ?_;refine am (ak rfl (λ hlt=>ag ?_) (λ E=>aO ?_))
 ·refine am (aq ?_);refine c9 ?_
  (first|refine ae [] (ad 0 rfl) rfl ?_|refine ae [] (ad 1 rfl) rfl ?_|refine ae [] (ad 2 rfl) rfl ?_|refine ae [] (ad 3 rfl) rfl ?_|refine ae [] (ad 4 rfl) rfl ?_|refine ae [] (ad 5 rfl) rfl ?_|refine ae [] (ad 6 rfl) rfl ?_|refine ae [] (ad 7 rfl) rfl ?_)
  refine az ?_;refine aA 65 (v':=af (3+g.left+i)) rfl (Na (Value.int .i64) (by rw[cp (n:=2+g.left) aa,cp (n:=2+g.left+1) aa,cp aa];omega)) ?_;show JL _ _ _ _ _ ([_,_]++[_,_,_]);refine rW (fst:=[]) (cap:=[ap a 0]) (A8 a (2+g.left+g.right) 1 2 (m i) Ar cr aa ((3+g.left+i)) (2)) rfl ay.refl an ?_;rintro v H' ⟨F,c2,rfl⟩;refine dv ?_;exact⟨(i+1,F,c2),[0,1,2,3,4],⟨Na some (Na (Value.int .i64) (cp aa)),rfl,rfl,rfl,rfl,rfl,an⟩,ab,by simp only[Q];rfl,by simp only;omega,by simp only;omega⟩
 obtain rfl:i=nr:=aa;rw[C];refine bu ?_;refine bj (v:=bZ (dP g) Ar cr) 0 ?_;refine dE 2 ?_;refine lz ?_;exact⟨[_,_],[1],_,⟨⟨x,2,_,_,rfl,rfl,rfl⟩,rfl,an⟩,ab,rfl,Ar,cr,rfl,rfl⟩
section
variable {X:Cx} {E:Env} {H:Heap}
theorem F3{o:Oper}{t e n c i j b d:Nat}{x l hi:Operand}{A:OA_}{z:Option Value}{m:TI}{k p:IntKind}(u:o.op=.slice t x (some l) (some hi) none)(v:val E x=some (.slice A n c))(f:val E l=some (.int k (i:Int)))(g:val E hi=some (.int p (j:Int)))
 (q:tab t=some ⟨.slice e,b,d,z⟩) (he:tab e=some m) (y:i<=j) (B:j<=c):i8 X o E H (.slice (fA A c i m.size) (j-i) (c-i)):=by
 intro a w h C;have r:=uq q;have s:=run_slice_lh (P:=Tryz.prog) (w:=w) t A n c r k p (i:Int) (j:Int) aa aa aa;rw[rO q] at s;simp[execOp,u,h.val v,h.val f,h.val g,run_sliceAt_slice w t _ _ _ _ r,s,dW he,sliced,fA]
end
def dV(f:LI_)(nl k:Nat):LI_:=((List.range k).filter λ (i:Nat)=>decide (0<f.getD (nl+i) 0)).map λ (i:Nat)=>(i:Int)
theorem sZ(f:LI_)(nl k:Nat):dV f nl (k+1)=dV f nl k++(if 0<f.getD (nl+k) 0 then [(k:Int)] else []):=by
 unfold dV;refine wO ?_
 congr 1
 by_cases h:0<f.getD (nl+k) 0
 ·rw[if_pos h,OJ,if_pos (OR h)];rfl
 ·rw[if_neg h,OJ,if_neg (by simpa using h)];rfl
theorem pJ(f:LI_)(nl k:Nat):(dV f nl k).length<=k:=by
 unfold dV;exact C2
def jy(N:aV)(f:LI_):Prop:=aD N f/\¬ tf N (bc (N.arcs.zip f)) 1 N.snk
def FY(gf:FuncId)(lb:LV_)(p ty:Nat)(n0:Int)(nr:Nat)(x:Nat->LV_):Prop:=
 ∀ (l:Nat) (J:Nat->Int->World->Prop) (W:World),(∀ k a W,J k a W->(blk p ty [.int .i64 a]).holds W)->
   (∀ k a b W W',J k a W->dN W [p] W' [blk p ty [.int .i64 b]]->J k b W')->
   (∀ k a W,k<nr->J k a W->YieldAt Fence.wide 0 Tryz.prog l (x k).toArray W λ e W'=>e=.returned (.bool true)/\J (k+1) a W')->
   J 0 n0 W->Calls Tryz.prog gf (#[.func (.yield l) #[] #[]]++lb.toArray) W λ e W'=>(∃ v,e=.returned v)/\∃ a,J nr a W'
section
variable {w0:World} {M:LN_} {n:Nat} {E:Env} {R:Exit->Act->World->Prop}
theorem IB{σ:Type}{g:Operand}{ps:LN_}{assign body:Code}{gf:FuncId}{lb:LV_}{p ty:Nat}{n0:Int}{nr:Nat}{x:Nat->LV_}(f:σ->Heap)(Inv:Nat->σ->Prop)(s0:σ)(hg:val E g=some (.func (.func gf) #[] lb.toArray))(hc:ee gf=true)
 (hit:FY gf lb p ty n0 nr x) (O:∀ k,k<nr->(x k).length=ps.length) (Q:(ps.all λ p=>Nat.blt p n)=true) (h0:Inv 0 s0)
 (i:∀ r D k (s:σ) (y:Int) (u A:Obj),k<nr->Inv k s->JR ⟨w0,M,⟨n,[]⟩⟩ r assign (λ E1 H1=>H1=(.obj r u::.obj D ua::blk p ty [.int .i64 y]::f s)/\
  JR ⟨w0,M,⟨n,[]⟩⟩ r body (λ _ H2=>∃ (L:σ),Inv (k+1) L/\ay ⟨w0,M,⟨n,[]⟩⟩ H2 (.obj r A::.obj D ua::blk p ty [.int .i64 y]::f L)) E1 (.obj r A::.obj D ua::blk p ty [.int .i64 y]::f s)) (wi ps (x k) E) (.obj r u::.obj D ua::blk p ty [.int .i64 y]::f s))
 (j:∀ D a w (s:σ) (y:Int),Inv nr s->gz ⟨n,[sI D]⟩ a E->dN w0 M w (.obj D ua::blk p ty [.int .i64 y]::f s)->R .normal a w):W ⟨w0,M,⟨n,[]⟩⟩ (.rangeFunc g ps.toArray assign body) R E (blk p ty [.int .i64 n0]::f s0):=by
 intro a w m hH;refine (wpIn_wide (n:=0)).1 (wpIn_rangeFunc ?_);intro fn _;obtain⟨rec,c⟩:∃ rec:LoopState->Option Code->Loop,rec=λ st pe=>{ state:=st,pending:=pe,fn,tmps:=a.tmps,params:=ps.toArray,assign,body,defers:=w.heap.size }:=⟨_,rfl⟩;obtain⟨l,B⟩:∃ l,(w.alloc (.deferred (some []))).alloc (.loop (rec .ready none))=l:=⟨_,rfl⟩
 have U:dN w0 M l (.obj (w.heap.size+1) (.loop (rec .ready none))::.obj w.heap.size ua::blk p ty [af n0]::f s0):=by
  have:=(hH.alloc ua).alloc (.loop (rec .ready none));rw[World.size_alloc] at this;rw[<- B];exact this
 have V:a.eval g=.func (.func gf) #[] lb.toArray:=m.val hg;refine⟨w.heap.size+1,[sI w.heap.size],l,{ target:=.fn (.func gf) lb.toArray,args:=#[.func (.yield (w.heap.size+1)) #[] #[]] },l,gf,#[.func (.yield (w.heap.size+1)) #[] #[]]++lb.toArray,l,?_,?_,λ _ _=>trivial,?_,λ hd=>(by simp[Fence.wide] at hd),?_⟩
 ·rw[<- B,c];exact run_enterLoop_outer _ _ _ _ _
 ·simp only[resolve,V];simp[go_sem]
 ·simp[invoke,iI hc]
 ·refine (callsIn_wide.2 (hit (w.heap.size+1) (λ k y W=>∃ s,Inv k s/\dN w0 M W (.obj (w.heap.size+1) (.loop (rec .ready none))::.obj w.heap.size ua::blk p ty [af y]::f s)) l (λ k y W h=>h.elim λ s h=>h.2.holds (blk p ty [af y]) ai) ?_ ?_ ⟨s0,h0,U⟩)).mono ?_
  ·rintro k y z W W' ⟨s,C,h⟩ o;refine⟨s,C,?_⟩;exact h.step (d:=blk p ty [af z]) 2 rfl o.os o.tape o.output o.size (λ q N hm=>o.keep q N (λ e=>hm (by rw[Ni.1 e];rfl))) (o.holds _ ai) (λ b X=>.inl X)
  ·rintro k y W hk ⟨s,C,h⟩;have hl:W.heap[w.heap.size+1]?=some (.loop (rec .ready none)):=h.holds (.obj _ _) ai;have hy:=run_yield (P:=Tryz.prog) (args:=(x k).toArray) hl (by rw[c];simp[O k hk]);rw[c] at hy;refine⟨fn,_,assign,body,hy,roundIn_of_wpIn trivial ?_⟩
   have Y:gz ⟨n,[]⟩ { tmps:=((ps.toArray.zip (x k).toArray).foldl (λ t (p,v)=>t.setIfInBounds p v) a.tmps),defers:=[] } (wi ps (x k) E):=by
    have:=gz.bind ps (x k) a.tmps E Q ⟨m.size,rfl,m.get⟩
    have e:(ps.toArray.zip (x k).toArray).foldl (λ t (p,v)=>t.setIfInBounds p v) a.tmps=(ps.zip (x k)).foldl (λ t (p,v)=>t.setIfInBounds p v) a.tmps:=by
     rw[<- PZ];simp
    rw[e];exact this
   refine wpIn_mono (i (w.heap.size+1) w.heap.size k s y (.loop (rec .ready none)) (.loop { rec .ready none with state:=.busy }) hk C _ W Y h) ?_;rintro e a1 Z ⟨E1,H1,h1,F,N⟩
   cases e with
   |normal=>
    obtain⟨rfl,X⟩:=N;have h2:Z.heap[w.heap.size+1]?=some (.loop (rec .ready none)):=F.holds (.obj _ _) ai;refine⟨_,run_beginRound h2 (by rw[c]),?_⟩;refine wpIn_mono (X a1 _ h1 F.turn) ?_;rintro e a3 W3 ⟨E3,H3,hr,hx,H⟩
    cases e with
    |normal=>
     obtain⟨L,hR,I⟩:=H;have K:=I W3 hx;have hv:W3.heap[w.heap.size+1]?=some (.loop { rec .ready none with state:=.busy }):=K.holds (.obj _ _) ai;refine⟨_,_,run_endRound none hv,rfl,?_⟩;have:=K.turn (o':=.loop (rec .ready none));rw[c] at this ⊢;exact⟨L,hR,this⟩
    |_=>exact H.elim
   |_=>exact N.elim
  ·rintro e Z ⟨⟨v,rfl⟩,y,s,C,h⟩;have hl:Z.heap[w.heap.size+1]?=some (.loop (rec .ready none)):=h.holds (.obj _ _) ai;refine⟨none,_,by have:=run_endLoop (P:=Tryz.prog) hl (by rw[c];simp);rw[c] at this;exact this,?_⟩;have K:=h.turn (o':=.loop (rec .exhausted none));rw[c] at K;exact j w.heap.size _ _ s y C ⟨m.size,by show [_]++a.defers=_;rw[m.defers];rfl,m.get⟩ K.tail
end
section
variable {G:Nat->World->Prop} {n:Nat} {S:Heap} {E:Env} {k:Nat} {M:LN_} {R:Exit->Act->World->Prop}
theorem DN{c:Code}{Q:fb}(j:∀ W,G k W->dN W M W S)(h:∀ w,J ⟨w,M,⟨n,[]⟩⟩ c Q E S)
 (l:∀ e b a w',gz ⟨n,[]⟩ a b->(∃ w H',G k w/\dN w M w' H'/\Q e b H')->R e a w'):WG G n c R E k:=by
 intro a w m i;refine wp_mono (h w a w m (j w i)) ?_;rintro e o w' ⟨b,H',d,f,g⟩;exact l e b o w' d ⟨w,H',i,f,g⟩
theorem G4{w:World}{p ty:Nat}{vs:LV_}(h:(blk p ty vs).holds w):dN w [p] w [blk p ty vs]:=
 ⟨rfl,rfl,rfl,Nr _,λ _ _ _=>rfl,λ c a=>(Ni.1 a)▸h,λ c a b d=>.inr (by rw[Ni.1 a] at d;simp[aY.mine] at d;simp[d]),OT _ _⟩
end
end Go.Proofs.YtmcnpaelaieniaaGreatDoor
