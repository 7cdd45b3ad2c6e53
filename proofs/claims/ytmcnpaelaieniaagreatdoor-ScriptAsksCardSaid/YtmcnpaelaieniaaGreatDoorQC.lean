import Derived.Test.YtmcnpaelaieniaaGreatDoorQG
/- A part of the proof. -/
set_option linter.unusedVariables false
set_option linter.unusedSimpArgs false
set_option maxHeartbeats 8000000
namespace Go.Proofs.YtmcnpaelaieniaaGreatDoor
open Go.RowKit
structure aR.Fits (N:aR):Prop where
 nodes:b9 N.nodes
 src:b9 N.src
 snk:b9 N.snk
 len:N.arcs.length*24<=140737488351232
 arc:∀ a∈N.arcs,b9 a.fr/\b9 a.to/\b9 a.cap
theorem nX(N:aR)(C:N.Fits)(A:OA_)(c b o:Nat)(F:N.arcs≠[]->A=some ⟨b,o,none⟩):Fn 26 [cd N A c] [] [.seg b o (arcs N.arcs)] λ v H'=>v=.int .i64 (dt N)/\H'=[]:=by
 have H:=C.len;refine aT Tryz.func26 λ w0=>?_;refine bA ?_;refine dh (cs:=bY N A c) λ p=>?_;refine pJ ?_;refine jh ?_;refine az ?_;by_cases r:N.nodes<2
 ·refine d7 14 rfl r<|cX [3] ?_;refine eP ?_;refine aL [] ⟨_,rfl,?_,rfl⟩;unfold dt;rw[if_pos (.inl r)];rfl
 refine dD 14 rfl r<|dY ?_;refine ae [3] (ad 0 rfl) rfl<|cX [3] ?_;refine ak rfl (λ D=>?_) (λ D=>?_)
 ·refine ao ?_;refine aL [] ⟨_,rfl,?_,rfl⟩;unfold dt;rw[if_pos (.inr D)];rfl
 have f:¬ (N.nodes<2\/500<N.nodes):=aa;refine jh ?_;refine cH (rj N A c p N.src) rfl ⟨en 0 rfl,be⟩ ?_;refine az ?_;by_cases g:j4 N N.src
 case neg=>
  refine aB 25 (v':=.bool true) rfl (M8 Value.bool (by rw[aZ g];rfl))<|cX [5] ?_;refine eP ?_;refine aL [] ⟨_,rfl,?_,rfl⟩;unfold dt;rw[if_neg f,if_pos (λ t=>g t.1)];rfl
 refine aB 25 (v':=.bool false) rfl (M8 Value.bool (by rw[aV g];rfl))<|bX [5] ?_;refine ae [5] (ad 0 rfl) rfl<|bj [5] (rj N A c p N.snk) rfl rfl rfl rfl aW ⟨en 0 rfl,be⟩ aE<|jP ?_;refine bX [5] ?_;by_cases i:j4 N N.snk
 case neg=>
  refine aB 19 (v':=.bool true) rfl (M8 Value.bool (by rw[aZ i];rfl))<|ah<|eP ?_;refine aL [] ⟨_,rfl,?_,rfl⟩;unfold dt;rw[if_neg f,if_pos (λ t=>i t.2)];rfl
 refine aB 19 (v':=.bool false) rfl (M8 Value.bool (by rw[aV i];rfl))<|ah<|bu rfl<|?_;have c2:¬ ¬ (j4 N N.src/\j4 N N.snk):=λ h=>h ⟨g,i⟩;refine jh ?_;refine az ?_;refine bh 0 ?_;refine aN ?_;refine ak rfl (λ j=>?_) (λ j=>?_)
 ·refine ao ?_;refine aL [] ⟨_,rfl,?_,rfl⟩;unfold dt;rw[if_neg f,if_neg c2,if_pos j];rfl
 refine jh ?_;refine aN ?_;refine ak rfl (λ I=>?_) (λ I=>ag ?_)
 ·refine ao ?_;refine aL [] ⟨_,rfl,?_,rfl⟩;unfold dt;rw[if_neg f,if_neg c2,if_neg j,if_pos aa];rfl
 have u:dt N=kA N 0 N.arcs:=by unfold dt;rw[if_neg f,if_neg c2,if_neg j,if_neg aa]
 rw[u];refine cW ?_;refine bh 0 ?_;refine jb ?_
 refine bS (σ:=Nat×Int) (λ s=>[(46,af s.1),(45,af N.arcs.length),(44,.slice A N.arcs.length c),(4,af s.2),(3,.func (.func 49) #[] #[ap p 0]),(1,ap p 0)])
  (λ s=>[blk p 33 (bY N A c),.seg b o (arcs N.arcs)]) (λ s=>s.1<=N.arcs.length/\b9 s.2/\kA N 0 N.arcs=kA N s.2 (N.arcs.drop s.1)) (λ s=>N.arcs.length-s.1)
  (0,0) [0,1] a8 ab rfl ⟨Nk _,ab,rfl⟩ ?_
 rintro⟨k,n⟩ ⟨K,E,a⟩;simp only at K E a ⊢;refine ao ?_;refine am (ak rfl (λ hlt=>ag ?_) (λ L=>aO ?_))
 ·have hlt:k<N.arcs.length:=by omega
  obtain rfl:=F (by intro h;rw[h] at hlt;simp at hlt);obtain⟨x,w⟩:∃ x,N.arcs[k]?=some x:=⟨N.arcs[k],an hlt⟩;have y:=C.arc x (M9 w)
  have M:N.arcs.drop k=x::N.arcs.drop (k+1):=by
   obtain⟨_,rfl⟩:=Nb.1 w;rw[N7 hlt]
  rw[M,kA] at a;refine am (au ?_);refine tY ?_;refine aG (a7 1 rfl rfl (jm w)) ?_;refine dM λ q=>?_;refine iG ?_;refine jh ?_;refine cH (Iw E y.2.2) rfl be ?_;refine ik ?_;refine jh ?_;refine cH (rj N (aJ b o) c p x.fr) rfl ⟨en 1 rfl,be⟩ ?_;refine az ?_;by_cases l:j4 N x.fr
  case neg=>
   refine aB 63 (v':=.bool true) rfl (M8 Value.bool (by rw[aZ l];rfl))<|cX [5] ?_;refine eP ?_;refine aL [] ⟨_,rfl,?_,rfl⟩;rw[a,if_pos (λ h=>l h.1)];rfl
  refine aB 63 (v':=.bool false) rfl (M8 Value.bool (by rw[aV l];rfl))<|bX [5] ?_;refine ae [5] (ad 0 rfl) rfl<|bj [5] (rj N (aJ b o) c p x.to) rfl rfl rfl rfl aW ⟨en 1 rfl,be⟩ aE<|jP ?_;refine bX [5] ?_;by_cases m:j4 N x.to
  case neg=>
   refine aB 57 (v':=.bool true) rfl (M8 Value.bool (by rw[aZ m];rfl))<|ah<|eP ?_;refine aL [] ⟨_,rfl,?_,rfl⟩;rw[a,if_pos (λ h=>m h.2)];rfl
  refine aB 57 (v':=.bool false) rfl (M8 Value.bool (by rw[aV m];rfl))<|ah<|bu rfl<|?_;rw[if_neg (λ h=>h ⟨l,m⟩)] at a;refine jh ?_;refine aN ?_;refine ak rfl (λ z=>?_) (λ z=>?_)
  ·refine ao ?_;refine aL [] ⟨_,rfl,?_,rfl⟩;rw[a,if_pos z];rfl
  rw[if_neg z] at a;by_cases d:b9 (n+x.cap)
  case neg=>
   rw[ED d];refine aI ?_;refine d7 77 rfl ai<|cX [2] ?_;refine eP ?_;refine aL [] ⟨_,rfl,?_,rfl⟩;rw[a,if_pos (.inl d)];rfl
  rw[zS d];refine aI ?_;refine dD 77 rfl ai<|cX [2] ?_;refine ak rfl (λ e=>?_) (λ e=>ag ?_)
  ·refine ao ?_;refine aL [] ⟨_,rfl,?_,rfl⟩;rw[a,if_pos (.inr e)];rfl
  rw[if_neg (λ h=>h.elim (λ h=>h d) e)] at a;refine i6 ?_;refine⟨(k+1,n+x.cap),[1,2],⟨?_,rfl,rfl,rfl,rfl,rfl,be⟩,ab,rfl,⟨by simp only;omega,d,a⟩,by simp only;omega⟩;refine fJ ?_;rw[cv aa];rfl
 ·have B:k=N.arcs.length:=by omega
  subst B;rw[List.drop_length,kA] at a;refine ao ?_;refine aL [] ⟨_,rfl,by rw[a];rfl,rfl⟩
theorem sW(N:aR):∀ (l:List eq) (s:Int),0<=s->s<=4611686018427387903->kA N s l=0->(∀ a∈l,(1<=a.fr/\a.fr<=N.nodes)/\(1<=a.to/\a.to<=N.nodes)/\0<=a.cap)/\s+(l.map (·.cap)).sum<=4611686018427387903
 |[],s,_,h,_=>⟨λ a e=>(by cases e),by simpa using h⟩
 |a::l,s,i,j,b=>by
  rw[kA] at b;split at b
  ·simp at b
  ·rename_i f;split at b
   ·simp at b
   ·rename_i k;split at b
    ·simp at b
    ·rename_i m;obtain⟨g,i2⟩:=sW N l (s+a.cap) aa aa b;have c:=Classical.not_not.1 f;refine⟨fun x d=>?_,by simp only[List.map_cons,List.sum_cons];omega⟩
     rcases Nl.1 d with rfl|d
     ·exact⟨c.1,c.2,aa⟩
     ·exact g x d
theorem lj{N:aR}(h:dt N=0):N.Right:=by
 unfold dt at h;split at h
 ·simp at h
 ·rename_i e;split at h
  ·simp at h
  ·rename_i b;split at h
   ·simp at h
   ·rename_i c;split at h
    ·simp at h
    ·rename_i f;have a:=Nn.1 b;obtain⟨d,i2⟩:=sW N N.arcs 0 aa aa h;exact⟨aa,a.1,a.2,c,aa,d,aa⟩
def kL(l:LI_)(a:eq)(f:Int):LI_:=
 let l1:=l.set a.fr.toNat (IntKind.i64.wrap (l.getD a.fr.toNat 0-f))
 l1.set a.to.toNat (IntKind.i64.wrap (l1.getD a.to.toNat 0+f))
def y7(n:Nat)(al:List eq)(fs:LI_):LI_:=(al.zip fs).foldl (λ l p=>kL l p.1 p.2) (List.replicate (n+1) 0)
theorem po(l:LI_)(a:eq)(f:Int):(kL l a f).length=l.length:=by simp[kL]
theorem qq(n:Nat)(a:List eq)(fs:LI_):(y7 n a fs).length=n+1:=by
 unfold y7
 have:∀ (ps:List (eq×Int)) (l:LI_),(ps.foldl (λ l p=>kL l p.1 p.2) l).length=l.length:=by
  intro ps
  induction ps with
  |nil=>intro l;rfl
  |cons p ps b=>intro l;simp[b,po]
 rw[this];simp
theorem HF(n:Nat){b:List eq}{fs:LI_}{k:Nat}{a:eq}{f:Int}(d:b[k]?=some a)(e:fs[k]?=some f):y7 n (b.take (k+1)) fs=kL (y7 n (b.take k) fs) a f:=by
 have j:b.take (k+1)=b.take k++[a]:=by
  obtain⟨h,rfl⟩:=Nb.1 d;rw[List.take_succ_eq_append_getElem h]
 have g:(b.take k).length=k:=by
  obtain⟨h,_⟩:=Nb.1 d;simp;omega
 have i:fs=fs.take k++f::fs.drop (k+1):=by
  obtain⟨h,rfl⟩:=Nb.1 e;simp
 have c:(fs.take k).length=k:=by
  obtain⟨h,_⟩:=Nb.1 e;simp;omega
 unfold y7;rw[j]
 conv=>lhs;rw[i]
 conv=>rhs;rw[i]
 rw[List.zip_append (by rw[g,c]),O4]
 have:(b.take k).zip (fs.take k++f::fs.drop (k+1))=(b.take k).zip (fs.take k):=by
  conv=>lhs;rw[<- NL (b.take k)]
  rw[List.zip_append (by rw[g,c])];simp
 rw[this];simp
theorem sV(n:Nat)(src snk:Int)(A F:OA_)(r cf i j l of:Nat)(b:List eq)(fs:LI_)(I:n<=500)(z:b≠[]->A=some ⟨i,j,none⟩)(B:b≠[]->F=some ⟨l,of,none⟩)
 (hl:fs.length=b.length) (hlen:b.length<=2000) (m:∀ a∈b,0<=a.fr/\a.fr<=n/\0<=a.to/\a.to<=n):
 Fn 40 [.agg #[.int .i64 n,.int .i64 src,.int .i64 snk,.slice A b.length r],.slice F b.length cf] [] [.seg i j (arcs b),.seg l of (aj fs)]
  (λ v H'=>∃ g,v=.slice (some ⟨g,0,none⟩) (n+1) (n+1)/\H'=[.own v 2 1 (n+1) (aj (y7 n b fs))]):=by
 refine aT Tryz.func40 λ w0=>?_;refine am (aC ?_);refine dh λ K=>?_;refine aN ?_;refine am (aC ?_);refine az ?_;refine bh 0 ?_;refine az ?_;rw[cv (n:=(n:Int)+1) aa];refine cY (n:=n+1) (c:=n+1) rfl rfl rfl rfl rfl rfl aa aa aa aE λ g=>aN ?_;refine am (am (aC ?_));refine az ?_;refine bh 1 ?_;refine aN ?_;rw[oN];refine au ?_
 refine bS (σ:=Nat) (λ k=>[(15,af k),(14,af b.length),(13,.slice A b.length r),(5,ax g 0 (n+1) (n+1)),(1,.slice F b.length cf)])
  (λ k=>[.own (ax g 0 (n+1) (n+1)) 2 1 (n+1) (aj (y7 n (b.take k) fs)),.seg i j (arcs b),.seg l of (aj fs)]) (λ k=>k<=b.length) (λ k=>b.length-k)
  0 [0,2,3] a8 ab (by rw[List.take_zero];rfl) (Nk _) λ k L=>?_
 refine am (aC (c8 [] rfl ?_));refine am (ak rfl (λ hlt=>ag ?_) (λ C=>aO ?_))
 ·have hlt:k<b.length:=by omega
  have d:b≠[]:=by rintro rfl;simp at hlt
  obtain rfl:=z d;obtain rfl:=B d;refine am (au (am (aC ?_)));refine az ?_;refine aG (j9 rfl hlt) ?_;obtain⟨⟨fr,tz,cap⟩,o⟩:∃ a,b[k]?=some a:=⟨b[k],an hlt⟩;obtain⟨f,p⟩:∃ f,fs[k]?=some f:=⟨fs[k],an aa⟩;obtain⟨s,D,t,E⟩:=m _ (M9 o);simp only at s D t E;obtain⟨fr,rfl⟩:=O5 s;obtain⟨tz,rfl⟩:=O5 t;refine aG (a7 1 rfl rfl (jm o)) ?_;refine dM λ M=>?_;refine mU ?_;refine am (CO 11 aW ?_);refine KI ?_;have H:=qq n (b.take k) fs;obtain⟨x,u⟩:∃ x,(y7 n (b.take k) fs)[fr]?=some x:=⟨_,an aa⟩;refine Cm ?_;refine nH [] (aA 1 rfl rfl rfl (b7 u)) rfl<|FQ ?_;refine nH [] (a7 3 rfl rfl (b7 p)) rfl<|uO [] rfl<|Cm ?_;refine H5<|aY 1 rfl rfl rfl rfl (fF rfl aa) [] rfl<|ah<|CO 11 aW<|?_;obtain⟨y,w⟩:∃ y,((y7 n (b.take k) fs).set fr (IntKind.i64.wrap (x-f)))[tz]?=some y:=⟨_,an eS⟩;refine KI ?_;refine Cm ?_;refine nH [] (aA 1 rfl rfl rfl (b7 w)) rfl<|FQ ?_;refine nH [] (a7 3 rfl rfl (b7 p)) rfl<|uO [] rfl<|Cm ?_;refine H5<|aY 1 rfl rfl rfl rfl (fF rfl eS) [] rfl<|ah<|aC (c8 [] rfl ?_);refine⟨k+1,[1,2,3],⟨?_,rfl,rfl,rfl,rfl,be⟩,ab,?_,aa,aa⟩
  ·refine fJ ?_;rw[cv aa];rfl
  ·rw[HF n o p]
   have e:kL (y7 n (b.take k) fs) ⟨fr,tz,cap⟩ f=((y7 n (b.take k) fs).set fr (IntKind.i64.wrap (x-f))).set tz (IntKind.i64.wrap (y+f)):=by
    simp only[kL,Nz,Nc,u,NK,w]
   rw[e];rfl
 ·refine am (aC (c8 [] rfl ?_));refine aL [0] ?_;have q:k=b.length:=aa;subst q;exact⟨_,rfl,g,rfl,by rw[NH];rfl⟩
open Classical in
noncomputable def iw(N:aR)(f:LI_):Int:=if f.length≠N.arcs.length then 6 else if ∀ p∈N.arcs.zip f,0<=p.2/\p.2<=p.1.cap then 0 else 3
theorem D2(N:aR)(hN:N.Fits)(hR:N.Right)(A:OA_)(c b o:Nat)(hA:N.arcs≠[]->A=some ⟨b,o,none⟩)(f:LI_)(F:OA_)(cf j of:Nat)(t:f≠[]->F=some ⟨j,of,none⟩)(C:∀ x∈f,b9 x)(u:f.length*8<=140737488351232):
 Fn 77 [cd N A c,.slice F f.length cf] [] [.seg b o (arcs N.arcs),.seg j of (aj f)] λ v H'=>v=.int .i64 (iw N f)/\H'=[]:=by
 have w:=hN.len;refine aT Tryz.func77 λ w0=>?_;refine bA ?_;refine dh (cs:=bY N A c) λ p=>?_;refine Dj ?_;refine ak rfl (λ h=>absurd rfl h) (λ _=>ag ?_);refine jh ?_;refine aN ?_;refine ak rfl (λ h=>?_) (λ h=>ag ?_)
 ·refine ao ?_;refine aL [] ⟨_,rfl,?_,rfl⟩;unfold iw;rw[if_pos aa];rfl
 have hlen:f.length=N.arcs.length:=aa;refine jX ?_
 refine bS (σ:=Nat) (λ k=>[(21,af k),(20,af f.length),(19,.slice F f.length cf),(2,ap p 0)])
  (λ k=>[blk p 33 (bY N A c),.seg b o (arcs N.arcs),.seg j of (aj f)]) (λ k=>k<=f.length/\∀ q∈(N.arcs.zip f).take k,0<=q.2/\q.2<=q.1.cap) (λ k=>f.length-k)
  0 [0,1,2] a8 ab rfl ⟨Nk _,λ q e=>by simp at e⟩ ?_
 rintro k ⟨D,d⟩;refine ao ?_;refine am (ak rfl (λ hlt=>ag ?_) (λ y=>aO ?_))
 ·have hlt:k<f.length:=by omega
  obtain rfl:=t (by rintro rfl;simp at hlt)
  obtain rfl:=hA (by intro h;have l:N.arcs.length=0:=by rw[h];rfl
                     omega)
  obtain⟨x,n⟩:∃ x,f[k]?=some x:=⟨f[k],an hlt⟩;obtain⟨a,r⟩:∃ a,N.arcs[k]?=some a:=⟨N.arcs[k],an aa⟩;obtain⟨_,_,i⟩:=gA r;have s:(N.arcs.zip f)[k]?=some (a,x):=by simp[NZ,r,n]
  have g:¬ (0<=x/\x<=a.cap)->iw N f=3:=by
   intro z;unfold iw;rw[if_neg aa,if_neg (λ d=>z (d _ (M9 s)))]
  refine am (au ?_);refine jc ?_;refine aG (a7 2 rfl rfl (b7 n)) ?_;refine ew ?_;by_cases l:x<0
  ·refine d7 28 rfl l<|cX [2] ?_;refine eP ?_;refine aL [] ⟨_,rfl,by rw[g aa];rfl,rfl⟩
  refine dD 28 rfl l<|ic ?_;refine ae [2] (ad 0 rfl) rfl<|ic ?_;refine ae [2] (j9 rfl aa) rfl<|ic ?_;refine ae [2] (a7 1 rfl rfl i) rfl<|cX [2] ?_;refine ak rfl (λ B=>?_) (λ B=>ag ?_)
  ·refine ao ?_;refine aL [] ⟨_,rfl,by rw[g aa];rfl,rfl⟩
  refine ao ?_;refine⟨k+1,[0,1,2],⟨?_,rfl,rfl,rfl,be⟩,ab,rfl,⟨aa,λ q e=>?_⟩,aa⟩
  ·refine fJ ?_;rw[cv aa];rfl
  ·rw[Nv,s] at e
   rcases Nm.1 e with e|e
   ·exact d q e
   ·simp only[P0,Nh] at e;subst e;simp only;omega
 ·have m:k=f.length:=by omega
  subst m;refine ao ?_;refine aL [] ⟨_,rfl,?_,rfl⟩;unfold iw;rw[if_neg aa,if_pos (λ q e=>d q (by rw[Of eS];exact e))];rfl
def dJ(ps:List (eq×Int))(v:Int):Int:=(ps.map λ p=>(if p.1.to=v then p.2 else 0)-(if p.1.fr=v then p.2 else 0)).sum
theorem AU{l:LI_}{a:eq}{f:Int}{B:Int}(e:∀ v:Nat,-B<=l.getD v 0/\l.getD v 0<=B)(k:0<=f)(m:B+f<=9000000000000000000)(g:0<=a.fr/\a.fr<l.length)(i:0<=a.to/\a.to<l.length)(v:Nat):
 (kL l a f).getD v 0=l.getD v 0+((if a.to=v then f else 0)-(if a.fr=v then f else 0)):=by
 obtain⟨fr,tz,cap⟩:=a;obtain⟨fr,rfl⟩:=O5 g.1;obtain⟨tz,rfl⟩:=O5 i.1;simp only[kL,Nz];have c:fr<l.length:=by have:=g.2;simp only at this;omega
 have d:tz<l.length:=by have:=i.2;simp only at this;omega
 have b:∀ v,(l.set fr (IntKind.i64.wrap (l.getD fr 0-f))).getD v 0=l.getD v 0-(if fr=v then f else 0):=by
  intro v;by_cases h:fr=v
  ·subst h;have:=e fr;rw[if_pos rfl,Nc,No c,NK,cv aa]
  ·rw[if_neg h,Nc,Nq h,Nc];omega
 by_cases h:tz=v
 ·subst h;have j:=b tz;have:=e tz;rw[Nc,No (by simpa using d),NK,j,cv (by split<;>omega)];simp only[Int.natCast_inj,O8];omega
 ·rw[Nc,Nq h,<- Nc,b v];simp only[Int.natCast_inj];rw[if_neg h];omega
theorem CA(n:Nat):∀ (ps:List (eq×Int)) (l:LI_) (B:Int),l.length=n+1->(∀ v:Nat,-B<=l.getD v 0/\l.getD v 0<=B)->(∀ p∈ps,0<=p.2/\(0<=p.1.fr/\p.1.fr<=n)/\(0<=p.1.to/\p.1.to<=n))->B+(ps.map (·.2)).sum<=9000000000000000000->
 ∀ v:Nat,(ps.foldl (λ l p=>kL l p.1 p.2) l).getD v 0=l.getD v 0+dJ ps v
 |[],l,B,_,_,_,_,v=>by simp[dJ]
 |p::ps,l,B,hl,d,hp,e,v=>by
  obtain⟨g,m,o⟩:=hp p ai
  have i:0<=(ps.map (·.2)).sum:=by
   have:∀ (ps:List (eq×Int)),(∀ p∈ps,0<=p.2)->0<=(ps.map (·.2)).sum:=by
    intro ps
    induction ps with
    |nil=>intro _;simp
    |cons q ps j=>intro h;have:=j λ a k=>h a (by simp[k]);have:=h q ai;simp only[Ns,NC];omega
   exact this ps λ q c=>(hp q (by simp[c])).1
  simp only[Ns,NC] at e;have b:=AU (l:=l) (a:=p.1) (f:=p.2) d g aa aa aa;rw[OF,CA n ps (kL l p.1 p.2) (B+p.2) (by rw[po];exact hl) (λ v=>?_) (λ q c=>hp q (by simp[c])) aa v,b v]
  ·simp only[dJ,Ns,NC];omega
  ·rw[b v];have:=d v;split<;>split<;>omega
theorem Jj(n:Nat)(a:List eq)(fs:LI_)(hp:∀ p∈a.zip fs,0<=p.2/\(0<=p.1.fr/\p.1.fr<=n)/\(0<=p.1.to/\p.1.to<=n))(c:((a.zip fs).map (·.2)).sum<=9000000000000000000)(v:Nat):(y7 n a fs).getD v 0=dJ (a.zip fs) v:=by
 unfold y7
 have b:∀ v,(List.replicate (n+1) (0:Int)).getD v 0=0:=by
  intro v;rw[Nc,Nt];split<;>rfl
 rw[CA n (a.zip fs) _ 0 ai (λ v=>by rw[b];omega) hp aa v,b];omega
structure Ranged (N:aR) (f:LI_):Prop where
 len:f.length=N.arcs.length
 all:∀ p∈N.arcs.zip f,0<=p.2/\p.2<=p.1.cap
theorem kf{N:aR}{f:LI_}:iw N f=0↔Ranged N f:=by
 unfold iw
 constructor
 ·intro h;split at h
  ·simp at h
  ·rename_i b;split at h
   ·rename_i a;exact⟨aa,a⟩
   ·simp at h
 ·rintro⟨b,a⟩;rw[if_neg aa,if_pos a]
theorem pQ:∀ (b:List eq) (fs:LI_),(∀ p∈b.zip fs,0<=p.2/\p.2<=p.1.cap)->(∀ a∈b,0<=a.cap)->((b.zip fs).map (·.2)).sum<=(b.map (·.cap)).sum
 |[],_,_,_=>by simp
 |a::b,[],_,h=>by
  have:=pQ b [] ai λ a c=>h a (by simp[c]);have:=h a ai;simp at*;omega
 |a::b,f::fs,hp,h=>by
  have:=pQ b fs (λ p d=>hp p (by simp[d])) λ a c=>h a (by simp[c]);have:=hp (a,f) ai;simp only[Pt,Ns,NC] at*;omega
theorem Ranged.exc{N:aR}{f:LI_}(h:Ranged N f)(b:N.Right)(n:Nat)(g:N.nodes=n)(v:Nat):(y7 n N.arcs f).getD v 0=dJ (N.arcs.zip f) v:=by
 refine Jj n N.arcs f (λ p hp=>?_) ?_ v
 ·have c:=h.all p hp;have d:=b.arc p.1 (List.of_mem_zip hp).1;exact⟨c.1,aa,aa⟩
 ·have c:=pQ N.arcs f h.all λ a e=>(b.arc a e).2.2;have d:=b.sum;omega
open Classical in
noncomputable def eQ(N:aR)(f:LI_):Int:=if iw N f≠0 then iw N f else if ∀ v:Int,1<=v/\v<=N.nodes->v≠N.src->v≠N.snk->dJ (N.arcs.zip f) v=0 then 0 else 9
theorem wK{N:aR}{f:LI_}(h:Ranged N f)(a:∀ v:Int,1<=v/\v<=N.nodes->v≠N.src->v≠N.snk->dJ (N.arcs.zip f) v=0):eQ N f=0:=by
 unfold eQ;rw[if_neg (λ b=>b (kf.2 h)),if_pos a]
theorem zL{N:aR}{f:LI_}(h:Ranged N f)(a:¬ ∀ v:Int,1<=v/\v<=N.nodes->v≠N.src->v≠N.snk->dJ (N.arcs.zip f) v=0):eQ N f=9:=by
 unfold eQ;rw[if_neg (λ b=>b (kf.2 h)),if_neg a]
structure aD (N:aR) (f:LI_):Prop extends Ranged N f where
 kept:∀ v:Int,1<=v/\v<=N.nodes->v≠N.src->v≠N.snk->dJ (N.arcs.zip f) v=0
theorem de{N:aR}{f:LI_}:eQ N f=0↔aD N f:=by
 constructor
 ·intro h;by_cases hw:Ranged N f
  ·refine⟨hw,?_⟩;by_cases a:∀ v:Int,1<=v/\v<=N.nodes->v≠N.src->v≠N.snk->dJ (N.arcs.zip f) v=0
   ·exact a
   ·rw[zL hw a] at h;simp at h
  ·exfalso;have b:iw N f≠0:=λ h=>hw (kf.1 h);unfold eQ at h;rw[if_pos b] at h;exact b h
 ·exact λ h=>wK h.toRanged h.kept
theorem Dm(N:aR)(M:N.Fits)(q:N.Right)(A:OA_)(c b o:Nat)(I:N.arcs≠[]->A=some ⟨b,o,none⟩)(f:LI_)(F:OA_)(cf s of:Nat)(K:f≠[]->F=some ⟨s,of,none⟩)(O:∀ x∈f,b9 x)(t:f.length*8<=140737488351232):
 Fn 39 [cd N A c,.slice F f.length cf] [] [.seg b o (arcs N.arcs),.seg s of (aj f)] λ v H'=>v=.int .i64 (eQ N f)/\H'=[]:=by
 refine aT Tryz.func39 λ w0=>?_;refine bA ?_;refine dh (cs:=bY N A c) λ p=>?_;refine ip ?_;refine cH (D2 N M q A c b o I f F cf s of K O t) rfl ⟨bx 1 rfl,bx 2 rfl,be⟩ ?_;refine cS ?_;refine ak rfl (λ h=>?_) (λ h=>ag ?_)
 ·refine ao ?_;refine aL [] ⟨_,rfl,?_,rfl⟩;unfold eQ;rw[if_pos h];rfl
 have m:Ranged N f:=kf.1 (Nn.1 h);have P:=q.nodes;obtain⟨n,u⟩:∃ n:Nat,N.nodes=n:=⟨N.nodes.toNat,aa⟩;have L:=m.exc q n u;have w:=qq n N.arcs f;have T:=sV n N.src N.snk A F c cf b o s of N.arcs f aa I (λ y=>K (λ Q=>y (by have:=m.len;rw[Q] at this;exact Nw.1 this.symm))) m.len q.len (λ a R=>by have:=q.arc a R;omega);rw[<- u] at T;refine rX ?_;refine bj [] T rfl rfl rfl (by rw[m.len];rfl) aW ⟨bx 1 rfl,bx 2 rfl,be⟩ aE ?_;rintro v H' ⟨g,rfl,rfl⟩;refine ef ?_;obtain⟨X,z⟩:∃ X,X=y7 n N.arcs f:=⟨_,rfl⟩;rw[<- z] at L w ⊢;refine qn ?_;refine ah ?_;rw[u];refine au ?_
 refine bS (σ:=Nat) (λ k=>[(20,af k),(19,af n),(6,ax g 0 (n+1) (n+1)),(2,ap p 0)])
  (λ k=>[.own (ax g 0 (n+1) (n+1)) 2 1 (n+1) (aj X),blk p 33 (bY N A c)]) (λ k=>k<=n/\∀ v:Int,1<=v/\v<=k->v≠N.src->v≠N.snk->dJ (N.arcs.zip f) v=0) (λ k=>n-k)
  0 [0,1] a8 ab rfl ⟨Nk _,λ v B=>by omega⟩ ?_
 rintro k ⟨U,d⟩;refine ao ?_;refine am (ak rfl (λ C=>ag ?_) (λ S=>aO ?_))
 ·have C:k<n:=by omega
  refine am (au ?_);refine i6 ?_;refine bB 8 (v':=af ((k+1:Nat):Int)) rfl (M8 (Value.int .i64) (cv aa)) ?_
  have l:(((k+1:Nat):Int)≠N.src->((k+1:Nat):Int)≠N.snk->dJ (N.arcs.zip f) ((k+1:Nat):Int)=0)->∀ v:Int,1<=v/\v<=((k+1:Nat):Int)->v≠N.src->v≠N.snk->dJ (N.arcs.zip f) v=0:=by
   intro i v B j h2;by_cases D:v<=k
   ·exact d v ⟨B.1,D⟩ j h2
   ·obtain rfl:v=((k+1:Nat):Int):=by omega
    exact i j h2
  have E:∃ x,X[k+1]?=some x:=⟨X[k+1]'aa,an aa⟩;obtain⟨x,hx⟩:=E
  have r:x=dJ (N.arcs.zip f) ((k+1:Nat):Int):=by
   have:=L (k+1);rw[Nc,hx] at this;exact this
  by_cases i:((k+1:Nat):Int)≠N.src->((k+1:Nat):Int)≠N.snk->dJ (N.arcs.zip f) ((k+1:Nat):Int)=0
  ·refine gj [(41,.bool false),(20,af k),(19,af n),(6,ax g 0 (n+1) (n+1)),(2,ap p 0)]
    [.own (ax g 0 (n+1) (n+1)) 2 1 (n+1) (aj X),blk p 33 (bY N A c)] ?_ ?_
   ·refine qn ?_;by_cases j:((k+1:Nat):Int)=N.src
    ·refine dD 29 rfl (λ h=>h j)<|cX [4,10] ?_;exact pY
    refine d7 29 rfl j<|bX [4] ?_;refine ae [4] (ad 1 rfl) rfl<|bX [4] ?_;by_cases h2:((k+1:Nat):Int)=N.snk
    ·refine dD 35 rfl (λ h=>h h2)<|cX [4,10] ?_;exact pY
    refine Ic ?_;exact⟨[0,1],⟨M8 some (M8 Value.bool (aZ (λ H=>H (r.trans (i j h2))))),rfl,rfl,rfl,rfl,be⟩,ab,rfl⟩
   ·refine bu rfl (ag ?_);refine ao ?_;refine⟨k+1,[0,1],⟨?_,rfl,rfl,rfl,be⟩,ab,rfl,⟨aa,l i⟩,aa⟩;refine fJ ?_;rw[cv aa];rfl
  ·have j:((k+1:Nat):Int)≠N.src:=λ e=>i (λ h=>absurd e h);have h2:((k+1:Nat):Int)≠N.snk:=λ e=>i (λ _ h=>absurd e h);have H:x≠0:=λ e=>i (λ _ _=>r.symm.trans e);refine qn ?_;refine d7 29 rfl j<|bX [4] ?_;refine ae [4] (ad 1 rfl) rfl<|bX [4] ?_;refine Ic ?_;refine ak rfl (λ _=>?_) (λ h=>absurd H h);refine ao ?_;refine aL [] ⟨_,rfl,?_,rfl⟩;rw[zL m (λ d=>i (d _ aa))];rfl
 ·refine ao ?_;refine aL [] ⟨_,rfl,?_,rfl⟩;rw[wK m (λ v B=>d v aa)];rfl
theorem f8(N:aR)(hN:N.Fits)(hR:N.Right)(A:OA_)(c b o:Nat)(hA:N.arcs≠[]->A=some ⟨b,o,none⟩)(f:LI_)(F:OA_)(cf bf of:Nat)(hF:f≠[]->F=some ⟨bf,of,none⟩)(hf:∀ x∈f,b9 x)(hfl:f.length*8<=140737488351232):
 Fn 17 [cd N A c,.slice F f.length cf] [] [.seg b o (arcs N.arcs),.seg bf of (aj f)] λ v H'=>(v=td (dJ (N.arcs.zip f) N.snk,0)/\aD N f\/v=td (0,eQ N f)/\¬ aD N f)/\H'=[]:=by
 refine aT Tryz.func17 λ w0=>?_;refine bA ?_;refine dh (cs:=bY N A c) λ p=>?_;refine GS ?_;refine ak rfl (λ h=>?_) (λ h=>ag ?_)
 ·refine ao ?_;refine aL [] ⟨_,rfl,.inr ⟨rfl,λ hf=>h (de.2 hf)⟩,rfl⟩
 have d:aD N f:=de.1 (Nn.1 h);have q:=hR.nodes;have r:=hR.snk;obtain⟨n,j⟩:∃ n:Nat,N.nodes=n:=⟨N.nodes.toNat,aa⟩;obtain⟨s,k⟩:∃ s:Nat,N.snk=s:=⟨N.snk.toNat,aa⟩;have l:=d.toRanged.exc hR n j s;have t:=qq n N.arcs f;have T:=sV n N.src N.snk A F c cf b o bf of N.arcs f aa hA (λ e=>hF (λ u=>e (by have:=d.len;rw[u] at this;exact Nw.1 this.symm))) d.len hR.len (λ a w=>by have:=hR.arc a w;omega);rw[<- j] at T;obtain⟨x,m⟩:∃ x,(y7 n N.arcs f)[s]?=some x:=⟨(y7 n N.arcs f)[s]'aa,an aa⟩
 have i:x=dJ (N.arcs.zip f) N.snk:=by
  rw[Nc,m] at l;rw[k];exact l
 refine cA ?_;refine bK 9 (dS [0,1,3,4]++[(2,false)]++dS [5]++[(6,false)]++dS [7,8]) [0] aW ab rfl<|bc (v:=cd N A c) rfl (ad 0 rfl) ?_;refine i1 ?_;refine cz ?_;refine bj [] T rfl rfl rfl (by rw[d.len];rfl) aW ⟨bx 1 rfl,bx 2 rfl,be⟩ aE ?_;rintro v H' ⟨g,rfl,rfl⟩;refine⟨rfl,bZ [1] ?_⟩;refine dG 17 (v':=af s) rfl (M8 (Value.int .i64) k)<|nJ ?_;refine cz ?_;refine aG (aA 0 rfl rfl rfl (b7 m)) ?_;refine bZ [1]<|lh ?_;exact aL [] ⟨_,rfl,.inl ⟨by rw[i];rfl,d⟩,rfl⟩
theorem Ch(n:Int):IntKind.i64.wrap ((BitVec.ofInt IntKind.i64.bits n&&& BitVec.ofInt IntKind.i64.bits 1).toNat:Int)=n%2:=by
 have h:(BitVec.ofInt IntKind.i64.bits n&&& BitVec.ofInt IntKind.i64.bits 1).toNat=(n%2).toNat:=by
  rw[BitVec.toNat_and,BitVec.toNat_ofInt,BitVec.toNat_ofInt];have a:((1:Int)%((2^IntKind.i64.bits:Nat):Int)).toNat=1:=ab;rw[a,Nat.and_one_is_mod];have b:((2^IntKind.i64.bits:Nat):Int)=18446744073709551616:=ab;rw[b];omega
 rw[h,cv aa];omega
def d6(a:eq)(r:Nat):Int×Int:=if r%2=1 then (a.to,a.fr) else (a.fr,a.to)
def dg(N:aR)(r:Nat):Int×Int:=match N.arcs[r/2]? with
 |some a=>d6 a r
 |none=>(0,0)
theorem jw(N:aR)(A:OA_)(c b o:Nat)(i:N.arcs≠[]->A=some ⟨b,o,none⟩)(hl:N.arcs.length<=2000)(r:Nat)(d:r<2*N.arcs.length):
 Fn 89 [cd N A c,.int .i64 r] [] [.seg b o (arcs N.arcs)] λ v H'=>v=td (dg N r)/\H'=[]:=by
 obtain rfl:=i (by intro h;rw[h] at d;simp at d);obtain⟨a,f⟩:∃ a,N.arcs[r/2]?=some a:=⟨N.arcs[r/2]'aa,an aa⟩;have he:dg N r=d6 a r:=by unfold dg;rw[f]
 have g:IntKind.i64.wrap ((r:Int).tdiv 2)=((r/2:Nat):Int):=by rw[cv (by rw[PN aa];omega),PN aa];omega
 rw[he];refine aT Tryz.func89 λ w0=>?_;refine bA ?_;refine dh (cs:=bY N (aJ b o) c) λ p=>?_;refine ew ?_;refine dD 9 rfl aa<|ic ?_;refine aB 11 (v':=af ((r/2:Nat):Int)) rfl (M8 (Value.int .i64) g)<|ae [2] (ad 0 rfl) rfl<|cX [2] ?_;refine ak rfl (λ h=>absurd h aa) (λ _=>ag ?_);refine jh ?_;refine az ?_;refine aB 20 (v':=af ((r/2:Nat):Int)) rfl (M8 (Value.int .i64) g)<|aG (j9 rfl aa) ?_;refine aG (a7 1 rfl rfl (jm f)) ?_;refine dM λ q=>?_;refine iG ?_;refine gj [(6,ap q 0)] [blk q 37 [af (d6 a r).1,af (d6 a r).2,af a.cap]] ?_ ?_
 ·refine ao ?_;have hand:IntKind.i64.wrap ((BitVec.ofInt IntKind.i64.bits (r:Int)&&& BitVec.ofInt IntKind.i64.bits 1).toNat:Int)=(r:Int)%2:=Ch r;refine ak rfl (λ h=>?_) (λ h=>ag ?_)
  ·rw[hand] at h;have e:d6 a r=(a.to,a.fr):=by unfold d6;rw[if_pos aa]
   rw[e];refine aC (fS [] rfl ?_);refine bh 0 ?_;refine az ?_;refine bh 0 ?_;refine az ?_;refine dz 0 ?_;refine mU ?_;exact⟨[0],⟨rfl,be⟩,ab,rfl⟩
  ·rw[hand] at h;have e:d6 a r=(a.fr,a.to):=by unfold d6;rw[if_neg aa]
   rw[e];exact⟨[0],⟨rfl,be⟩,ab,rfl⟩
 ·refine cA ?_;refine bK 6 (dS [0,1,2,3,4,5]) [0] aW ab rfl<|i1 ?_;refine i1 ?_;refine lh ?_;exact nE
def a9(ps:List (eq×Int)):LI_:=ps.flatMap λ p=>[p.1.cap-p.2,p.2]
theorem ee(ps:List (eq×Int)):(a9 ps).length=2*ps.length:=by
 induction ps with
 |nil=>rfl
 |cons p ps a=>
  have e:a9 (p::ps)=[p.1.cap-p.2,p.2]++a9 ps:=by simp[a9]
  rw[e,Ng,a];simp;omega
theorem Bi{ps:List (eq×Int)}{k:Nat}{p:eq×Int}(h:ps[k]?=some p):a9 (ps.take (k+1))=a9 (ps.take k)++[p.1.cap-p.2,p.2]:=by
 rw[Nv,h];simp[a9]
theorem w8(N:aR)(hN:N.Fits)(hR:N.Right)(A:OA_)(c b o:Nat)(hA:N.arcs≠[]->A=some ⟨b,o,none⟩)(f:LI_)(F:OA_)(cf bf of:Nat)(hF:f≠[]->F=some ⟨bf,of,none⟩)(hf:∀ x∈f,b9 x)(hfl:f.length*8<=140737488351232):
 Fn 88 [cd N A c,.slice F f.length cf] [] [.seg b o (arcs N.arcs),.seg bf of (aj f)] λ v H'=>
  (aD N f/\∃ l q,v=.tuple #[.slice l (2*N.arcs.length) q,af 0]/\H'=[.own (.slice l (2*N.arcs.length) q) 2 1 (2*N.arcs.length) (aj (a9 (N.arcs.zip f)))])\/
  (¬ aD N f/\v=.tuple #[.slice none 0 0,af (eQ N f)]/\H'=[]):=by
 refine aT Tryz.func88 λ w0=>?_;refine bA ?_;refine dh (cs:=bY N A c) λ p=>?_;refine GS ?_;refine ak rfl (λ h=>?_) (λ h=>ag ?_)
 ·refine ao ?_;refine aL [] ⟨_,rfl,.inr ⟨λ hf=>h (de.2 hf),rfl,rfl⟩⟩
 have e:aD N f:=de.1 (Nn.1 h);have hlen:=e.len;have u:=hR.len;refine aI ?_;refine aB 18 (v':=af ((2*f.length:Nat):Int)) rfl (M8 (Value.int .i64) ((cv (n:=2*(f.length:Int)) aa).trans aa))<|cY (n:=0) (c:=2*f.length) rfl rfl rfl rfl rfl rfl aa aa aa aE λ g=>cS ?_;refine au ?_
 refine bS (σ:=Nat×OA_×Nat) (λ s=>[(22,af s.1),(21,af f.length),(20,.slice F f.length cf),(7,.slice s.2.1 (2*s.1) s.2.2),(2,ap p 0)])
  (λ s=>[.own (.slice s.2.1 (2*s.1) s.2.2) 2 1 (2*s.1) (aj (a9 ((N.arcs.zip f).take s.1))),blk p 33 (bY N A c),.seg b o (arcs N.arcs),.seg bf of (aj f)]) (λ s=>s.1<=f.length) (λ s=>f.length-s.1)
  (0,aJ g 0,2*f.length) [0,1,2,3] a8 ab ?_ (Nk _) ?_
 ·rw[show made [af 0] (0*1)=[] from Nw.1 (kZ _ _)];show cI _ _=some [.own (ax g 0 0 (2*f.length)) 2 1 0 (aj (a9 ((N.arcs.zip f).take 0))),blk p 33 (bY N A c),.seg b o (arcs N.arcs),.seg bf of (aj f)];rw[List.take_zero];rfl
 rintro⟨k,A1,w⟩ y;simp only at y ⊢;refine ao ?_;refine am (ak rfl (λ hlt=>ag ?_) (λ z=>aO ?_))
 ·have hlt:k<f.length:=by omega
  obtain rfl:=hF (by rintro rfl;simp at hlt)
  obtain rfl:=hA (by intro h;have E:N.arcs.length=0:=by rw[h];rfl
                     omega)
  obtain⟨x,r⟩:∃ x,f[k]?=some x:=⟨f[k],an hlt⟩;obtain⟨a,i⟩:∃ a,N.arcs[k]?=some a:=⟨N.arcs[k],an aa⟩;obtain⟨_,_,d⟩:=gA i;have t:(N.arcs.zip f)[k]?=some (a,x):=by simp[NZ,i,r]
  have B:=e.all _ (M9 t);have C:=(hN.arc a (M9 i)).2.2;simp only at B;unfold b9 at C;refine am (au ?_);refine jc ?_;refine aG (a7 3 rfl rfl (b7 r)) ?_;refine ew ?_;refine bh 1 ?_;refine az ?_;refine aG (j9 rfl aa) ?_;refine az ?_;refine aG (a7 2 rfl rfl d) ?_;refine az ?_;refine aB 35 (v':=af (a.cap-x)) rfl (M8 (Value.int .i64) (cv aa))<|dp λ g2=>?_;refine bp (n:=2*k) (m:=2) (off:=0) (news:=[af (a.cap-x),af x]) 1 0 rfl rfl rfl rfl rfl rfl ab rfl rfl (aQ g2 _ _ (0,0)) aE rfl rfl aa aa (λ _ _=>rfl) λ D c2=>cS ?_;refine⟨(k+1,D,c2),[1,2,3,4],⟨?_,rfl,rfl,rfl,rfl,be⟩,ab,?_,by simp only;omega,by simp only;omega⟩
  ·refine fJ ?_;rw[cv aa];rfl
  ·simp only[Bi t];rw[show aj (a9 ((N.arcs.zip f).take k)++[a.cap-x,x])=aj (a9 ((N.arcs.zip f).take k))++[af (a.cap-x),af x] by simp[aj]];rfl
 ·have j:k=N.arcs.length:=by omega
  subst j;rw[Of eS];refine ao ?_;refine aL [0] ⟨_,rfl,.inl ⟨e,A1,w,rfl,rfl⟩⟩
inductive tf (N:aR) (rm:LI_) (least:Int):Int->Prop
 |src:tf N rm least N.src
 |step (u:Int) (r:Nat):tf N rm least u->r<rm.length->(dg N r).1=u->least<=rm.getD r 0->tf N rm least (dg N r).2
theorem jG{N:aR}(c:N.Right){r:Nat}(d:r<2*N.arcs.length):(1<=(dg N r).1/\(dg N r).1<=N.nodes)/\(1<=(dg N r).2/\(dg N r).2<=N.nodes):=by
 obtain⟨a,b⟩:∃ a,N.arcs[r/2]?=some a:=⟨N.arcs[r/2]'aa,an aa⟩;have h:=c.arc a (M9 b);unfold dg;rw[b];unfold d6;simp only;split<;>exact⟨aa,aa⟩
def tr(N:aR)(k:Nat)(v:Nat):LI_:=((List.range k).filter λ (r:Nat)=>decide ((dg N r).1=(v:Int))).map λ (r:Nat)=>(r:Int)
theorem CS(N:aR)(k v:Nat):tr N (k+1) v=tr N k v++(if (dg N k).1=(v:Int) then [(k:Int)] else []):=by
 unfold tr;refine wY ?_
 congr 1
 by_cases h:(dg N k).1=(v:Int)<;>simp[h]
theorem oL(N:aR)(k v:Nat):(tr N k v).length<=k:=by
 unfold tr;exact CE
theorem xi{N:aR}{k v:Nat}{x:Int}:x∈tr N k v↔∃ r:Nat,r<k/\(dg N r).1=(v:Int)/\x=r:=by
 unfold tr;refine xY ?_
 constructor
 ·rintro⟨r,⟨a,b⟩,rfl⟩;exact⟨r,a,b,rfl⟩
 ·rintro⟨r,a,b,rfl⟩;exact⟨r,⟨a,b⟩,rfl⟩
structure DS where
 met:LB_
 Aw:OA_
 cw:Nat
 wait:LI_
 pos:LN_
 vals:LV_
def Fx(N:aR)(rm:LI_)(least:Int)(met:LB_)(r:Int):Prop:=rm.getD r.toNat 0<least\/∃ t:Nat,(dg N r.toNat).2=t/\met[t]?=some true
structure xN (N:aR) (rm:LI_) (least:Int) (rows:List ff) (n s0:Nat) (gv:Nat->Nat) (s:DS):Prop where
 ml:s.met.length=n+1
 vl:s.vals.length=n+1
 pl:s.pos.length=n+1
 sound:∀ v:Nat,s.met[v]?=some true->v<=n/\tf N rm least v
 src:s.met[s0]?=some true
 wait:∀ x∈s.wait,∃ v:Nat,x=v/\v<=n/\s.met[v]?=some true
 done:∀ (v:Nat) (row:ff) (q:Nat),rows[v]?=some row->s.pos[v]?=some q->q<=row.l.length/\∀ (j:Nat) (r:Int),j<q->row.l[j]?=some r->Fx N rm least s.met r
 full:∀ v:Nat,s.met[v]?=some true->(v:Int)∉s.wait->∀ row,rows[v]?=some row->∀ r∈row.l,Fx N rm least s.met r
 wl:s.wait.length+s.met.count false<=n+1
 val:∀ (v:Nat) (row:ff) (q:Nat),rows[v]?=some row->s.pos[v]?=some q->∃ A' c',s.vals[v]?=some (.slice A' (row.l.length-q) c')/\row.l.length-q<=c'/\(0<row.l.length-q->A'=some ⟨gv v,q,none⟩)
theorem mP{l:LB_}{t v:Nat}(h:l[v]?=some true):(l.set t true)[v]?=some true:=by
 by_cases e:t=v
 ·subst e;rw[No (Nb.1 h).1]
 ·rw[Nq e];exact h
theorem Fx.mono{N:aR}{rm:LI_}{least:Int}{met:LB_}{r:Int}(t:Nat)(h:Fx N rm least met r):Fx N rm least (met.set t true) r:=
 h.imp id λ ⟨u,a,b⟩=>⟨u,a,mP b⟩
theorem lU:∀ (l:LB_) (t:Nat),l[t]?=some false->(l.set t true).count false+1=l.count false
 |[],t,h=>by simp at h
 |b::l,0,h=>by simp at h;subst h;simp
 |b::l,t+1,h=>by
  have:=lU l t (by simpa using h);simp only[List.set_cons_succ,List.count_cons];omega
theorem xN.push{N:aR}{rm:LI_}{least:Int}{rows:List ff}{n s0:Nat}{y:Nat->Nat}{s:DS}(h:xN N rm least rows n s0 y s){v q i t r:Nat}{row:ff}(I:s.met[v]?=some true)(k:rows[v]?=some row)
 (m:∀ (j:Nat) (r:Int),j<q+i->row.l[j]?=some r->Fx N rm least s.met r) (K:row.l[q+i]?=some (r:Int)) (hu:(dg N r).1=(v:Int)) (L:(dg N r).2=(t:Int)) (o:t<=n) (z:r<rm.length) (A:least<=rm.getD r 0) (B:s.met[t]?=some false)
 {C:OA_} {D:Nat} (O:row.l.length-(q+i+1)<=D) (P:0<row.l.length-(q+i+1)->C=some ⟨y v,q+i+1,none⟩) (Aw:OA_) (cw:Nat):
 xN N rm least rows n s0 y ⟨s.met.set t true,Aw,cw,s.wait++[(t:Int)],s.pos.set v (q+i+1),s.vals.set v (.slice C (row.l.length-(q+i+1)) D)⟩:=by
 have Q:=(h.sound v I).2;have R:=(h.sound v I).1;have p:t<s.met.length:=by rw[h.ml];omega
 have w:Fx N rm least (s.met.set t true) (r:Int):=.inr ⟨t,by rw[Nz];exact L,by rw[No p]⟩;have S:q+i<row.l.length:=(Nb.1 K).1;refine⟨by simp[h.ml],by simp[h.vl],by simp[h.pl],λ u d=>?_,mP h.src,λ x f=>?_,λ u c E b a=>?_,λ u d g c b=>?_,by simp only[Ng,NF];have:=lU s.met t B;have:=h.wl;omega,λ u c E b a=>?_⟩
 ·simp only at d;by_cases e:t=u
  ·subst e;have:=tf.step (N:=N) (rm:=rm) (least:=least) v r Q z hu A;rw[L] at this;exact⟨o,this⟩
  ·rw[Nq e] at d;exact h.sound u d
 ·rcases Nm.1 f with f|f
  ·obtain⟨u,F,G,U⟩:=h.wait x f;exact⟨u,F,G,mP U⟩
  ·exact⟨t,Nh.1 f,o,by simp only;rw[No p]⟩
 ·simp only at a;by_cases e:v=u
  ·subst e;rw[List.getElem?_set_self (by rw[h.pl];omega)] at a;simp only[Option.some.injEq] at a;subst a;rw[k] at b;simp only[Option.some.injEq] at b;subst b;refine⟨aa,fun j x M f=>?_⟩;by_cases V:j=q+i
   ·subst V;rw[K] at f;simp only[Na] at f;subst f;exact w
   ·exact (m j x aa f).mono t
  ·rw[Nq e] at a;obtain⟨F,G⟩:=h.done u c E b a;exact⟨F,λ j x M f=>(G j x M f).mono t⟩
 ·simp only at d g;have H:t≠u:=λ e=>g (by rw[<- e];simp);rw[Nq H] at d;intro x f;exact (h.full u d (λ hm=>g (Nm.2 (.inl hm))) c b x f).mono t
 ·simp only at a ⊢;by_cases e:v=u
  ·subst e;rw[No (by rw[h.pl];omega)] at a;simp only[Na] at a;subst a;rw[k] at b;simp only[Na] at b;subst b;exact⟨C,D,by rw[No (by rw[h.vl];omega)],O,P⟩
  ·rw[Nq e] at a;rw[Nq e];exact h.val u c E b a
theorem xN.pop{N:aR}{rm:LI_}{least:Int}{rows:List ff}{n s0:Nat}{g:Nat->Nat}{s:DS}(h:xN N rm least rows n s0 g s){v:Nat}{w:LI_}{row:ff}(hw:s.wait=w++[(v:Int)])(b:rows[v]?=some row)
 (c:∀ r∈row.l,Fx N rm least s.met r) (Aw:OA_) (cw:Nat):xN N rm least rows n s0 g ⟨s.met,Aw,cw,w,s.pos,s.vals⟩:=by
 refine⟨h.ml,h.vl,h.pl,h.sound,h.src,λ x i=>h.wait x (by rw[hw];simp[i]),h.done,λ u hu d f a=>?_,by have:=h.wl;rw[hw,Ng] at this;simp only;omega,h.val⟩;by_cases e:u=v
 ·subst e;rw[b] at a;simp only[Na] at a;subst a;exact c
 ·exact h.full u hu (by rw[hw];intro hm;rcases List.mem_append.1 hm with hm|hm;· exact d hm
                        ·have:=Nh.1 hm;omega) f a
theorem xN.final{N:aR}{rm:LI_}{least:Int}{rows:List ff}{n s0:Nat}{m:Nat->Nat}{s:DS}(h:xN N rm least rows n s0 m s)(hw:s.wait=[])(o:N.src=s0)(f:rows.length=n+1)(g:∀ (v:Nat) (r:ff),rows[v]?=some r->r.l=tr N rm.length v)(b:∀ r,r<rm.length->∃ k:Nat,(dg N r).1=k)
 (v:Nat):s.met[v]?=some true↔v<=n/\tf N rm least v:=by
 refine⟨h.sound v,λ ⟨_,p⟩=>?_⟩
 have key:∀ x:Int,tf N rm least x->∀ v:Nat,x=v->s.met[v]?=some true:=by
  intro x q
  induction q with
  |src=>intro v e;rw[o] at e;have:s0=v:=by omega
        subst this;exact h.src
  |step u r _ c hu w y=>
   intro v e;obtain⟨k,i⟩:=b r c;rw[hu] at i;have hm:=y k i;have z:=(h.sound k hm).1;obtain⟨row,a⟩:∃ row,rows[k]?=some row:=⟨rows[k]'aa,an aa⟩;have d:(r:Int)∈row.l:=by rw[g k row a];exact xi.2 ⟨r,c,by rw[hu,i],rfl⟩
   rcases h.full k hm (by rw[hw];simp) row a _ d with j|⟨t,j,A⟩
   ·rw[Nz] at j;omega
   ·rw[Nz] at j;have:t=v:=aa;rw[<- this];exact A
 exact key v p v rfl
def LC(N:aR)(f:LI_)(least:Int)(n:Nat)(v:Value)(H':Heap):Prop:=
 (aD N f/\1<=least/\∃ (l:LB_) (g:Nat),l.length=n+1/\(∀ v:Nat,l[v]?=some true↔v<=n/\tf N (a9 (N.arcs.zip f)) least v)/\v=.tuple #[.slice (some ⟨g,0,none⟩) (n+1) (n+1),.int .i64 0]/\
  H'=[.own (.slice (some ⟨g,0,none⟩) (n+1) (n+1)) 4 1 (n+1) (dK l)])\/
 (¬ aD N f/\v=.tuple #[.slice none 0 0,.int .i64 (eQ N f)]/\H'=[])\/(aD N f/\least<1/\v=.tuple #[.slice none 0 0,.int .i64 3]/\H'=[])
theorem IK(N:aR)(hN:N.Fits)(hR:N.Right)(A:OA_)(c b o:Nat)(hA:N.arcs≠[]->A=some ⟨b,o,none⟩)(f:LI_)(F:OA_)(cf bf of:Nat)(hF:f≠[]->F=some ⟨bf,of,none⟩)(hf:∀ x∈f,b9 x)(q2:f.length*8<=140737488351232)(least:Int)(_hl:b9 least)
 (n:Nat) (hn:N.nodes=n):Fn 46 [cd N A c,.slice F f.length cf,.int .i64 least] [] [.seg b o (arcs N.arcs),.seg bf of (aj f)] (LC N f least n):=by
 have hnn:=hR.nodes;have hS:=hR.len;refine aT Tryz.func46 λ w0=>?_;refine bA ?_;refine dh (cs:=bY N A c) λ p=>?_;refine aN ?_;refine CK<|rX ?_;refine dB (w8 N hN hR A c b o hA f F cf bf of hF hf q2) rfl ⟨bx 1 rfl,bx 2 rfl,be⟩ ?_;rintro v H' (⟨hW,A1,c1,rfl,rfl⟩|⟨hW,rfl,rfl⟩)
 case inr=>
  refine se ?_;refine ak rfl (λ h=>?_) (λ h=>absurd (de.1 (Nn.1 h)) hW);refine ao ?_;refine aL [] ⟨_,rfl,.inr (.inl ⟨hW,rfl,rfl⟩)⟩
 refine se ?_;refine ak rfl (λ h=>absurd rfl h) (λ _=>?_);refine ao ?_;refine ak rfl (λ h=>?_) (λ hle=>ag ?_)
 ·refine ao ?_;refine aL [] ⟨_,rfl,.inr (.inr ⟨hW,h,rfl,rfl⟩)⟩
 obtain⟨rm,hg⟩:∃ rm,rm=a9 (N.arcs.zip f):=⟨_,rfl⟩;have p2:rm.length=2*N.arcs.length:=by rw[hg,ee,O0,hW.len,Pm]
 rw[<- hg];refine qn ?_;refine aB 36 (v':=af ((n+1:Nat):Int)) rfl (M8 (Value.int .i64) ((cv (n:=N.nodes+1) aa).trans aa))<|cY (n:=n+1) (c:=n+1) rfl rfl rfl rfl rfl rfl aa aa aa aE λ g=>cS ?_;refine au ?_;rw[show made [Value.slice none 0 0] ((n+1)*1)=(List.replicate (n+1) ek).map cT by rw[db,NR,OH];rfl];refine bQ (aw.nils 3 (n+1)) ?_
 refine cN (σ:=Nat×List ff) (λ s=>[(40,af s.1),(39,af ((2*N.arcs.length:Nat):Int)),(38,.slice A1 (2*N.arcs.length) c1),(10,ax g 0 (n+1) (n+1)),(8,.slice A1 (2*N.arcs.length) c1),(3,ap p 0),(2,af least)])
  (λ s=>[.own (ax g 0 (n+1) (n+1)) 23 1 (n+1) (s.2.map cT),.own (.slice A1 (2*N.arcs.length) c1) 2 1 (2*N.arcs.length) (aj rm),blk p 33 (bY N A c),.seg b o (arcs N.arcs),.seg bf of (aj f)]++s.2.map (bg 3))
  (λ s=>s.1<=2*N.arcs.length/\s.2.length=n+1/\∀ (v:Nat) (r:ff),s.2[v]?=some r->r.l=tr N s.1 v) (λ s=>2*N.arcs.length-s.1)
  (0,List.replicate (n+1) ek) a8 aw.refl ⟨Nk _,ai,λ v r h=>?_⟩ ?_
 ·rw[Nt] at h;split at h
  ·simp only[Na] at h;subst h;rfl
  ·cases h
 rintro⟨k,rows⟩ ⟨hk,d,S⟩;simp only at hk d S ⊢;refine ao ?_;refine am (ak rfl (λ hlt=>ag ?_) (λ L=>aO ?_))
 ·have hlt:k<2*N.arcs.length:=by omega
  have he:=jG hR hlt;obtain⟨v,I⟩:∃ v:Nat,(dg N k).1=v:=⟨(dg N k).1.toNat,aa⟩;have U:v<rows.length:=aa;obtain⟨row,a⟩:∃ r,rows[v]?=some r:=⟨rows[v],an U⟩;have hs:=S v row a;have hlen:=oL N k v;rw[<- hs] at hlen;refine am (au ?_);refine mz ?_;refine bh (v:=cd N A c) 2 ?_;refine az ?_;refine cH (jw N A c b o hA hS k hlt) rfl ⟨bx 3 rfl,be⟩ ?_;refine aN ?_;refine bB 12 (v':=af (v:Int)) rfl (M8 (Value.int .i64) I)<|aI ?_;refine io ?_;refine aG (aA (v:=cT row) 0 rfl rfl rfl (show (rows.map cT)[v]?=some (cT row) by rw[Ni,a];rfl)) ?_;refine az ?_;refine dp λ g2=>?_;show JL _ _ _ _ _ ([_,_,_,_,_,_]++rows.map (bg 3));refine cK (aw.front (i:=v) (c:=bg 3 row) (by rw[Ni,a];rfl)) ?_;refine bp (n:=row.l.length) (m:=1) (off:=0) (news:=aj [(k:Int)]) 0 1 rfl rfl rfl rfl rfl rfl ab rfl rfl (aQ g2 _ _ (0,0)) aE rfl rfl aa aa (λ _ _=>rfl) λ A2 c2=>BE ?_;refine io ?_;refine aY 2 rfl rfl rfl rfl (fz rfl rfl rfl (by rw[Nj];omega)) [] rfl<|dw ?_;refine⟨(k+1,rows.set v ⟨A2,c2,row.l++[(k:Int)]⟩),⟨?_,rfl,rfl,rfl,rfl,rfl,rfl,be⟩,?_,⟨by simp only;omega,by simp only[NQ];omega,λ u r hu=>?_⟩,by simp only;omega⟩
  ·refine fJ ?_;rw[cv aa];rfl
  ·simp only[O1];refine aw.trans (aw.sub (List.Sublist.cons_cons _ (NU _ _))) (aw.back (A:=[_,_,_,_,_]) (by rw[Nj];exact U))
  ·rw[CS];by_cases k3:v=u
   ·subst k3;rw[No U] at hu;simp only[Na] at hu;rw[<- hu,if_pos I,hs]
   ·rw[Nq k3] at hu;rw[if_neg aa,NL];exact S u r hu
 ·have k0:k=2*N.arcs.length:=by omega
  subst k0
  have D:∀ w,dL w0 [] w ([.own (ax g 0 (n+1) (n+1)) 23 1 (n+1) (rows.map cT),.own (.slice A1 (2*N.arcs.length) c1) 2 1 (2*N.arcs.length) (aj rm),blk p 33 (bY N A c),.seg b o (arcs N.arcs),.seg bf of (aj f)]++rows.map (bg 3))->
   ∀ v:Nat,∃ H:Nat,∀ row,rows[v]?=some row->row.l.length<=row.c/\(aj row.l≠[]->row.A=aJ H 0):=by
   intro w hw v
   cases I:rows[v]? with
   |none=>exact⟨0,λ row h=>by cases h⟩
   |some row=>
    obtain⟨_,h2,h3,h4⟩:=aH (X:=⟨w0,[],⟨0,[]⟩⟩) (v+5) (show _=some (bg 3 row) by show (rows.map (bg 3))[v]?=_;rw[Ni,I];rfl) w hw;obtain⟨H,M⟩:=bo h3 h4;exact⟨H,λ a1 h=>by simp only[Na] at h;subst h;exact⟨h2,M⟩⟩
  refine aP D λ B=>?_;obtain⟨H,M⟩:∃ H:Nat->Nat,∀ (v:Nat) (row:ff),rows[v]?=some row->row.l.length<=row.c/\(aj row.l≠[]->row.A=aJ (H v) 0):=⟨λ v=>Classical.choose (B v),λ v=>Pf (B v)⟩;refine aP (aH 1 rfl) λ ⟨_,_,p8,_⟩=>?_
  clear B D
  have n2:=hR.src;obtain⟨s0,V⟩:∃ s:Nat,N.src=s:=⟨N.src.toNat,aa⟩;refine aI ?_;refine bh 2 ?_;refine az ?_;refine aB 62 (v':=af ((n+1:Nat):Int)) rfl (M8 (Value.int .i64) ((cv (n:=N.nodes+1) aa).trans aa))<|cY (n:=n+1) (c:=n+1) rfl rfl rfl rfl rfl rfl aa aa aa aE λ gm=>aN ?_;rw[B0];refine aI ?_;refine bh 3 ?_;refine aB 66 (v':=af (s0:Int)) rfl (M8 (Value.int .i64) V)<|io ?_;refine aY 0 rfl rfl rfl rfl (kt rfl eS) [] rfl<|ah<|aI ?_;refine bh 3 ?_;refine aB 69 (v':=af (s0:Int)) rfl (M8 (Value.int .i64) V)<|dp λ gw=>?_;refine iH ?_;refine CD<|bQ (λ w h=>h.blkOwn (sz:=1) (n:=1) rfl ab)<|gz ?_;have e2:∀ (v:Nat) (row:ff),rows[v]?=some row->row.l=tr N rm.length v:=λ v row h=>by rw[p2];exact S v row h
  refine cN (σ:=DS) (λ s=>[(15,.slice s.Aw s.wait.length s.cw),(14,ax gm 0 (n+1) (n+1)),(10,ax g 0 (n+1) (n+1)),(8,.slice A1 (2*N.arcs.length) c1),(3,ap p 0),(2,af least)])
   (λ s=>[.own (.slice s.Aw s.wait.length s.cw) 3 1 s.wait.length (aj s.wait),.own (ax gm 0 (n+1) (n+1)) 4 1 (n+1) (dK s.met),.own (ax g 0 (n+1) (n+1)) 23 1 (n+1) s.vals,
    .own (.slice A1 (2*N.arcs.length) c1) 2 1 (2*N.arcs.length) (aj rm),blk p 33 (bY N A c),.seg b o (arcs N.arcs),.seg bf of (aj f)]++rows.map (bg 3))
   (λ s=>xN N rm least rows n s0 H s) (λ s=>2*s.met.count false+s.wait.length)
   ⟨(List.replicate (n+1) false).set s0 true,aJ gw 0,1,[(s0:Int)],List.replicate (n+1) 0,rows.map cT⟩ a8 aw.refl ?_ ?_
  ·have ha:∀ v:Nat,((List.replicate (n+1) false).set s0 true)[v]?=some true->v=s0:=by
    intro v I;by_cases e:s0=v
    ·exact e.symm
    ·rw[Nq e,Nt] at I;split at I<;>simp at I
   have hH:((List.replicate (n+1) false).set s0 true)[s0]?=some true:=No eS;refine⟨ai,by simp[d],ai,λ v I=>?_,hH,λ x hx=>⟨s0,Nh.1 hx,aa,hH⟩,λ v row q Y K=>?_,λ v I hB row Y=>?_,?_,λ v row q Y K=>?_⟩
   ·obtain rfl:=ha v I;exact⟨aa,V▸tf.src⟩
   ·have:q=0:=by
     simp only[Nt] at K;split at K<;>simp at K
     exact K.symm
    subst this;exact⟨Nk _,λ j r hj=>absurd hj aa⟩
   ·obtain rfl:=ha v I;exact absurd ai hB
   ·have:=lU (List.replicate (n+1) false) s0 (by rw[Nt,if_pos aa]);have h2:(List.replicate (n+1) false).count false=n+1:=ai;simp only[NF];omega
   ·have:q=0:=by
     simp only[Nt] at K;split at K<;>simp at K
     exact K.symm
    subst this;refine⟨row.A,row.c,by simp only[Ni,Y];rfl,by have:=(M v row Y).1;omega,λ hp=>(M v row Y).2 (λ h0=>?_)⟩;have:row.l.length=0:=by rw[<- bU,h0];rfl
    omega
  intro s E;refine ao ?_;refine ak rfl (λ k4=>ag ?_) (λ k4=>aO ?_)
  ·have hL:0<s.wait.length:=by omega
   obtain⟨x,hx⟩:∃ x,s.wait[s.wait.length-1]?=some x:=⟨s.wait[s.wait.length-1]'aa,an aa⟩;obtain⟨v,rfl,U,b2⟩:=E.wait x (M9 hx)
   have O:s.wait=s.wait.take (s.wait.length-1)++[(v:Int)]:=by
    have:=Oh (s.wait.length-1) s.wait
    have hd:s.wait.drop (s.wait.length-1)=[(v:Int)]:=by
     obtain⟨h1,h2⟩:=Nb.1 hx;rw[N7 h1,h2,List.drop_of_length_le aa]
    rw[hd] at this;exact this.symm
   obtain⟨row,a⟩:∃ row,rows[v]?=some row:=⟨rows[v]'aa,an aa⟩;have P:=oL N rm.length v;rw[<- e2 v row a] at P;obtain⟨q,K⟩:∃ q,s.pos[v]?=some q:=⟨s.pos[v]'(by have:=E.pl;omega),an (by have:=E.pl;omega)⟩;obtain⟨A',c',k2,l2,r1⟩:=E.val v row q a K;obtain⟨p4,e1⟩:=E.done v row q a K;refine aP (aH 0 rfl) λ ⟨_,hwc,Z,_⟩=>?_;obtain⟨q1,Z⟩:=Z hL;have hwb:=E.wl;refine au<|aI ?_;refine aB 77 (v':=af ((s.wait.length-1:Nat):Int)) rfl (M8 (Value.int .i64) ((cv (n:=(s.wait.length:Int)-1) aa).trans aa))<|aG (ij (b:=q1) (by rfl) (by rw[Z];rfl) rfl rfl rfl aa) ?_;refine aG (dW (b:=q1) (off:=0) (i:=s.wait.length-1) (cs:=aj s.wait) (v:=af (v:Int)) 0 rfl (by rw[NO];rfl) rfl (bi (λ _=>Z)) (ep hx)) ?_;refine ew ?_;refine io ?_;refine aG (aA (v:=.slice A' (row.l.length-q) c') 2 rfl rfl rfl k2) ?_;refine jb ?_
   refine cN (σ:=Nat) (λ i=>[(85,af i),(84,af ((row.l.length-q:Nat):Int)),(83,.slice A' (row.l.length-q) c'),(16,af (v:Int)),(15,.slice s.Aw s.wait.length s.cw),(14,ax gm 0 (n+1) (n+1)),(10,ax g 0 (n+1) (n+1)),(8,.slice A1 (2*N.arcs.length) c1),(3,ap p 0),(2,af least)])
    (λ _=>[.own (.slice s.Aw s.wait.length s.cw) 3 1 s.wait.length (aj s.wait),.own (ax gm 0 (n+1) (n+1)) 4 1 (n+1) (dK s.met),.own (ax g 0 (n+1) (n+1)) 23 1 (n+1) s.vals,
     .own (.slice A1 (2*N.arcs.length) c1) 2 1 (2*N.arcs.length) (aj rm),blk p 33 (bY N A c),.seg b o (arcs N.arcs),.seg bf of (aj f)]++rows.map (bg 3))
    (λ i=>i<=row.l.length-q/\∀ (j:Nat) (r:Int),j<q+i->row.l[j]?=some r->Fx N rm least s.met r) (λ i=>row.l.length-q-i)
    0 a8 aw.refl ⟨Nk _,λ j r hj=>e1 j r aa⟩ ?_
   rintro i ⟨hi,C⟩;refine ao ?_;refine am (ak rfl (λ hlt=>ag ?_) (λ L=>aO ?_))
   ·have hlt:i<row.l.length-q:=by omega
    obtain rfl:=r1 aa;obtain⟨y,hy⟩:∃ y,row.l[q+i]?=some y:=⟨row.l[q+i]'aa,an aa⟩;have Q:=M9 hy;rw[e2 v row a] at Q;obtain⟨r,Y,l1,rfl⟩:=xi.1 Q;have n1:r<2*N.arcs.length:=aa;have hin:=jG hR n1;obtain⟨t,ht⟩:∃ t:Nat,(dg N r).2=t:=⟨(dg N r).2.toNat,aa⟩;have h6:t<=n:=aa;obtain⟨x,h5⟩:∃ x,rm[r]?=some x:=⟨rm[r],an Y⟩;have hG:rm.getD r 0=x:=by rw[Nc,h5];rfl
    obtain⟨bt,hb⟩:∃ bt,s.met[t]?=some bt:=⟨s.met[t]'(by have:=E.ml;omega),an (by have:=E.ml;omega)⟩;obtain⟨gr,rfl⟩:=p8 aa
    have hc:aj row.l≠[]:=by
     intro h0;have:row.l.length=0:=by rw[<- bU,h0];rfl
     omega
    have r2:=(M v row a).2 hc;refine am (au ?_);refine jc ?_
    refine ae [] (dW (b:=H v) (off:=q) (i:=i) (cs:=(aj row.l).drop q) (v:=af (r:Int)) (c:=bg 3 row) (v+7) rfl rfl (show (rows.map (bg 3))[v]?=_ by rw[List.getElem?_map,a];rfl)
     (by have:=dI (bi (e:=3) (sz:=1) (n:=row.l.length) (cap:=row.c) (λ _=>r2:aj row.l≠[]->row.A=aJ (H v) 0)) q;rw[NO] at this;exact this)
     (by show ((aj row.l).drop q)[i]?=_;rw[Og];exact ep hy)) rfl ?_
    refine fR ?_;refine bh (v:=cd N A c) 4 ?_;refine az ?_;refine cH (jw N A c b o hA hS r n1) rfl ⟨bx 5 rfl,be⟩ ?_;refine aN ?_;refine bB 20 (v':=af (t:Int)) rfl (M8 (Value.int .i64) ht)<|aI ?_;refine io ?_;refine aG (aA 3 rfl rfl rfl (b7 h5)) ?_;refine az ?_
    have R:Fx N rm least s.met (r:Int)->∀ (j:Nat) (z:Int),j<q+(i+1)->row.l[j]?=some z->Fx N rm least s.met z:=by
     intro b1 j z hj hz;by_cases e:j=q+i
     ·subst e;rw[hy] at hz;simp only[Na] at hz;rw[<- hz];exact b1
     ·exact C j z aa hz
    by_cases L:least<=x
    ·refine d7 102 rfl L<|bX [6] ?_;refine ae [6] (bG rfl aa) rfl<|ae [6] (aA 1 rfl rfl rfl (show (dK s.met)[t]?=some (.bool bt) from iC hb)) rfl<|cX [6] ?_
     cases bt with
     |true=>
      refine bu rfl (ag ?_);refine ao ?_;refine⟨i+1,⟨?_,rfl,rfl,rfl,rfl,rfl,rfl,rfl,rfl,rfl,be⟩,aw.refl,⟨aa,R (.inr ⟨t,by rw[Nz];exact ht,hb⟩)⟩,aa⟩;refine nb ?_;rw[cv aa];rfl
     |false=>
      refine pZ ?_;refine io ?_;refine aY 1 rfl rfl rfl rfl (kt rfl (by have:=E.ml;omega)) [] rfl<|fw ?_;refine bK 15 (dS [0,1,2,3,6,7,8,9,10,11,12]++[(4,false),(5,false)]++dS [13,14]) [2] aW ab rfl<|a6 ?_;refine nJ ?_;refine bc rfl (aA (v:=ax (H v) q (row.l.length-q) c') 0 rfl rfl rfl k2) ?_;refine a6 ?_;refine dG 123 (v':=af ((i+1:Nat):Int)) rfl (M8 (Value.int .i64) (cv aa))<|bc rfl (f0 rfl rfl rfl rfl rfl aa) ?_;refine dG 124 (v':=.slice (fT (aJ (H v) q) c' (i+1) 1) (row.l.length-(q+i+1)) (c'-(i+1))) rfl (by congr 1;omega)<|cz ?_;refine dp λ gx=>?_;refine bZ [3]<|cz ?_;refine bp (n:=s.wait.length) (m:=1) (off:=0) (news:=aj [(t:Int)]) 1 0 rfl rfl rfl rfl rfl rfl ab rfl rfl (aQ gx _ _ (0,0)) aE rfl rfl aa aa (λ _ _=>rfl) λ A2 c2=>bZ [3]<|?_;rw[show s.wait.length+1=(s.wait++[(t:Int)]).length by simp,show aj s.wait++aj [(t:Int)]=aj (s.wait++[(t:Int)]) by simp[aj]];refine a6 ?_;refine nJ ?_;refine cP<|aY 3 rfl rfl rfl rfl (fz rfl rfl rfl (by have:=E.vl;omega)) [] rfl<|ah<|aO<|⟨⟨s.met.set t true,A2,c2,s.wait++[(t:Int)],s.pos.set v (q+i+1),s.vals.set v (.slice (fT (aJ (H v) q) c' (i+1) 1) (row.l.length-(q+i+1)) (c'-(i+1)))⟩,a8,aw.sub (NU _ _),?_,?_⟩
      ·refine E.push b2 a C hy l1 ht h6 Y (by rw[hG];exact L) hb aa (λ hp=>?_) A2 c2;have:=e8 (A:=aJ (H v) q) (c:=c') (l:=i+1) (n:=row.l.length-q) (sz:=1) aE l2 aa;rw[this];simp[N3]
      ·have:=lU s.met t hb;refine z8 ?_;omega
    ·refine dD 102 rfl L<|cX [6] ?_;refine bu rfl (ag ?_);refine ao ?_;refine⟨i+1,⟨?_,rfl,rfl,rfl,rfl,rfl,rfl,rfl,rfl,rfl,be⟩,aw.refl,⟨aa,R (.inl (by rw[Nz,hG];omega))⟩,aa⟩;refine nb ?_;rw[cv aa];rfl
   ·have s3:∀ z∈row.l,Fx N rm least s.met z:=by
     intro z hz;obtain⟨j,hj,rfl⟩:=NT.1 hz;exact C j _ aa (an hj)
    refine aI ?_;refine aB 130 (v':=af ((s.wait.length-1:Nat):Int)) rfl (M8 (Value.int .i64) ((cv (n:=(s.wait.length:Int)-1) aa).trans aa))<|aG (jO rfl rfl rfl rfl rfl aa) ?_;refine Eg (m:=s.wait.length-1) 0 rfl aa ?_;rw[NR,show (aj s.wait).take (s.wait.length-1)=aj (s.wait.take (s.wait.length-1)) by simp[aj]];refine aN ?_;have ho:(s.wait.take (s.wait.length-1)).length=s.wait.length-1:=by rw[ND];omega
    refine⟨⟨s.met,s.Aw,s.cw,s.wait.take (s.wait.length-1),s.pos,s.vals⟩,⟨by simp only[ho];rfl,rfl,rfl,rfl,rfl,rfl,be⟩,by simp only[ho];exact aw.refl,E.pop O a s3 _ _,by simp only[ho];omega⟩
  ·have hV:s.wait=[]:=Nw.1 aa;refine ao ?_;refine aL [1] ⟨_,rfl,.inl ⟨hW,aa,s.met,gm,E.ml,λ v=>?_,rfl,rfl⟩⟩;rw[<- hg];exact E.final hV V d e2 (λ r Y=>⟨(dg N r).1.toNat,by have:=jG hR (show r<2*N.arcs.length by omega);omega⟩) v
end Go.Proofs.YtmcnpaelaieniaaGreatDoor
