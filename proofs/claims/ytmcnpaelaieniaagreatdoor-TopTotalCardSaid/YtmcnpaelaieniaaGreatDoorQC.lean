import Derived.Test.YtmcnpaelaieniaaGreatDoorQG
/- A part of the proof. -/
set_option linter.unusedVariables false
set_option linter.unusedSimpArgs false
set_option maxHeartbeats 8000000
namespace Go.Proofs.YtmcnpaelaieniaaGreatDoor
open Go.RowKit
structure aV.Fits (N:aV):Prop where
 nodes:b7 N.nodes
 src:b7 N.src
 snk:b7 N.snk
 len:N.arcs.length*24<=140737488351232
 arc:∀ a∈N.arcs,b7 a.fr/\b7 a.to/\b7 a.cap
theorem ox(N:aV)(C:N.Fits)(A:OA_)(c b o:Nat)(F:N.arcs≠[]->A=some ⟨b,o,none⟩):Fn 26 [bZ N A c] [] [.seg b o (arcs N.arcs)] λ v H'=>v=.int .i64 (de N)/\H'=[]:=by
 have H:=C.len;refine aT Tryz.func26 λ w0=>?_;refine bu ?_;refine cY (cs:=bU N A c) λ p=>?_;refine qg ?_;refine jh ?_;refine az ?_;by_cases r:N.nodes<2
 ·refine dt 14 rfl r<|cW [3] ?_;refine eu ?_;refine aM [] ⟨_,rfl,?_,rfl⟩;unfold de;rw[if_pos (.inl r)];rfl
 refine dc 14 rfl r<|ek ?_;refine ae [3] (ad 0 rfl) rfl<|cW [3] ?_;refine ak rfl (λ D=>?_) (λ D=>?_)
 ·refine ao ?_;refine aM [] ⟨_,rfl,?_,rfl⟩;unfold de;rw[if_pos (.inr D)];rfl
 have f:¬ (N.nodes<2\/500<N.nodes):=aa;refine jh ?_;refine cj (rF N A c p N.src) rfl ⟨ew 0 rfl,an⟩ ?_;refine az ?_;by_cases g:j1 N N.src
 case neg=>
  refine aA 25 (v':=.bool true) rfl (Na Value.bool (by rw[aU g];rfl))<|cW [5] ?_;refine eu ?_;refine aM [] ⟨_,rfl,?_,rfl⟩;unfold de;rw[if_neg f,if_pos (λ t=>g t.1)];rfl
 refine aA 25 (v':=.bool false) rfl (Na Value.bool (by rw[aQ g];rfl))<|bp [5] ?_;refine ae [5] (ad 0 rfl) rfl<|bA [5] (rF N A c p N.snk) rfl rfl rfl rfl aX ⟨ew 0 rfl,an⟩ aK<|kD ?_;refine bp [5] ?_;by_cases i:j1 N N.snk
 case neg=>
  refine aA 19 (v':=.bool true) rfl (Na Value.bool (by rw[aU i];rfl))<|ah<|eu ?_;refine aM [] ⟨_,rfl,?_,rfl⟩;unfold de;rw[if_neg f,if_pos (λ t=>i t.2)];rfl
 refine aA 19 (v':=.bool false) rfl (Na Value.bool (by rw[aQ i];rfl))<|ah<|bo rfl<|?_;have c2:¬ ¬ (j1 N N.src/\j1 N N.snk):=λ h=>h ⟨g,i⟩;refine jh ?_;refine az ?_;refine bj 0 ?_;refine aN ?_;refine ak rfl (λ j=>?_) (λ j=>?_)
 ·refine ao ?_;refine aM [] ⟨_,rfl,?_,rfl⟩;unfold de;rw[if_neg f,if_neg c2,if_pos j];rfl
 refine jh ?_;refine aN ?_;refine ak rfl (λ I=>?_) (λ I=>ag ?_)
 ·refine ao ?_;refine aM [] ⟨_,rfl,?_,rfl⟩;unfold de;rw[if_neg f,if_neg c2,if_neg j,if_pos aa];rfl
 have u:de N=kE N 0 N.arcs:=by unfold de;rw[if_neg f,if_neg c2,if_neg j,if_neg aa]
 rw[u];refine c9 ?_;refine bj 0 ?_;refine iZ ?_
 refine bP (σ:=Nat×Int) (λ s=>[(46,af s.1),(45,af N.arcs.length),(44,.slice A N.arcs.length c),(4,af s.2),(3,.func (.func 49) #[] #[ap p 0]),(1,ap p 0)])
  (λ s=>[blk p 33 (bU N A c),.seg b o (arcs N.arcs)]) (λ s=>s.1<=N.arcs.length/\b7 s.2/\kE N 0 N.arcs=kE N s.2 (N.arcs.drop s.1)) (λ s=>N.arcs.length-s.1)
  (0,0) [0,1] a7 ab rfl ⟨Nl _,ab,rfl⟩ ?_
 rintro⟨k,n⟩ ⟨K,E,a⟩;simp only at K E a ⊢;refine ao ?_;refine am (ak rfl (λ hlt=>ag ?_) (λ L=>aO ?_))
 ·have hlt:k<N.arcs.length:=by omega
  obtain rfl:=F (by intro h;rw[h] at hlt;simp at hlt);obtain⟨x,w⟩:∃ x,N.arcs[k]?=some x:=⟨N.arcs[k],be hlt⟩;have y:=C.arc x (Nb w)
  have M:N.arcs.drop k=x::N.arcs.drop (k+1):=by
   obtain⟨_,rfl⟩:=Ng.1 w;rw[N5 hlt]
  rw[M,kE] at a;refine am (aq ?_);refine uh ?_;refine aF (aZ 1 rfl rfl (gU w)) ?_;refine dD λ q=>?_;refine iA ?_;refine jh ?_;refine cj (Ir E y.2.2) rfl an ?_;refine im ?_;refine jh ?_;refine cj (rF N (aL b o) c p x.fr) rfl ⟨ew 1 rfl,an⟩ ?_;refine az ?_;by_cases l:j1 N x.fr
  case neg=>
   refine aA 63 (v':=.bool true) rfl (Na Value.bool (by rw[aU l];rfl))<|cW [5] ?_;refine eu ?_;refine aM [] ⟨_,rfl,?_,rfl⟩;rw[a,if_pos (λ h=>l h.1)];rfl
  refine aA 63 (v':=.bool false) rfl (Na Value.bool (by rw[aQ l];rfl))<|bp [5] ?_;refine ae [5] (ad 0 rfl) rfl<|bA [5] (rF N (aL b o) c p x.to) rfl rfl rfl rfl aX ⟨ew 1 rfl,an⟩ aK<|kD ?_;refine bp [5] ?_;by_cases m:j1 N x.to
  case neg=>
   refine aA 57 (v':=.bool true) rfl (Na Value.bool (by rw[aU m];rfl))<|ah<|eu ?_;refine aM [] ⟨_,rfl,?_,rfl⟩;rw[a,if_pos (λ h=>m h.2)];rfl
  refine aA 57 (v':=.bool false) rfl (Na Value.bool (by rw[aQ m];rfl))<|ah<|bo rfl<|?_;rw[if_neg (λ h=>h ⟨l,m⟩)] at a;refine jh ?_;refine aN ?_;refine ak rfl (λ z=>?_) (λ z=>?_)
  ·refine ao ?_;refine aM [] ⟨_,rfl,?_,rfl⟩;rw[a,if_pos z];rfl
  rw[if_neg z] at a;by_cases d:b7 (n+x.cap)
  case neg=>
   rw[Es d];refine aI ?_;refine dt 77 rfl ai<|cW [2] ?_;refine eu ?_;refine aM [] ⟨_,rfl,?_,rfl⟩;rw[a,if_pos (.inl d)];rfl
  rw[yo d];refine aI ?_;refine dc 77 rfl ai<|cW [2] ?_;refine ak rfl (λ e=>?_) (λ e=>ag ?_)
  ·refine ao ?_;refine aM [] ⟨_,rfl,?_,rfl⟩;rw[a,if_pos (.inr e)];rfl
  rw[if_neg (λ h=>h.elim (λ h=>h d) e)] at a;refine ja ?_;refine⟨(k+1,n+x.cap),[1,2],⟨?_,rfl,rfl,rfl,rfl,rfl,an⟩,ab,rfl,⟨by simp only;omega,d,a⟩,by simp only;omega⟩;refine fy ?_;rw[cp aa];rfl
 ·have B:k=N.arcs.length:=by omega
  subst B;rw[List.drop_length,kE] at a;refine ao ?_;refine aM [] ⟨_,rfl,by rw[a];rfl,rfl⟩
theorem sJ(N:aV):∀ (l:List ej) (s:Int),0<=s->s<=4611686018427387903->kE N s l=0->(∀ a∈l,(1<=a.fr/\a.fr<=N.nodes)/\(1<=a.to/\a.to<=N.nodes)/\0<=a.cap)/\s+(l.map (·.cap)).sum<=4611686018427387903
 |[],s,_,h,_=>⟨λ a e=>(by cases e),by simpa using h⟩
 |a::l,s,i,j,b=>by
  rw[kE] at b;split at b
  ·simp at b
  ·rename_i f;split at b
   ·simp at b
   ·rename_i k;split at b
    ·simp at b
    ·rename_i m;obtain⟨g,i2⟩:=sJ N l (s+a.cap) aa aa b;have c:=Classical.not_not.1 f;refine⟨fun x d=>?_,by simp only[List.map_cons,List.sum_cons];omega⟩
     rcases Nn.1 d with rfl|d
     ·exact⟨c.1,c.2,aa⟩
     ·exact g x d
theorem iB{N:aV}(h:de N=0):N.Right:=by
 unfold de at h;split at h
 ·simp at h
 ·rename_i e;split at h
  ·simp at h
  ·rename_i b;split at h
   ·simp at h
   ·rename_i c;split at h
    ·simp at h
    ·rename_i f;have a:=No.1 b;obtain⟨d,i2⟩:=sJ N N.arcs 0 aa aa h;exact⟨aa,a.1,a.2,c,aa,d,aa⟩
def kx(l:LI_)(a:ej)(f:Int):LI_:=
 let l1:=l.set a.fr.toNat (IntKind.i64.wrap (l.getD a.fr.toNat 0-f))
 l1.set a.to.toNat (IntKind.i64.wrap (l1.getD a.to.toNat 0+f))
def ya(n:Nat)(al:List ej)(fs:LI_):LI_:=(al.zip fs).foldl (λ l p=>kx l p.1 p.2) (List.replicate (n+1) 0)
theorem pA(l:LI_)(a:ej)(f:Int):(kx l a f).length=l.length:=by simp[kx]
theorem qj(n:Nat)(a:List ej)(fs:LI_):(ya n a fs).length=n+1:=by
 unfold ya
 have:∀ (ps:List (ej×Int)) (l:LI_),(ps.foldl (λ l p=>kx l p.1 p.2) l).length=l.length:=by
  intro ps
  induction ps with
  |nil=>intro l;rfl
  |cons p ps b=>intro l;simp[b,pA]
 rw[this];simp
theorem Ft(n:Nat){b:List ej}{fs:LI_}{k:Nat}{a:ej}{f:Int}(d:b[k]?=some a)(e:fs[k]?=some f):ya n (b.take (k+1)) fs=kx (ya n (b.take k) fs) a f:=by
 have j:b.take (k+1)=b.take k++[a]:=by
  obtain⟨h,rfl⟩:=Ng.1 d;rw[List.take_succ_eq_append_getElem h]
 have g:(b.take k).length=k:=by
  obtain⟨h,_⟩:=Ng.1 d;simp;omega
 have i:fs=fs.take k++f::fs.drop (k+1):=by
  obtain⟨h,rfl⟩:=Ng.1 e;simp
 have c:(fs.take k).length=k:=by
  obtain⟨h,_⟩:=Ng.1 e;simp;omega
 unfold ya;rw[j]
 conv=>lhs;rw[i]
 conv=>rhs;rw[i]
 rw[List.zip_append (by rw[g,c]),O3]
 have:(b.take k).zip (fs.take k++f::fs.drop (k+1))=(b.take k).zip (fs.take k):=by
  conv=>lhs;rw[<- NN (b.take k)]
  rw[List.zip_append (by rw[g,c])];simp
 rw[this];simp
theorem sV(n:Nat)(src snk:Int)(A F:OA_)(r cf i j l of:Nat)(b:List ej)(fs:LI_)(I:n<=500)(z:b≠[]->A=some ⟨i,j,none⟩)(B:b≠[]->F=some ⟨l,of,none⟩)
 (hl:fs.length=b.length) (hlen:b.length<=2000) (m:∀ a∈b,0<=a.fr/\a.fr<=n/\0<=a.to/\a.to<=n):
 Fn 40 [.agg #[.int .i64 n,.int .i64 src,.int .i64 snk,.slice A b.length r],.slice F b.length cf] [] [.seg i j (arcs b),.seg l of (aj fs)]
  (λ v H'=>∃ g,v=.slice (some ⟨g,0,none⟩) (n+1) (n+1)/\H'=[.own v 2 1 (n+1) (aj (ya n b fs))]):=by
 refine aT Tryz.func40 λ w0=>?_;refine am (aE ?_);refine cY λ K=>?_;refine aN ?_;refine am (aE ?_);refine az ?_;refine bj 0 ?_;refine az ?_;rw[cp (n:=(n:Int)+1) aa];refine cX (n:=n+1) (c:=n+1) rfl rfl rfl rfl rfl rfl aa aa aa aK λ g=>aN ?_;refine am (am (aE ?_));refine az ?_;refine bj 1 ?_;refine aN ?_;rw[oS];refine aq ?_
 refine bP (σ:=Nat) (λ k=>[(15,af k),(14,af b.length),(13,.slice A b.length r),(5,ax g 0 (n+1) (n+1)),(1,.slice F b.length cf)])
  (λ k=>[.own (ax g 0 (n+1) (n+1)) 2 1 (n+1) (aj (ya n (b.take k) fs)),.seg i j (arcs b),.seg l of (aj fs)]) (λ k=>k<=b.length) (λ k=>b.length-k)
  0 [0,2,3] a7 ab (by rw[List.take_zero];rfl) (Nl _) λ k L=>?_
 refine am (aE (db [] rfl ?_));refine am (ak rfl (λ hlt=>ag ?_) (λ C=>aO ?_))
 ·have hlt:k<b.length:=by omega
  have d:b≠[]:=by rintro rfl;simp at hlt
  obtain rfl:=z d;obtain rfl:=B d;refine am (aq (am (aE ?_)));refine az ?_;refine aF (jc rfl hlt) ?_;obtain⟨⟨fr,tz,cap⟩,o⟩:∃ a,b[k]?=some a:=⟨b[k],be hlt⟩;obtain⟨f,p⟩:∃ f,fs[k]?=some f:=⟨fs[k],be aa⟩;obtain⟨s,D,t,E⟩:=m _ (Nb o);simp only at s D t E;obtain⟨fr,rfl⟩:=O4 s;obtain⟨tz,rfl⟩:=O4 t;refine aF (aZ 1 rfl rfl (gU o)) ?_;refine dD λ M=>?_;refine mx ?_;refine am (CF 11 aX ?_);refine KW ?_;have H:=qj n (b.take k) fs;obtain⟨x,u⟩:∃ x,(ya n (b.take k) fs)[fr]?=some x:=⟨_,be aa⟩;refine Ce ?_;refine ou [] (aw 1 rfl rfl rfl (bQ u)) rfl<|GI ?_;refine ou [] (aZ 3 rfl rfl (bQ p)) rfl<|um [] rfl<|Ce ?_;refine HI<|aW 1 rfl rfl rfl rfl (fh rfl aa) [] rfl<|ah<|CF 11 aX<|?_;obtain⟨y,w⟩:∃ y,((ya n (b.take k) fs).set fr (IntKind.i64.wrap (x-f)))[tz]?=some y:=⟨_,be eK⟩;refine KW ?_;refine Ce ?_;refine ou [] (aw 1 rfl rfl rfl (bQ w)) rfl<|GI ?_;refine ou [] (aZ 3 rfl rfl (bQ p)) rfl<|um [] rfl<|Ce ?_;refine HI<|aW 1 rfl rfl rfl rfl (fh rfl eK) [] rfl<|ah<|aE (db [] rfl ?_);refine⟨k+1,[1,2,3],⟨?_,rfl,rfl,rfl,rfl,an⟩,ab,?_,aa,aa⟩
  ·refine fy ?_;rw[cp aa];rfl
  ·rw[Ft n o p]
   have e:kx (ya n (b.take k) fs) ⟨fr,tz,cap⟩ f=((ya n (b.take k) fs).set fr (IntKind.i64.wrap (x-f))).set tz (IntKind.i64.wrap (y+f)):=by
    simp only[kx,NA,Nf,u,NL,w]
   rw[e];rfl
 ·refine am (aE (db [] rfl ?_));refine aM [0] ?_;have q:k=b.length:=aa;subst q;exact⟨_,rfl,g,rfl,by rw[NH];rfl⟩
open Classical in
noncomputable def iq(N:aV)(f:LI_):Int:=if f.length≠N.arcs.length then 6 else if ∀ p∈N.arcs.zip f,0<=p.2/\p.2<=p.1.cap then 0 else 3
theorem Ev(N:aV)(hN:N.Fits)(hR:N.Right)(A:OA_)(c b o:Nat)(hA:N.arcs≠[]->A=some ⟨b,o,none⟩)(f:LI_)(F:OA_)(cf j of:Nat)(t:f≠[]->F=some ⟨j,of,none⟩)(C:∀ x∈f,b7 x)(u:f.length*8<=140737488351232):
 Fn 77 [bZ N A c,.slice F f.length cf] [] [.seg b o (arcs N.arcs),.seg j of (aj f)] λ v H'=>v=.int .i64 (iq N f)/\H'=[]:=by
 have w:=hN.len;refine aT Tryz.func77 λ w0=>?_;refine bu ?_;refine cY (cs:=bU N A c) λ p=>?_;refine zO ?_;refine ak rfl (λ h=>absurd rfl h) (λ _=>ag ?_);refine jh ?_;refine aN ?_;refine ak rfl (λ h=>?_) (λ h=>ag ?_)
 ·refine ao ?_;refine aM [] ⟨_,rfl,?_,rfl⟩;unfold iq;rw[if_pos aa];rfl
 have hlen:f.length=N.arcs.length:=aa;refine jn ?_
 refine bP (σ:=Nat) (λ k=>[(21,af k),(20,af f.length),(19,.slice F f.length cf),(2,ap p 0)])
  (λ k=>[blk p 33 (bU N A c),.seg b o (arcs N.arcs),.seg j of (aj f)]) (λ k=>k<=f.length/\∀ q∈(N.arcs.zip f).take k,0<=q.2/\q.2<=q.1.cap) (λ k=>f.length-k)
  0 [0,1,2] a7 ab rfl ⟨Nl _,λ q e=>by simp at e⟩ ?_
 rintro k ⟨D,d⟩;refine ao ?_;refine am (ak rfl (λ hlt=>ag ?_) (λ y=>aO ?_))
 ·have hlt:k<f.length:=by omega
  obtain rfl:=t (by rintro rfl;simp at hlt)
  obtain rfl:=hA (by intro h;have l:N.arcs.length=0:=by rw[h];rfl
                     omega)
  obtain⟨x,n⟩:∃ x,f[k]?=some x:=⟨f[k],be hlt⟩;obtain⟨a,r⟩:∃ a,N.arcs[k]?=some a:=⟨N.arcs[k],be aa⟩;obtain⟨_,_,i⟩:=gF r;have s:(N.arcs.zip f)[k]?=some (a,x):=by simp[N0,r,n]
  have g:¬ (0<=x/\x<=a.cap)->iq N f=3:=by
   intro z;unfold iq;rw[if_neg aa,if_neg (λ d=>z (d _ (Nb s)))]
  refine am (aq ?_);refine iz ?_;refine aF (aZ 2 rfl rfl (bQ n)) ?_;refine dQ ?_;by_cases l:x<0
  ·refine dt 28 rfl l<|cW [2] ?_;refine eu ?_;refine aM [] ⟨_,rfl,by rw[g aa];rfl,rfl⟩
  refine dc 28 rfl l<|eq ?_;refine ae [2] (ad 0 rfl) rfl<|eq ?_;refine ae [2] (jc rfl aa) rfl<|eq ?_;refine ae [2] (aZ 1 rfl rfl i) rfl<|cW [2] ?_;refine ak rfl (λ B=>?_) (λ B=>ag ?_)
  ·refine ao ?_;refine aM [] ⟨_,rfl,by rw[g aa];rfl,rfl⟩
  refine ao ?_;refine⟨k+1,[0,1,2],⟨?_,rfl,rfl,rfl,an⟩,ab,rfl,⟨aa,λ q e=>?_⟩,aa⟩
  ·refine fy ?_;rw[cp aa];rfl
  ·rw[Nu,s] at e
   rcases Np.1 e with e|e
   ·exact d q e
   ·simp only[P2,Ni] at e;subst e;simp only;omega
 ·have m:k=f.length:=by omega
  subst m;refine ao ?_;refine aM [] ⟨_,rfl,?_,rfl⟩;unfold iq;rw[if_neg aa,if_pos (λ q e=>d q (by rw[Oh eK];exact e))];rfl
def dH(ps:List (ej×Int))(v:Int):Int:=(ps.map λ p=>(if p.1.to=v then p.2 else 0)-(if p.1.fr=v then p.2 else 0)).sum
theorem Bq{l:LI_}{a:ej}{f:Int}{B:Int}(e:∀ v:Nat,-B<=l.getD v 0/\l.getD v 0<=B)(k:0<=f)(m:B+f<=9000000000000000000)(g:0<=a.fr/\a.fr<l.length)(i:0<=a.to/\a.to<l.length)(v:Nat):
 (kx l a f).getD v 0=l.getD v 0+((if a.to=v then f else 0)-(if a.fr=v then f else 0)):=by
 obtain⟨fr,tz,cap⟩:=a;obtain⟨fr,rfl⟩:=O4 g.1;obtain⟨tz,rfl⟩:=O4 i.1;simp only[kx,NA];have c:fr<l.length:=by have:=g.2;simp only at this;omega
 have d:tz<l.length:=by have:=i.2;simp only at this;omega
 have b:∀ v,(l.set fr (IntKind.i64.wrap (l.getD fr 0-f))).getD v 0=l.getD v 0-(if fr=v then f else 0):=by
  intro v;by_cases h:fr=v
  ·subst h;have:=e fr;rw[if_pos rfl,Nf,Nq c,NL,cp aa]
  ·rw[if_neg h,Nf,Ns h,Nf];omega
 by_cases h:tz=v
 ·subst h;have j:=b tz;have:=e tz;rw[Nf,Nq (by simpa using d),NL,j,cp (by split<;>omega)];simp only[Int.natCast_inj,O7];omega
 ·rw[Nf,Ns h,<- Nf,b v];simp only[Int.natCast_inj];rw[if_neg h];omega
theorem Ck(n:Nat):∀ (ps:List (ej×Int)) (l:LI_) (B:Int),l.length=n+1->(∀ v:Nat,-B<=l.getD v 0/\l.getD v 0<=B)->(∀ p∈ps,0<=p.2/\(0<=p.1.fr/\p.1.fr<=n)/\(0<=p.1.to/\p.1.to<=n))->B+(ps.map (·.2)).sum<=9000000000000000000->
 ∀ v:Nat,(ps.foldl (λ l p=>kx l p.1 p.2) l).getD v 0=l.getD v 0+dH ps v
 |[],l,B,_,_,_,_,v=>by simp[dH]
 |p::ps,l,B,hl,d,hp,e,v=>by
  obtain⟨g,m,o⟩:=hp p ai
  have i:0<=(ps.map (·.2)).sum:=by
   have:∀ (ps:List (ej×Int)),(∀ p∈ps,0<=p.2)->0<=(ps.map (·.2)).sum:=by
    intro ps
    induction ps with
    |nil=>intro _;simp
    |cons q ps j=>intro h;have:=j λ a k=>h a (by simp[k]);have:=h q ai;simp only[Nv,ND];omega
   exact this ps λ q c=>(hp q (by simp[c])).1
  simp only[Nv,ND] at e;have b:=Bq (l:=l) (a:=p.1) (f:=p.2) d g aa aa aa;rw[OH,Ck n ps (kx l p.1 p.2) (B+p.2) (by rw[pA];exact hl) (λ v=>?_) (λ q c=>hp q (by simp[c])) aa v,b v]
  ·simp only[dH,Nv,ND];omega
  ·rw[b v];have:=d v;split<;>split<;>omega
theorem Je(n:Nat)(a:List ej)(fs:LI_)(hp:∀ p∈a.zip fs,0<=p.2/\(0<=p.1.fr/\p.1.fr<=n)/\(0<=p.1.to/\p.1.to<=n))(c:((a.zip fs).map (·.2)).sum<=9000000000000000000)(v:Nat):(ya n a fs).getD v 0=dH (a.zip fs) v:=by
 unfold ya
 have b:∀ v,(List.replicate (n+1) (0:Int)).getD v 0=0:=by
  intro v;rw[Nf,Nw];split<;>rfl
 rw[Ck n (a.zip fs) _ 0 ai (λ v=>by rw[b];omega) hp aa v,b];omega
structure Ranged (N:aV) (f:LI_):Prop where
 len:f.length=N.arcs.length
 all:∀ p∈N.arcs.zip f,0<=p.2/\p.2<=p.1.cap
theorem j7{N:aV}{f:LI_}:iq N f=0↔Ranged N f:=by
 unfold iq
 constructor
 ·intro h;split at h
  ·simp at h
  ·rename_i b;split at h
   ·rename_i a;exact⟨aa,a⟩
   ·simp at h
 ·rintro⟨b,a⟩;rw[if_neg aa,if_pos a]
theorem pX:∀ (b:List ej) (fs:LI_),(∀ p∈b.zip fs,0<=p.2/\p.2<=p.1.cap)->(∀ a∈b,0<=a.cap)->((b.zip fs).map (·.2)).sum<=(b.map (·.cap)).sum
 |[],_,_,_=>by simp
 |a::b,[],_,h=>by
  have:=pX b [] ai λ a c=>h a (by simp[c]);have:=h a ai;simp at*;omega
 |a::b,f::fs,hp,h=>by
  have:=pX b fs (λ p d=>hp p (by simp[d])) λ a c=>h a (by simp[c]);have:=hp (a,f) ai;simp only[Pt,Nv,ND] at*;omega
theorem Ranged.exc{N:aV}{f:LI_}(h:Ranged N f)(b:N.Right)(n:Nat)(g:N.nodes=n)(v:Nat):(ya n N.arcs f).getD v 0=dH (N.arcs.zip f) v:=by
 refine Je n N.arcs f (λ p hp=>?_) ?_ v
 ·have c:=h.all p hp;have d:=b.arc p.1 (List.of_mem_zip hp).1;exact⟨c.1,aa,aa⟩
 ·have c:=pX N.arcs f h.all λ a e=>(b.arc a e).2.2;have d:=b.sum;omega
open Classical in
noncomputable def eP(N:aV)(f:LI_):Int:=if iq N f≠0 then iq N f else if ∀ v:Int,1<=v/\v<=N.nodes->v≠N.src->v≠N.snk->dH (N.arcs.zip f) v=0 then 0 else 9
theorem wn{N:aV}{f:LI_}(h:Ranged N f)(a:∀ v:Int,1<=v/\v<=N.nodes->v≠N.src->v≠N.snk->dH (N.arcs.zip f) v=0):eP N f=0:=by
 unfold eP;rw[if_neg (λ b=>b (j7.2 h)),if_pos a]
theorem zx{N:aV}{f:LI_}(h:Ranged N f)(a:¬ ∀ v:Int,1<=v/\v<=N.nodes->v≠N.src->v≠N.snk->dH (N.arcs.zip f) v=0):eP N f=9:=by
 unfold eP;rw[if_neg (λ b=>b (j7.2 h)),if_neg a]
structure aD (N:aV) (f:LI_):Prop extends Ranged N f where
 kept:∀ v:Int,1<=v/\v<=N.nodes->v≠N.src->v≠N.snk->dH (N.arcs.zip f) v=0
theorem cZ{N:aV}{f:LI_}:eP N f=0↔aD N f:=by
 constructor
 ·intro h;by_cases hw:Ranged N f
  ·refine⟨hw,?_⟩;by_cases a:∀ v:Int,1<=v/\v<=N.nodes->v≠N.src->v≠N.snk->dH (N.arcs.zip f) v=0
   ·exact a
   ·rw[zx hw a] at h;simp at h
  ·exfalso;have b:iq N f≠0:=λ h=>hw (j7.1 h);unfold eP at h;rw[if_pos b] at h;exact b h
 ·exact λ h=>wn h.toRanged h.kept
theorem EO(N:aV)(M:N.Fits)(q:N.Right)(A:OA_)(c b o:Nat)(I:N.arcs≠[]->A=some ⟨b,o,none⟩)(f:LI_)(F:OA_)(cf s of:Nat)(K:f≠[]->F=some ⟨s,of,none⟩)(O:∀ x∈f,b7 x)(t:f.length*8<=140737488351232):
 Fn 39 [bZ N A c,.slice F f.length cf] [] [.seg b o (arcs N.arcs),.seg s of (aj f)] λ v H'=>v=.int .i64 (eP N f)/\H'=[]:=by
 refine aT Tryz.func39 λ w0=>?_;refine bu ?_;refine cY (cs:=bU N A c) λ p=>?_;refine ie ?_;refine cj (Ev N M q A c b o I f F cf s of K O t) rfl ⟨bz 1 rfl,bz 2 rfl,an⟩ ?_;refine cR ?_;refine ak rfl (λ h=>?_) (λ h=>ag ?_)
 ·refine ao ?_;refine aM [] ⟨_,rfl,?_,rfl⟩;unfold eP;rw[if_pos h];rfl
 have m:Ranged N f:=j7.1 (No.1 h);have P:=q.nodes;obtain⟨n,u⟩:∃ n:Nat,N.nodes=n:=⟨N.nodes.toNat,aa⟩;have L:=m.exc q n u;have w:=qj n N.arcs f;have T:=sV n N.src N.snk A F c cf b o s of N.arcs f aa I (λ y=>K (λ Q=>y (by have:=m.len;rw[Q] at this;exact Ny.1 this.symm))) m.len q.len (λ a R=>by have:=q.arc a R;omega);rw[<- u] at T;refine rR ?_;refine bA [] T rfl rfl rfl (by rw[m.len];rfl) aX ⟨bz 1 rfl,bz 2 rfl,an⟩ aK ?_;rintro v H' ⟨g,rfl,rfl⟩;refine ec ?_;obtain⟨X,z⟩:∃ X,X=ya n N.arcs f:=⟨_,rfl⟩;rw[<- z] at L w ⊢;refine pR ?_;refine ah ?_;rw[u];refine aq ?_
 refine bP (σ:=Nat) (λ k=>[(20,af k),(19,af n),(6,ax g 0 (n+1) (n+1)),(2,ap p 0)])
  (λ k=>[.own (ax g 0 (n+1) (n+1)) 2 1 (n+1) (aj X),blk p 33 (bU N A c)]) (λ k=>k<=n/\∀ v:Int,1<=v/\v<=k->v≠N.src->v≠N.snk->dH (N.arcs.zip f) v=0) (λ k=>n-k)
  0 [0,1] a7 ab rfl ⟨Nl _,λ v B=>by omega⟩ ?_
 rintro k ⟨U,d⟩;refine ao ?_;refine am (ak rfl (λ C=>ag ?_) (λ S=>aO ?_))
 ·have C:k<n:=by omega
  refine am (aq ?_);refine ja ?_;refine bD 8 (v':=af ((k+1:Nat):Int)) rfl (Na (Value.int .i64) (cp aa)) ?_
  have l:(((k+1:Nat):Int)≠N.src->((k+1:Nat):Int)≠N.snk->dH (N.arcs.zip f) ((k+1:Nat):Int)=0)->∀ v:Int,1<=v/\v<=((k+1:Nat):Int)->v≠N.src->v≠N.snk->dH (N.arcs.zip f) v=0:=by
   intro i v B j h2;by_cases D:v<=k
   ·exact d v ⟨B.1,D⟩ j h2
   ·obtain rfl:v=((k+1:Nat):Int):=by omega
    exact i j h2
  have E:∃ x,X[k+1]?=some x:=⟨X[k+1]'aa,be aa⟩;obtain⟨x,hx⟩:=E
  have r:x=dH (N.arcs.zip f) ((k+1:Nat):Int):=by
   have:=L (k+1);rw[Nf,hx] at this;exact this
  by_cases i:((k+1:Nat):Int)≠N.src->((k+1:Nat):Int)≠N.snk->dH (N.arcs.zip f) ((k+1:Nat):Int)=0
  ·refine fN [(41,.bool false),(20,af k),(19,af n),(6,ax g 0 (n+1) (n+1)),(2,ap p 0)]
    [.own (ax g 0 (n+1) (n+1)) 2 1 (n+1) (aj X),blk p 33 (bU N A c)] ?_ ?_
   ·refine pR ?_;by_cases j:((k+1:Nat):Int)=N.src
    ·refine dc 29 rfl (λ h=>h j)<|cW [4,10] ?_;exact qm
    refine dt 29 rfl j<|bp [4] ?_;refine ae [4] (ad 1 rfl) rfl<|bp [4] ?_;by_cases h2:((k+1:Nat):Int)=N.snk
    ·refine dc 35 rfl (λ h=>h h2)<|cW [4,10] ?_;exact qm
    refine HM ?_;exact⟨[0,1],⟨Na some (Na Value.bool (aU (λ H=>H (r.trans (i j h2))))),rfl,rfl,rfl,rfl,an⟩,ab,rfl⟩
   ·refine bo rfl (ag ?_);refine ao ?_;refine⟨k+1,[0,1],⟨?_,rfl,rfl,rfl,an⟩,ab,rfl,⟨aa,l i⟩,aa⟩;refine fy ?_;rw[cp aa];rfl
  ·have j:((k+1:Nat):Int)≠N.src:=λ e=>i (λ h=>absurd e h);have h2:((k+1:Nat):Int)≠N.snk:=λ e=>i (λ _ h=>absurd e h);have H:x≠0:=λ e=>i (λ _ _=>r.symm.trans e);refine pR ?_;refine dt 29 rfl j<|bp [4] ?_;refine ae [4] (ad 1 rfl) rfl<|bp [4] ?_;refine HM ?_;refine ak rfl (λ _=>?_) (λ h=>absurd H h);refine ao ?_;refine aM [] ⟨_,rfl,?_,rfl⟩;rw[zx m (λ d=>i (d _ aa))];rfl
 ·refine ao ?_;refine aM [] ⟨_,rfl,?_,rfl⟩;rw[wn m (λ v B=>d v aa)];rfl
theorem f9(N:aV)(hN:N.Fits)(hR:N.Right)(A:OA_)(c b o:Nat)(hA:N.arcs≠[]->A=some ⟨b,o,none⟩)(f:LI_)(F:OA_)(cf bf of:Nat)(hF:f≠[]->F=some ⟨bf,of,none⟩)(hf:∀ x∈f,b7 x)(hfl:f.length*8<=140737488351232):
 Fn 17 [bZ N A c,.slice F f.length cf] [] [.seg b o (arcs N.arcs),.seg bf of (aj f)] λ v H'=>(v=tg (dH (N.arcs.zip f) N.snk,0)/\aD N f\/v=tg (0,eP N f)/\¬ aD N f)/\H'=[]:=by
 refine aT Tryz.func17 λ w0=>?_;refine bu ?_;refine cY (cs:=bU N A c) λ p=>?_;refine Iv ?_;refine ak rfl (λ h=>?_) (λ h=>ag ?_)
 ·refine ao ?_;refine aM [] ⟨_,rfl,.inr ⟨rfl,λ hf=>h (cZ.2 hf)⟩,rfl⟩
 have d:aD N f:=cZ.1 (No.1 h);have q:=hR.nodes;have r:=hR.snk;obtain⟨n,j⟩:∃ n:Nat,N.nodes=n:=⟨N.nodes.toNat,aa⟩;obtain⟨s,k⟩:∃ s:Nat,N.snk=s:=⟨N.snk.toNat,aa⟩;have l:=d.toRanged.exc hR n j s;have t:=qj n N.arcs f;have T:=sV n N.src N.snk A F c cf b o bf of N.arcs f aa hA (λ e=>hF (λ u=>e (by have:=d.len;rw[u] at this;exact Ny.1 this.symm))) d.len hR.len (λ a w=>by have:=hR.arc a w;omega);rw[<- j] at T;obtain⟨x,m⟩:∃ x,(ya n N.arcs f)[s]?=some x:=⟨(ya n N.arcs f)[s]'aa,be aa⟩
 have i:x=dH (N.arcs.zip f) N.snk:=by
  rw[Nf,m] at l;rw[k];exact l
 refine cq ?_;refine bM 9 (dT [0,1,3,4]++[(2,false)]++dT [5]++[(6,false)]++dT [7,8]) [0] aX ab rfl<|bh (v:=bZ N A c) rfl (ad 0 rfl) ?_;refine iH ?_;refine cz ?_;refine bA [] T rfl rfl rfl (by rw[d.len];rfl) aX ⟨bz 1 rfl,bz 2 rfl,an⟩ aK ?_;rintro v H' ⟨g,rfl,rfl⟩;refine⟨rfl,b6 [1] ?_⟩;refine dK 17 (v':=af s) rfl (Na (Value.int .i64) k)<|oo ?_;refine cz ?_;refine aF (aw 0 rfl rfl rfl (bQ m)) ?_;refine b6 [1]<|lo ?_;exact aM [] ⟨_,rfl,.inl ⟨by rw[i];rfl,d⟩,rfl⟩
theorem CK(n:Int):IntKind.i64.wrap ((BitVec.ofInt IntKind.i64.bits n&&& BitVec.ofInt IntKind.i64.bits 1).toNat:Int)=n%2:=by
 have h:(BitVec.ofInt IntKind.i64.bits n&&& BitVec.ofInt IntKind.i64.bits 1).toNat=(n%2).toNat:=by
  rw[BitVec.toNat_and,BitVec.toNat_ofInt,BitVec.toNat_ofInt];have a:((1:Int)%((2^IntKind.i64.bits:Nat):Int)).toNat=1:=ab;rw[a,Nat.and_one_is_mod];have b:((2^IntKind.i64.bits:Nat):Int)=18446744073709551616:=ab;rw[b];omega
 rw[h,cp aa];omega
def ed(a:ej)(r:Nat):Int×Int:=if r%2=1 then (a.to,a.fr) else (a.fr,a.to)
def df(N:aV)(r:Nat):Int×Int:=match N.arcs[r/2]? with
 |some a=>ed a r
 |none=>(0,0)
theorem jz(N:aV)(A:OA_)(c b o:Nat)(i:N.arcs≠[]->A=some ⟨b,o,none⟩)(hl:N.arcs.length<=2000)(r:Nat)(d:r<2*N.arcs.length):
 Fn 89 [bZ N A c,.int .i64 r] [] [.seg b o (arcs N.arcs)] λ v H'=>v=tg (df N r)/\H'=[]:=by
 obtain rfl:=i (by intro h;rw[h] at d;simp at d);obtain⟨a,f⟩:∃ a,N.arcs[r/2]?=some a:=⟨N.arcs[r/2]'aa,be aa⟩;have he:df N r=ed a r:=by unfold df;rw[f]
 have g:IntKind.i64.wrap ((r:Int).tdiv 2)=((r/2:Nat):Int):=by rw[cp (by rw[PO aa];omega),PO aa];omega
 rw[he];refine aT Tryz.func89 λ w0=>?_;refine bu ?_;refine cY (cs:=bU N (aL b o) c) λ p=>?_;refine dQ ?_;refine dc 9 rfl aa<|eq ?_;refine aA 11 (v':=af ((r/2:Nat):Int)) rfl (Na (Value.int .i64) g)<|ae [2] (ad 0 rfl) rfl<|cW [2] ?_;refine ak rfl (λ h=>absurd h aa) (λ _=>ag ?_);refine jh ?_;refine az ?_;refine aA 20 (v':=af ((r/2:Nat):Int)) rfl (Na (Value.int .i64) g)<|aF (jc rfl aa) ?_;refine aF (aZ 1 rfl rfl (gU f)) ?_;refine dD λ q=>?_;refine iA ?_;refine fN [(6,ap q 0)] [blk q 37 [af (ed a r).1,af (ed a r).2,af a.cap]] ?_ ?_
 ·refine ao ?_;have hand:IntKind.i64.wrap ((BitVec.ofInt IntKind.i64.bits (r:Int)&&& BitVec.ofInt IntKind.i64.bits 1).toNat:Int)=(r:Int)%2:=CK r;refine ak rfl (λ h=>?_) (λ h=>ag ?_)
  ·rw[hand] at h;have e:ed a r=(a.to,a.fr):=by unfold ed;rw[if_pos aa]
   rw[e];refine aE (fV [] rfl ?_);refine bj 0 ?_;refine az ?_;refine bj 0 ?_;refine az ?_;refine dE 0 ?_;refine mx ?_;exact⟨[0],⟨rfl,an⟩,ab,rfl⟩
  ·rw[hand] at h;have e:ed a r=(a.fr,a.to):=by unfold ed;rw[if_neg aa]
   rw[e];exact⟨[0],⟨rfl,an⟩,ab,rfl⟩
 ·refine cq ?_;refine bM 6 (dT [0,1,2,3,4,5]) [0] aX ab rfl<|iH ?_;refine iH ?_;refine lo ?_;exact nU
def bc(ps:List (ej×Int)):LI_:=ps.flatMap λ p=>[p.1.cap-p.2,p.2]
theorem d8(ps:List (ej×Int)):(bc ps).length=2*ps.length:=by
 induction ps with
 |nil=>rfl
 |cons p ps a=>
  have e:bc (p::ps)=[p.1.cap-p.2,p.2]++bc ps:=by simp[bc]
  rw[e,Nj,a];simp;omega
theorem Bf{ps:List (ej×Int)}{k:Nat}{p:ej×Int}(h:ps[k]?=some p):bc (ps.take (k+1))=bc (ps.take k)++[p.1.cap-p.2,p.2]:=by
 rw[Nu,h];simp[bc]
theorem xn(N:aV)(hN:N.Fits)(hR:N.Right)(A:OA_)(c b o:Nat)(hA:N.arcs≠[]->A=some ⟨b,o,none⟩)(f:LI_)(F:OA_)(cf bf of:Nat)(hF:f≠[]->F=some ⟨bf,of,none⟩)(hf:∀ x∈f,b7 x)(hfl:f.length*8<=140737488351232):
 Fn 88 [bZ N A c,.slice F f.length cf] [] [.seg b o (arcs N.arcs),.seg bf of (aj f)] λ v H'=>
  (aD N f/\∃ l q,v=.tuple #[.slice l (2*N.arcs.length) q,af 0]/\H'=[.own (.slice l (2*N.arcs.length) q) 2 1 (2*N.arcs.length) (aj (bc (N.arcs.zip f)))])\/
  (¬ aD N f/\v=.tuple #[.slice none 0 0,af (eP N f)]/\H'=[]):=by
 refine aT Tryz.func88 λ w0=>?_;refine bu ?_;refine cY (cs:=bU N A c) λ p=>?_;refine Iv ?_;refine ak rfl (λ h=>?_) (λ h=>ag ?_)
 ·refine ao ?_;refine aM [] ⟨_,rfl,.inr ⟨λ hf=>h (cZ.2 hf),rfl,rfl⟩⟩
 have e:aD N f:=cZ.1 (No.1 h);have hlen:=e.len;have u:=hR.len;refine aI ?_;refine aA 18 (v':=af ((2*f.length:Nat):Int)) rfl (Na (Value.int .i64) ((cp (n:=2*(f.length:Int)) aa).trans aa))<|cX (n:=0) (c:=2*f.length) rfl rfl rfl rfl rfl rfl aa aa aa aK λ g=>cR ?_;refine aq ?_
 refine bP (σ:=Nat×OA_×Nat) (λ s=>[(22,af s.1),(21,af f.length),(20,.slice F f.length cf),(7,.slice s.2.1 (2*s.1) s.2.2),(2,ap p 0)])
  (λ s=>[.own (.slice s.2.1 (2*s.1) s.2.2) 2 1 (2*s.1) (aj (bc ((N.arcs.zip f).take s.1))),blk p 33 (bU N A c),.seg b o (arcs N.arcs),.seg bf of (aj f)]) (λ s=>s.1<=f.length) (λ s=>f.length-s.1)
  (0,aL g 0,2*f.length) [0,1,2,3] a7 ab ?_ (Nl _) ?_
 ·rw[show made [af 0] (0*1)=[] from Ny.1 (kU _ _)];show cK _ _=some [.own (ax g 0 0 (2*f.length)) 2 1 0 (aj (bc ((N.arcs.zip f).take 0))),blk p 33 (bU N A c),.seg b o (arcs N.arcs),.seg bf of (aj f)];rw[List.take_zero];rfl
 rintro⟨k,A1,w⟩ y;simp only at y ⊢;refine ao ?_;refine am (ak rfl (λ hlt=>ag ?_) (λ z=>aO ?_))
 ·have hlt:k<f.length:=by omega
  obtain rfl:=hF (by rintro rfl;simp at hlt)
  obtain rfl:=hA (by intro h;have E:N.arcs.length=0:=by rw[h];rfl
                     omega)
  obtain⟨x,r⟩:∃ x,f[k]?=some x:=⟨f[k],be hlt⟩;obtain⟨a,i⟩:∃ a,N.arcs[k]?=some a:=⟨N.arcs[k],be aa⟩;obtain⟨_,_,d⟩:=gF i;have t:(N.arcs.zip f)[k]?=some (a,x):=by simp[N0,i,r]
  have B:=e.all _ (Nb t);have C:=(hN.arc a (Nb i)).2.2;simp only at B;unfold b7 at C;refine am (aq ?_);refine iz ?_;refine aF (aZ 3 rfl rfl (bQ r)) ?_;refine dQ ?_;refine bj 1 ?_;refine az ?_;refine aF (jc rfl aa) ?_;refine az ?_;refine aF (aZ 2 rfl rfl d) ?_;refine az ?_;refine aA 35 (v':=af (a.cap-x)) rfl (Na (Value.int .i64) (cp aa))<|dp λ g2=>?_;refine bx (n:=2*k) (m:=2) (off:=0) (news:=[af (a.cap-x),af x]) 1 0 rfl rfl rfl rfl rfl rfl ab rfl rfl (aS g2 _ _ (0,0)) aK rfl rfl aa aa (λ _ _=>rfl) λ D c2=>cR ?_;refine⟨(k+1,D,c2),[1,2,3,4],⟨?_,rfl,rfl,rfl,rfl,an⟩,ab,?_,by simp only;omega,by simp only;omega⟩
  ·refine fy ?_;rw[cp aa];rfl
  ·simp only[Bf t];rw[show aj (bc ((N.arcs.zip f).take k)++[a.cap-x,x])=aj (bc ((N.arcs.zip f).take k))++[af (a.cap-x),af x] by simp[aj]];rfl
 ·have j:k=N.arcs.length:=by omega
  subst j;rw[Oh eK];refine ao ?_;refine aM [0] ⟨_,rfl,.inl ⟨e,A1,w,rfl,rfl⟩⟩
inductive tf (N:aV) (rm:LI_) (least:Int):Int->Prop
 |src:tf N rm least N.src
 |step (u:Int) (r:Nat):tf N rm least u->r<rm.length->(df N r).1=u->least<=rm.getD r 0->tf N rm least (df N r).2
theorem jL{N:aV}(c:N.Right){r:Nat}(d:r<2*N.arcs.length):(1<=(df N r).1/\(df N r).1<=N.nodes)/\(1<=(df N r).2/\(df N r).2<=N.nodes):=by
 obtain⟨a,b⟩:∃ a,N.arcs[r/2]?=some a:=⟨N.arcs[r/2]'aa,be aa⟩;have h:=c.arc a (Nb b);unfold df;rw[b];unfold ed;simp only;split<;>exact⟨aa,aa⟩
def tr(N:aV)(k:Nat)(v:Nat):LI_:=((List.range k).filter λ (r:Nat)=>decide ((df N r).1=(v:Int))).map λ (r:Nat)=>(r:Int)
theorem Cz(N:aV)(k v:Nat):tr N (k+1) v=tr N k v++(if (df N k).1=(v:Int) then [(k:Int)] else []):=by
 unfold tr;refine wO ?_
 congr 1
 by_cases h:(df N k).1=(v:Int)<;>simp[h]
theorem oI(N:aV)(k v:Nat):(tr N k v).length<=k:=by
 unfold tr;exact C2
theorem wR{N:aV}{k v:Nat}{x:Int}:x∈tr N k v↔∃ r:Nat,r<k/\(df N r).1=(v:Int)/\x=r:=by
 unfold tr;refine w6 ?_
 constructor
 ·rintro⟨r,⟨a,b⟩,rfl⟩;exact⟨r,a,b,rfl⟩
 ·rintro⟨r,a,b,rfl⟩;exact⟨r,⟨a,b⟩,rfl⟩
structure DS where
 met:LB_
 Aw:OA_
 cw:Nat
 wait:LI_
 pos:LN_
 vals:LV_
def Fg(N:aV)(rm:LI_)(least:Int)(met:LB_)(r:Int):Prop:=rm.getD r.toNat 0<least\/∃ t:Nat,(df N r.toNat).2=t/\met[t]?=some true
structure xH (N:aV) (rm:LI_) (least:Int) (rows:List fg) (n s0:Nat) (gv:Nat->Nat) (s:DS):Prop where
 ml:s.met.length=n+1
 vl:s.vals.length=n+1
 pl:s.pos.length=n+1
 sound:∀ v:Nat,s.met[v]?=some true->v<=n/\tf N rm least v
 src:s.met[s0]?=some true
 wait:∀ x∈s.wait,∃ v:Nat,x=v/\v<=n/\s.met[v]?=some true
 done:∀ (v:Nat) (row:fg) (q:Nat),rows[v]?=some row->s.pos[v]?=some q->q<=row.l.length/\∀ (j:Nat) (r:Int),j<q->row.l[j]?=some r->Fg N rm least s.met r
 full:∀ v:Nat,s.met[v]?=some true->(v:Int)∉s.wait->∀ row,rows[v]?=some row->∀ r∈row.l,Fg N rm least s.met r
 wl:s.wait.length+s.met.count false<=n+1
 val:∀ (v:Nat) (row:fg) (q:Nat),rows[v]?=some row->s.pos[v]?=some q->∃ A' c',s.vals[v]?=some (.slice A' (row.l.length-q) c')/\row.l.length-q<=c'/\(0<row.l.length-q->A'=some ⟨gv v,q,none⟩)
theorem mI{l:LB_}{t v:Nat}(h:l[v]?=some true):(l.set t true)[v]?=some true:=by
 by_cases e:t=v
 ·subst e;rw[Nq (Ng.1 h).1]
 ·rw[Ns e];exact h
theorem Fg.mono{N:aV}{rm:LI_}{least:Int}{met:LB_}{r:Int}(t:Nat)(h:Fg N rm least met r):Fg N rm least (met.set t true) r:=
 h.imp id λ ⟨u,a,b⟩=>⟨u,a,mI b⟩
theorem lW:∀ (l:LB_) (t:Nat),l[t]?=some false->(l.set t true).count false+1=l.count false
 |[],t,h=>by simp at h
 |b::l,0,h=>by simp at h;subst h;simp
 |b::l,t+1,h=>by
  have:=lW l t (by simpa using h);simp only[List.set_cons_succ,List.count_cons];omega
theorem xH.push{N:aV}{rm:LI_}{least:Int}{rows:List fg}{n s0:Nat}{y:Nat->Nat}{s:DS}(h:xH N rm least rows n s0 y s){v q i t r:Nat}{row:fg}(I:s.met[v]?=some true)(k:rows[v]?=some row)
 (m:∀ (j:Nat) (r:Int),j<q+i->row.l[j]?=some r->Fg N rm least s.met r) (K:row.l[q+i]?=some (r:Int)) (hu:(df N r).1=(v:Int)) (L:(df N r).2=(t:Int)) (o:t<=n) (z:r<rm.length) (A:least<=rm.getD r 0) (B:s.met[t]?=some false)
 {C:OA_} {D:Nat} (O:row.l.length-(q+i+1)<=D) (P:0<row.l.length-(q+i+1)->C=some ⟨y v,q+i+1,none⟩) (Aw:OA_) (cw:Nat):
 xH N rm least rows n s0 y ⟨s.met.set t true,Aw,cw,s.wait++[(t:Int)],s.pos.set v (q+i+1),s.vals.set v (.slice C (row.l.length-(q+i+1)) D)⟩:=by
 have Q:=(h.sound v I).2;have R:=(h.sound v I).1;have p:t<s.met.length:=by rw[h.ml];omega
 have w:Fg N rm least (s.met.set t true) (r:Int):=.inr ⟨t,by rw[NA];exact L,by rw[Nq p]⟩;have S:q+i<row.l.length:=(Ng.1 K).1;refine⟨by simp[h.ml],by simp[h.vl],by simp[h.pl],λ u d=>?_,mI h.src,λ x f=>?_,λ u c E b a=>?_,λ u d g c b=>?_,by simp only[Nj,NU];have:=lW s.met t B;have:=h.wl;omega,λ u c E b a=>?_⟩
 ·simp only at d;by_cases e:t=u
  ·subst e;have:=tf.step (N:=N) (rm:=rm) (least:=least) v r Q z hu A;rw[L] at this;exact⟨o,this⟩
  ·rw[Ns e] at d;exact h.sound u d
 ·rcases Np.1 f with f|f
  ·obtain⟨u,F,G,U⟩:=h.wait x f;exact⟨u,F,G,mI U⟩
  ·exact⟨t,Ni.1 f,o,by simp only;rw[Nq p]⟩
 ·simp only at a;by_cases e:v=u
  ·subst e;rw[List.getElem?_set_self (by rw[h.pl];omega)] at a;simp only[Option.some.injEq] at a;subst a;rw[k] at b;simp only[Option.some.injEq] at b;subst b;refine⟨aa,fun j x M f=>?_⟩;by_cases V:j=q+i
   ·subst V;rw[K] at f;simp only[Nc] at f;subst f;exact w
   ·exact (m j x aa f).mono t
  ·rw[Ns e] at a;obtain⟨F,G⟩:=h.done u c E b a;exact⟨F,λ j x M f=>(G j x M f).mono t⟩
 ·simp only at d g;have H:t≠u:=λ e=>g (by rw[<- e];simp);rw[Ns H] at d;intro x f;exact (h.full u d (λ hm=>g (Np.2 (.inl hm))) c b x f).mono t
 ·simp only at a ⊢;by_cases e:v=u
  ·subst e;rw[Nq (by rw[h.pl];omega)] at a;simp only[Nc] at a;subst a;rw[k] at b;simp only[Nc] at b;subst b;exact⟨C,D,by rw[Nq (by rw[h.vl];omega)],O,P⟩
  ·rw[Ns e] at a;rw[Ns e];exact h.val u c E b a
theorem xH.pop{N:aV}{rm:LI_}{least:Int}{rows:List fg}{n s0:Nat}{g:Nat->Nat}{s:DS}(h:xH N rm least rows n s0 g s){v:Nat}{w:LI_}{row:fg}(hw:s.wait=w++[(v:Int)])(b:rows[v]?=some row)
 (c:∀ r∈row.l,Fg N rm least s.met r) (Aw:OA_) (cw:Nat):xH N rm least rows n s0 g ⟨s.met,Aw,cw,w,s.pos,s.vals⟩:=by
 refine⟨h.ml,h.vl,h.pl,h.sound,h.src,λ x i=>h.wait x (by rw[hw];simp[i]),h.done,λ u hu d f a=>?_,by have:=h.wl;rw[hw,Nj] at this;simp only;omega,h.val⟩;by_cases e:u=v
 ·subst e;rw[b] at a;simp only[Nc] at a;subst a;exact c
 ·exact h.full u hu (by rw[hw];intro hm;rcases List.mem_append.1 hm with hm|hm;· exact d hm
                        ·have:=Ni.1 hm;omega) f a
theorem xH.final{N:aV}{rm:LI_}{least:Int}{rows:List fg}{n s0:Nat}{m:Nat->Nat}{s:DS}(h:xH N rm least rows n s0 m s)(hw:s.wait=[])(o:N.src=s0)(f:rows.length=n+1)(g:∀ (v:Nat) (r:fg),rows[v]?=some r->r.l=tr N rm.length v)(b:∀ r,r<rm.length->∃ k:Nat,(df N r).1=k)
 (v:Nat):s.met[v]?=some true↔v<=n/\tf N rm least v:=by
 refine⟨h.sound v,λ ⟨_,p⟩=>?_⟩
 have key:∀ x:Int,tf N rm least x->∀ v:Nat,x=v->s.met[v]?=some true:=by
  intro x q
  induction q with
  |src=>intro v e;rw[o] at e;have:s0=v:=by omega
        subst this;exact h.src
  |step u r _ c hu w y=>
   intro v e;obtain⟨k,i⟩:=b r c;rw[hu] at i;have hm:=y k i;have z:=(h.sound k hm).1;obtain⟨row,a⟩:∃ row,rows[k]?=some row:=⟨rows[k]'aa,be aa⟩;have d:(r:Int)∈row.l:=by rw[g k row a];exact wR.2 ⟨r,c,by rw[hu,i],rfl⟩
   rcases h.full k hm (by rw[hw];simp) row a _ d with j|⟨t,j,A⟩
   ·rw[NA] at j;omega
   ·rw[NA] at j;have:t=v:=aa;rw[<- this];exact A
 exact key v p v rfl
def LX(N:aV)(f:LI_)(least:Int)(n:Nat)(v:Value)(H':Heap):Prop:=
 (aD N f/\1<=least/\∃ (l:LB_) (g:Nat),l.length=n+1/\(∀ v:Nat,l[v]?=some true↔v<=n/\tf N (bc (N.arcs.zip f)) least v)/\v=.tuple #[.slice (some ⟨g,0,none⟩) (n+1) (n+1),.int .i64 0]/\
  H'=[.own (.slice (some ⟨g,0,none⟩) (n+1) (n+1)) 4 1 (n+1) (dM l)])\/
 (¬ aD N f/\v=.tuple #[.slice none 0 0,.int .i64 (eP N f)]/\H'=[])\/(aD N f/\least<1/\v=.tuple #[.slice none 0 0,.int .i64 3]/\H'=[])
theorem IF(N:aV)(hN:N.Fits)(hR:N.Right)(A:OA_)(c b o:Nat)(hA:N.arcs≠[]->A=some ⟨b,o,none⟩)(f:LI_)(F:OA_)(cf bf of:Nat)(hF:f≠[]->F=some ⟨bf,of,none⟩)(hf:∀ x∈f,b7 x)(q2:f.length*8<=140737488351232)(least:Int)(_hl:b7 least)
 (n:Nat) (hn:N.nodes=n):Fn 46 [bZ N A c,.slice F f.length cf,.int .i64 least] [] [.seg b o (arcs N.arcs),.seg bf of (aj f)] (LX N f least n):=by
 have hnn:=hR.nodes;have hS:=hR.len;refine aT Tryz.func46 λ w0=>?_;refine bu ?_;refine cY (cs:=bU N A c) λ p=>?_;refine aN ?_;refine Cl<|rR ?_;refine dG (xn N hN hR A c b o hA f F cf bf of hF hf q2) rfl ⟨bz 1 rfl,bz 2 rfl,an⟩ ?_;rintro v H' (⟨hW,A1,c1,rfl,rfl⟩|⟨hW,rfl,rfl⟩)
 case inr=>
  refine r6 ?_;refine ak rfl (λ h=>?_) (λ h=>absurd (cZ.1 (No.1 h)) hW);refine ao ?_;refine aM [] ⟨_,rfl,.inr (.inl ⟨hW,rfl,rfl⟩)⟩
 refine r6 ?_;refine ak rfl (λ h=>absurd rfl h) (λ _=>?_);refine ao ?_;refine ak rfl (λ h=>?_) (λ hle=>ag ?_)
 ·refine ao ?_;refine aM [] ⟨_,rfl,.inr (.inr ⟨hW,h,rfl,rfl⟩)⟩
 obtain⟨rm,hg⟩:∃ rm,rm=bc (N.arcs.zip f):=⟨_,rfl⟩;have p2:rm.length=2*N.arcs.length:=by rw[hg,d8,O0,hW.len,Pn]
 rw[<- hg];refine pR ?_;refine aA 36 (v':=af ((n+1:Nat):Int)) rfl (Na (Value.int .i64) ((cp (n:=N.nodes+1) aa).trans aa))<|cX (n:=n+1) (c:=n+1) rfl rfl rfl rfl rfl rfl aa aa aa aK λ g=>cR ?_;refine aq ?_;rw[show made [Value.slice none 0 0] ((n+1)*1)=(List.replicate (n+1) en).map cT by rw[c8,NT,OI];rfl];refine bS (ay.nils 3 (n+1)) ?_
 refine cA (σ:=Nat×List fg) (λ s=>[(40,af s.1),(39,af ((2*N.arcs.length:Nat):Int)),(38,.slice A1 (2*N.arcs.length) c1),(10,ax g 0 (n+1) (n+1)),(8,.slice A1 (2*N.arcs.length) c1),(3,ap p 0),(2,af least)])
  (λ s=>[.own (ax g 0 (n+1) (n+1)) 23 1 (n+1) (s.2.map cT),.own (.slice A1 (2*N.arcs.length) c1) 2 1 (2*N.arcs.length) (aj rm),blk p 33 (bU N A c),.seg b o (arcs N.arcs),.seg bf of (aj f)]++s.2.map (bd 3))
  (λ s=>s.1<=2*N.arcs.length/\s.2.length=n+1/\∀ (v:Nat) (r:fg),s.2[v]?=some r->r.l=tr N s.1 v) (λ s=>2*N.arcs.length-s.1)
  (0,List.replicate (n+1) en) a7 ay.refl ⟨Nl _,ai,λ v r h=>?_⟩ ?_
 ·rw[Nw] at h;split at h
  ·simp only[Nc] at h;subst h;rfl
  ·cases h
 rintro⟨k,rows⟩ ⟨hk,d,S⟩;simp only at hk d S ⊢;refine ao ?_;refine am (ak rfl (λ hlt=>ag ?_) (λ L=>aO ?_))
 ·have hlt:k<2*N.arcs.length:=by omega
  have he:=jL hR hlt;obtain⟨v,I⟩:∃ v:Nat,(df N k).1=v:=⟨(df N k).1.toNat,aa⟩;have U:v<rows.length:=aa;obtain⟨row,a⟩:∃ r,rows[v]?=some r:=⟨rows[v],be U⟩;have hs:=S v row a;have hlen:=oI N k v;rw[<- hs] at hlen;refine am (aq ?_);refine mM ?_;refine bj (v:=bZ N A c) 2 ?_;refine az ?_;refine cj (jz N A c b o hA hS k hlt) rfl ⟨bz 3 rfl,an⟩ ?_;refine aN ?_;refine bD 12 (v':=af (v:Int)) rfl (Na (Value.int .i64) I)<|aI ?_;refine ip ?_;refine aF (aw (v:=cT row) 0 rfl rfl rfl (show (rows.map cT)[v]?=some (cT row) by rw[Nk,a];rfl)) ?_;refine az ?_;refine dp λ g2=>?_;show JL _ _ _ _ _ ([_,_,_,_,_,_]++rows.map (bd 3));refine cD (ay.front (i:=v) (c:=bd 3 row) (by rw[Nk,a];rfl)) ?_;refine bx (n:=row.l.length) (m:=1) (off:=0) (news:=aj [(k:Int)]) 0 1 rfl rfl rfl rfl rfl rfl ab rfl rfl (aS g2 _ _ (0,0)) aK rfl rfl aa aa (λ _ _=>rfl) λ A2 c2=>Bg ?_;refine ip ?_;refine aW 2 rfl rfl rfl rfl (fz rfl rfl rfl (by rw[Nm];omega)) [] rfl<|dv ?_;refine⟨(k+1,rows.set v ⟨A2,c2,row.l++[(k:Int)]⟩),⟨?_,rfl,rfl,rfl,rfl,rfl,rfl,an⟩,?_,⟨by simp only;omega,by simp only[NO];omega,λ u r hu=>?_⟩,by simp only;omega⟩
  ·refine fy ?_;rw[cp aa];rfl
  ·simp only[O1];refine ay.trans (ay.sub (List.Sublist.cons_cons _ (NW _ _))) (ay.back (A:=[_,_,_,_,_]) (by rw[Nm];exact U))
  ·rw[Cz];by_cases k3:v=u
   ·subst k3;rw[Nq U] at hu;simp only[Nc] at hu;rw[<- hu,if_pos I,hs]
   ·rw[Ns k3] at hu;rw[if_neg aa,NN];exact S u r hu
 ·have k0:k=2*N.arcs.length:=by omega
  subst k0
  have D:∀ w,dN w0 [] w ([.own (ax g 0 (n+1) (n+1)) 23 1 (n+1) (rows.map cT),.own (.slice A1 (2*N.arcs.length) c1) 2 1 (2*N.arcs.length) (aj rm),blk p 33 (bU N A c),.seg b o (arcs N.arcs),.seg bf of (aj f)]++rows.map (bd 3))->
   ∀ v:Nat,∃ H:Nat,∀ row,rows[v]?=some row->row.l.length<=row.c/\(aj row.l≠[]->row.A=aL H 0):=by
   intro w hw v
   cases I:rows[v]? with
   |none=>exact⟨0,λ row h=>by cases h⟩
   |some row=>
    obtain⟨_,h2,h3,h4⟩:=aH (X:=⟨w0,[],⟨0,[]⟩⟩) (v+5) (show _=some (bd 3 row) by show (rows.map (bd 3))[v]?=_;rw[Nk,I];rfl) w hw;obtain⟨H,M⟩:=bg h3 h4;exact⟨H,λ a1 h=>by simp only[Nc] at h;subst h;exact⟨h2,M⟩⟩
  refine aR D λ B=>?_;obtain⟨H,M⟩:∃ H:Nat->Nat,∀ (v:Nat) (row:fg),rows[v]?=some row->row.l.length<=row.c/\(aj row.l≠[]->row.A=aL (H v) 0):=⟨λ v=>Classical.choose (B v),λ v=>Pg (B v)⟩;refine aR (aH 1 rfl) λ ⟨_,_,p8,_⟩=>?_
  clear B D
  have n2:=hR.src;obtain⟨s0,V⟩:∃ s:Nat,N.src=s:=⟨N.src.toNat,aa⟩;refine aI ?_;refine bj 2 ?_;refine az ?_;refine aA 62 (v':=af ((n+1:Nat):Int)) rfl (Na (Value.int .i64) ((cp (n:=N.nodes+1) aa).trans aa))<|cX (n:=n+1) (c:=n+1) rfl rfl rfl rfl rfl rfl aa aa aa aK λ gm=>aN ?_;rw[Ap];refine aI ?_;refine bj 3 ?_;refine aA 66 (v':=af (s0:Int)) rfl (Na (Value.int .i64) V)<|ip ?_;refine aW 0 rfl rfl rfl rfl (ko rfl eK) [] rfl<|ah<|aI ?_;refine bj 3 ?_;refine aA 69 (v':=af (s0:Int)) rfl (Na (Value.int .i64) V)<|dp λ gw=>?_;refine ii ?_;refine CS<|bS (λ w h=>h.blkOwn (sz:=1) (n:=1) rfl ab)<|gK ?_;have e2:∀ (v:Nat) (row:fg),rows[v]?=some row->row.l=tr N rm.length v:=λ v row h=>by rw[p2];exact S v row h
  refine cA (σ:=DS) (λ s=>[(15,.slice s.Aw s.wait.length s.cw),(14,ax gm 0 (n+1) (n+1)),(10,ax g 0 (n+1) (n+1)),(8,.slice A1 (2*N.arcs.length) c1),(3,ap p 0),(2,af least)])
   (λ s=>[.own (.slice s.Aw s.wait.length s.cw) 3 1 s.wait.length (aj s.wait),.own (ax gm 0 (n+1) (n+1)) 4 1 (n+1) (dM s.met),.own (ax g 0 (n+1) (n+1)) 23 1 (n+1) s.vals,
    .own (.slice A1 (2*N.arcs.length) c1) 2 1 (2*N.arcs.length) (aj rm),blk p 33 (bU N A c),.seg b o (arcs N.arcs),.seg bf of (aj f)]++rows.map (bd 3))
   (λ s=>xH N rm least rows n s0 H s) (λ s=>2*s.met.count false+s.wait.length)
   ⟨(List.replicate (n+1) false).set s0 true,aL gw 0,1,[(s0:Int)],List.replicate (n+1) 0,rows.map cT⟩ a7 ay.refl ?_ ?_
  ·have ha:∀ v:Nat,((List.replicate (n+1) false).set s0 true)[v]?=some true->v=s0:=by
    intro v I;by_cases e:s0=v
    ·exact e.symm
    ·rw[Ns e,Nw] at I;split at I<;>simp at I
   have hH:((List.replicate (n+1) false).set s0 true)[s0]?=some true:=Nq eK;refine⟨ai,by simp[d],ai,λ v I=>?_,hH,λ x hx=>⟨s0,Ni.1 hx,aa,hH⟩,λ v row q Y K=>?_,λ v I hB row Y=>?_,?_,λ v row q Y K=>?_⟩
   ·obtain rfl:=ha v I;exact⟨aa,V▸tf.src⟩
   ·have:q=0:=by
     simp only[Nw] at K;split at K<;>simp at K
     exact K.symm
    subst this;exact⟨Nl _,λ j r hj=>absurd hj aa⟩
   ·obtain rfl:=ha v I;exact absurd ai hB
   ·have:=lW (List.replicate (n+1) false) s0 (by rw[Nw,if_pos aa]);have h2:(List.replicate (n+1) false).count false=n+1:=ai;simp only[NU];omega
   ·have:q=0:=by
     simp only[Nw] at K;split at K<;>simp at K
     exact K.symm
    subst this;refine⟨row.A,row.c,by simp only[Nk,Y];rfl,by have:=(M v row Y).1;omega,λ hp=>(M v row Y).2 (λ h0=>?_)⟩;have:row.l.length=0:=by rw[<- bY,h0];rfl
    omega
  intro s E;refine ao ?_;refine ak rfl (λ k4=>ag ?_) (λ k4=>aO ?_)
  ·have hL:0<s.wait.length:=by omega
   obtain⟨x,hx⟩:∃ x,s.wait[s.wait.length-1]?=some x:=⟨s.wait[s.wait.length-1]'aa,be aa⟩;obtain⟨v,rfl,U,b2⟩:=E.wait x (Nb hx)
   have O:s.wait=s.wait.take (s.wait.length-1)++[(v:Int)]:=by
    have:=Oa (s.wait.length-1) s.wait
    have hd:s.wait.drop (s.wait.length-1)=[(v:Int)]:=by
     obtain⟨h1,h2⟩:=Ng.1 hx;rw[N5 h1,h2,List.drop_of_length_le aa]
    rw[hd] at this;exact this.symm
   obtain⟨row,a⟩:∃ row,rows[v]?=some row:=⟨rows[v]'aa,be aa⟩;have P:=oI N rm.length v;rw[<- e2 v row a] at P;obtain⟨q,K⟩:∃ q,s.pos[v]?=some q:=⟨s.pos[v]'(by have:=E.pl;omega),be (by have:=E.pl;omega)⟩;obtain⟨A',c',k2,l2,r1⟩:=E.val v row q a K;obtain⟨p4,e1⟩:=E.done v row q a K;refine aR (aH 0 rfl) λ ⟨_,hwc,Z,_⟩=>?_;obtain⟨q1,Z⟩:=Z hL;have hwb:=E.wl;refine aq<|aI ?_;refine aA 77 (v':=af ((s.wait.length-1:Nat):Int)) rfl (Na (Value.int .i64) ((cp (n:=(s.wait.length:Int)-1) aa).trans aa))<|aF (ic (b:=q1) (by rfl) (by rw[Z];rfl) rfl rfl rfl aa) ?_;refine aF (dY (b:=q1) (off:=0) (i:=s.wait.length-1) (cs:=aj s.wait) (v:=af (v:Int)) 0 rfl (by rw[NR];rfl) rfl (bC (λ _=>Z)) (ep hx)) ?_;refine dQ ?_;refine ip ?_;refine aF (aw (v:=.slice A' (row.l.length-q) c') 2 rfl rfl rfl k2) ?_;refine iZ ?_
   refine cA (σ:=Nat) (λ i=>[(85,af i),(84,af ((row.l.length-q:Nat):Int)),(83,.slice A' (row.l.length-q) c'),(16,af (v:Int)),(15,.slice s.Aw s.wait.length s.cw),(14,ax gm 0 (n+1) (n+1)),(10,ax g 0 (n+1) (n+1)),(8,.slice A1 (2*N.arcs.length) c1),(3,ap p 0),(2,af least)])
    (λ _=>[.own (.slice s.Aw s.wait.length s.cw) 3 1 s.wait.length (aj s.wait),.own (ax gm 0 (n+1) (n+1)) 4 1 (n+1) (dM s.met),.own (ax g 0 (n+1) (n+1)) 23 1 (n+1) s.vals,
     .own (.slice A1 (2*N.arcs.length) c1) 2 1 (2*N.arcs.length) (aj rm),blk p 33 (bU N A c),.seg b o (arcs N.arcs),.seg bf of (aj f)]++rows.map (bd 3))
    (λ i=>i<=row.l.length-q/\∀ (j:Nat) (r:Int),j<q+i->row.l[j]?=some r->Fg N rm least s.met r) (λ i=>row.l.length-q-i)
    0 a7 ay.refl ⟨Nl _,λ j r hj=>e1 j r aa⟩ ?_
   rintro i ⟨hi,C⟩;refine ao ?_;refine am (ak rfl (λ hlt=>ag ?_) (λ L=>aO ?_))
   ·have hlt:i<row.l.length-q:=by omega
    obtain rfl:=r1 aa;obtain⟨y,hy⟩:∃ y,row.l[q+i]?=some y:=⟨row.l[q+i]'aa,be aa⟩;have Q:=Nb hy;rw[e2 v row a] at Q;obtain⟨r,Y,l1,rfl⟩:=wR.1 Q;have n1:r<2*N.arcs.length:=aa;have hin:=jL hR n1;obtain⟨t,ht⟩:∃ t:Nat,(df N r).2=t:=⟨(df N r).2.toNat,aa⟩;have h6:t<=n:=aa;obtain⟨x,h5⟩:∃ x,rm[r]?=some x:=⟨rm[r],be Y⟩;have hG:rm.getD r 0=x:=by rw[Nf,h5];rfl
    obtain⟨bt,hb⟩:∃ bt,s.met[t]?=some bt:=⟨s.met[t]'(by have:=E.ml;omega),be (by have:=E.ml;omega)⟩;obtain⟨gr,rfl⟩:=p8 aa
    have hc:aj row.l≠[]:=by
     intro h0;have:row.l.length=0:=by rw[<- bY,h0];rfl
     omega
    have r2:=(M v row a).2 hc;refine am (aq ?_);refine iz ?_
    refine ae [] (dY (b:=H v) (off:=q) (i:=i) (cs:=(aj row.l).drop q) (v:=af (r:Int)) (c:=bd 3 row) (v+7) rfl rfl (show (rows.map (bd 3))[v]?=_ by rw[List.getElem?_map,a];rfl)
     (by have:=dz (bC (e:=3) (sz:=1) (n:=row.l.length) (cap:=row.c) (λ _=>r2:aj row.l≠[]->row.A=aL (H v) 0)) q;rw[NR] at this;exact this)
     (by show ((aj row.l).drop q)[i]?=_;rw[Ol];exact ep hy)) rfl ?_
    refine fP ?_;refine bj (v:=bZ N A c) 4 ?_;refine az ?_;refine cj (jz N A c b o hA hS r n1) rfl ⟨bz 5 rfl,an⟩ ?_;refine aN ?_;refine bD 20 (v':=af (t:Int)) rfl (Na (Value.int .i64) ht)<|aI ?_;refine ip ?_;refine aF (aw 3 rfl rfl rfl (bQ h5)) ?_;refine az ?_
    have R:Fg N rm least s.met (r:Int)->∀ (j:Nat) (z:Int),j<q+(i+1)->row.l[j]?=some z->Fg N rm least s.met z:=by
     intro b1 j z hj hz;by_cases e:j=q+i
     ·subst e;rw[hy] at hz;simp only[Nc] at hz;rw[<- hz];exact b1
     ·exact C j z aa hz
    by_cases L:least<=x
    ·refine dt 102 rfl L<|bp [6] ?_;refine ae [6] (bn rfl aa) rfl<|ae [6] (aw 1 rfl rfl rfl (show (dM s.met)[t]?=some (.bool bt) from iD hb)) rfl<|cW [6] ?_
     cases bt with
     |true=>
      refine bo rfl (ag ?_);refine ao ?_;refine⟨i+1,⟨?_,rfl,rfl,rfl,rfl,rfl,rfl,rfl,rfl,rfl,an⟩,ay.refl,⟨aa,R (.inr ⟨t,by rw[NA];exact ht,hb⟩)⟩,aa⟩;refine m0 ?_;rw[cp aa];rfl
     |false=>
      refine nJ ?_;refine ip ?_;refine aW 1 rfl rfl rfl rfl (ko rfl (by have:=E.ml;omega)) [] rfl<|fC ?_;refine bM 15 (dT [0,1,2,3,6,7,8,9,10,11,12]++[(4,false),(5,false)]++dT [13,14]) [2] aX ab rfl<|a9 ?_;refine oo ?_;refine bh rfl (aw (v:=ax (H v) q (row.l.length-q) c') 0 rfl rfl rfl k2) ?_;refine a9 ?_;refine dK 123 (v':=af ((i+1:Nat):Int)) rfl (Na (Value.int .i64) (cp aa))<|bh rfl (f5 rfl rfl rfl rfl rfl aa) ?_;refine dK 124 (v':=.slice (fA (aL (H v) q) c' (i+1) 1) (row.l.length-(q+i+1)) (c'-(i+1))) rfl (by congr 1;omega)<|cz ?_;refine dp λ gx=>?_;refine b6 [3]<|cz ?_;refine bx (n:=s.wait.length) (m:=1) (off:=0) (news:=aj [(t:Int)]) 1 0 rfl rfl rfl rfl rfl rfl ab rfl rfl (aS gx _ _ (0,0)) aK rfl rfl aa aa (λ _ _=>rfl) λ A2 c2=>b6 [3]<|?_;rw[show s.wait.length+1=(s.wait++[(t:Int)]).length by simp,show aj s.wait++aj [(t:Int)]=aj (s.wait++[(t:Int)]) by simp[aj]];refine a9 ?_;refine oo ?_;refine cM<|aW 3 rfl rfl rfl rfl (fz rfl rfl rfl (by have:=E.vl;omega)) [] rfl<|ah<|aO<|⟨⟨s.met.set t true,A2,c2,s.wait++[(t:Int)],s.pos.set v (q+i+1),s.vals.set v (.slice (fA (aL (H v) q) c' (i+1) 1) (row.l.length-(q+i+1)) (c'-(i+1)))⟩,a7,ay.sub (NW _ _),?_,?_⟩
      ·refine E.push b2 a C hy l1 ht h6 Y (by rw[hG];exact L) hb aa (λ hp=>?_) A2 c2;have:=eS (A:=aL (H v) q) (c:=c') (l:=i+1) (n:=row.l.length-q) (sz:=1) aK l2 aa;rw[this];simp[N7]
      ·have:=lW s.met t hb;refine AX ?_;omega
    ·refine dc 102 rfl L<|cW [6] ?_;refine bo rfl (ag ?_);refine ao ?_;refine⟨i+1,⟨?_,rfl,rfl,rfl,rfl,rfl,rfl,rfl,rfl,rfl,an⟩,ay.refl,⟨aa,R (.inl (by rw[NA,hG];omega))⟩,aa⟩;refine m0 ?_;rw[cp aa];rfl
   ·have s3:∀ z∈row.l,Fg N rm least s.met z:=by
     intro z hz;obtain⟨j,hj,rfl⟩:=NV.1 hz;exact C j _ aa (be hj)
    refine aI ?_;refine aA 130 (v':=af ((s.wait.length-1:Nat):Int)) rfl (Na (Value.int .i64) ((cp (n:=(s.wait.length:Int)-1) aa).trans aa))<|aF (jG rfl rfl rfl rfl rfl aa) ?_;refine Ff (m:=s.wait.length-1) 0 rfl aa ?_;rw[NT,show (aj s.wait).take (s.wait.length-1)=aj (s.wait.take (s.wait.length-1)) by simp[aj]];refine aN ?_;have ho:(s.wait.take (s.wait.length-1)).length=s.wait.length-1:=by rw[NE];omega
    refine⟨⟨s.met,s.Aw,s.cw,s.wait.take (s.wait.length-1),s.pos,s.vals⟩,⟨by simp only[ho];rfl,rfl,rfl,rfl,rfl,rfl,an⟩,by simp only[ho];exact ay.refl,E.pop O a s3 _ _,by simp only[ho];omega⟩
  ·have hV:s.wait=[]:=Ny.1 aa;refine ao ?_;refine aM [1] ⟨_,rfl,.inl ⟨hW,aa,s.met,gm,E.ml,λ v=>?_,rfl,rfl⟩⟩;rw[<- hg];exact E.final hV V d e2 (λ r Y=>⟨(df N r).1.toNat,by have:=jL hR (show r<2*N.arcs.length by omega);omega⟩) v
end Go.Proofs.YtmcnpaelaieniaaGreatDoor
