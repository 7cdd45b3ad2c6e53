import Derived.Test.YtmcnpaelaieniaaGreatDoorQX121
/- A part of the proof. -/
set_option linter.unusedVariables false
set_option linter.unusedSimpArgs false
set_option maxHeartbeats 8000000
namespace Go.Proofs.YtmcnpaelaieniaaGreatDoor
open Go.RowKit
def M4(N:aR)(f:LI_)(least sg e:Int)(p k:Nat)(f':LI_):Prop:=
 (kU N f least=0/\(sg=112\/sg=116)/\e=0/\Dn N least f p k f')\/
 (kU N f least=0/\¬ (sg=112\/sg=116)/\e=1/\p=0/\k=0/\f'=[])\/
 (kU N f least≠0/\e=kU N f least/\p=0/\k=0/\f'=[])
def LU(N:aR)(f:LI_)(least sg:Int)(v:Value)(H':Heap):Prop:=
 ∃ (e:Int) (f':LI_) (p k s:Nat) (A':OA_) (c':Nat),M4 N f least sg e p k f'/\(sg=116\/s=0)/\v=.tuple #[rh A' f'.length c' p k s,.int .i64 e]/\H'=[.own (.slice A' f'.length c') 2 1 f'.length (aj f')]
theorem Fn.addnil{g:FuncId}{args:LV_}{H:Heap}{R R':Value->Heap->Prop}(e sz:Nat)(h:Fn g args [] H R)(c:∀ v H',R v H'->R' v H'\/R' v (.own (.slice none 0 0) e sz 0 []::H')):Fn g args [] H R':=λ w hw=>
 (h w hw).mono λ _ _ ⟨v,H',a,b,d⟩=>(c v H' d).elim (λ h=>⟨v,H',a,b,h⟩) (λ h=>⟨v,_,a,b.addnil e sz,h⟩)
theorem I2{N:aR}{f:LI_}{least sg:Int}{v:Value}{H':Heap}(h:Cq N f least sg v H'):LU N f least sg v H'\/LU N f least sg v (.own (.slice none 0 0) 2 1 0 []::H'):=by
 rcases h with ⟨he,a,f',p,k,s,b,c,d,e,rfl,rfl⟩|⟨he,g,i,rfl,rfl⟩|⟨he,rfl,rfl⟩
 ·exact .inl ⟨0,f',p,k,s,b,c,.inl ⟨he,a,rfl,d⟩,aa,rfl,rfl⟩
 ·exact .inr ⟨1,[],0,0,0,none,0,.inr (.inl ⟨he,aa,rfl,rfl,rfl,rfl⟩),.inr rfl,rfl,rfl⟩
 ·exact .inr ⟨_,[],0,0,0,none,0,.inr (.inr ⟨he,rfl,rfl,rfl,rfl⟩),.inr rfl,rfl,rfl⟩
theorem J3(N:aR)(d:N.Fits)(a:N.arcs.length<=2000)(A:OA_)(c b o:Nat)(e:N.arcs≠[]->A=some ⟨b,o,none⟩)(sg:Int):
 Fn 16 [cd N A c,.int .u8 sg] [] [.seg b o (arcs N.arcs)] (LU N (List.replicate N.arcs.length 0) 1 sg):=
 (Jm N d a A c b o e sg).addnil 2 1 λ _ _=>I2
def nY(g:Gr)(sg e:Int)(l:LI_):Prop:=
 (ex g=0/\(sg=112\/sg=116)/\e=0/\∃ (f:LI_) (ph wk:Nat),jA (dO g) f/\Dn (dO g) 1 (List.replicate (dO g).arcs.length 0) ph wk f/\l=dV f g.left.toNat g.edges.length)\/
 (ex g=0/\¬ (sg=112\/sg=116)/\e=1/\l=[])\/
 (ex g≠0/\e=ex g/\l=[])
theorem nY.uniq{g:Gr}(i:g.Fits){sg e c:Int}{l d:LI_}(h:nY g sg e l)(j:nY g sg c d):e=c/\l=d:=by
 rcases h with ⟨a,b,rfl,f,o,p,q,k,rfl⟩|⟨a,b,rfl,rfl⟩|⟨a,rfl,rfl⟩<;>rcases j with ⟨g1,g2,rfl,f',m,n,g3,g4,rfl⟩|⟨g1,g2,rfl,rfl⟩|⟨g1,rfl,rfl⟩
 ·obtain⟨rfl,_,_⟩:=k.uniq (mp ((iL i).1 a)) ab g4;exact gY
 ·exact absurd b g2
 ·exact absurd a g1
 ·exact absurd g2 b
 ·exact gY
 ·exact absurd a g1
 ·exact absurd g1 a
 ·exact absurd g1 a
 ·exact gY
def LL(g:Gr)(sg:Int)(v:Value)(H':Heap):Prop:=∃ (e:Int) (l:LI_) (A:OA_) (c:Nat),nY g sg e l/\v=.tuple #[.slice A l.length c,.int .i64 e]/\H'=[.own (.slice A l.length c) 3 1 l.length (aj l)]
theorem Fp(sg:Int)(g:Gr)(n:g.Fits)(A:OA_)(c b o:Nat)(r:g.edges≠[]->A=some ⟨b,o,none⟩):Fn 125 [xj g A c,.int .u8 sg] [] [.seg b o (fL g.edges)] (LL g sg):=by
 by_cases a:ex g=0/\(sg=112\/sg=116)
 ·have i:=(iL n).1 a.1;have s:=i.left;refine (Ds sg a.2 g i A c b o r g.left.toNat aa).mono ?_;rintro v H' ⟨f,x,y,t,u,z,B,rfl,rfl⟩;exact⟨0,_,t,u,.inl ⟨a.1,a.2,rfl,f,x,y,z,B,rfl⟩,rfl,rfl⟩
 refine aT Tryz.func125 λ w0=>?_;refine bA ?_;refine dh (cs:=rE g A c) λ I=>?_;refine fR ?_;refine bh (v:=xj g A c) 0 ?_;refine dB (FM g n A c b o r) rfl ⟨bx 1 rfl,be⟩ ?_;rintro v H' (⟨j,A1,w,rfl,rfl⟩|⟨j,rfl,rfl⟩)
 case inr=>
  refine rN ?_;refine dM λ C=>?_;refine nW ?_;refine ak rfl (λ _=>?_) (λ h=>absurd j h);refine ao ?_;exact b6 3 1<|aL [0] ⟨_,rfl,ex g,[],none,0,.inr (.inr ⟨j,rfl,rfl⟩),rfl,rfl⟩
 have l:¬ (sg=112\/sg=116):=λ h=>a ⟨j,h⟩;have i:=mp ((iL n).1 j);refine dE ?_;refine fj (aH 0 rfl) λ ⟨_,_,d,q⟩=>?_;obtain⟨g1,d⟩:=bo d q;have m:(dO g).arcs≠[]->A1=aJ g1 0:=λ h=>d (λ D=>h (Nw.1 (by have:=n7 (dO g).arcs;rw[D] at this;simp at this;omega)));refine az ?_;refine dM λ C=>?_;refine nW ?_;refine ak rfl (λ h=>absurd rfl h) (λ _=>ag ?_);refine bA ?_;refine bh (v:=cd (dO g) A1 w) 0 ?_;refine az ?_;refine dB (J3 (dO g) i.fits' i.len A1 w g1 0 m sg) rfl ⟨gy 1 rfl d,be⟩ ?_;rintro v H' ⟨e,f',p,k,E,t,u,F,_,rfl,rfl⟩
 have he:e=1:=by
  rcases F with ⟨_,H,_⟩|⟨_,_,rfl,_⟩|⟨s,_⟩
  ·exact absurd H l
  ·rfl
  ·exact absurd (rO.2 ⟨i,iS _ i,ab⟩) s
 subst he;refine rN ?_;refine dM λ K=>?_;refine nW ?_;refine ak rfl (λ _=>?_) (λ h=>absurd ab h);refine ao ?_;exact b6 3 1<|aL [0] ⟨_,rfl,1,[],none,0,.inr (.inl ⟨j,l,rfl,rfl⟩),rfl,rfl⟩
def xn(g:Gr)(v:Int)(k:Nat):LI_:=((g.edges.take k).filter λ e=>decide (e.l=v)).map (·.r)
theorem D0{g:Gr}{k:Nat}{e:np}(h:g.edges[k]?=some e)(v:Int):xn g v (k+1)=xn g v k++(if e.l=v then [e.r] else []):=by
 unfold xn;rw[Nv,h,P0,Pr,NJ]
 congr 1
 by_cases a:e.l=v
 ·simp[a]
 ·simp[a]
theorem sU(g:Gr)(v:Int)(k:Nat):(xn g v k).length<=k:=by
 unfold xn;rw[Nj];refine Ot (OA _ _) ?_;rw[ND];omega
theorem zJ{g:Gr}{v w:Int}:w∈xn g v g.edges.length↔∃ e∈g.edges,e.l=v/\e.r=w:=by
 unfold xn;rw[NH];simp only[NB,Pc,NW]
 constructor
 ·rintro⟨e,⟨a,b⟩,c⟩;exact⟨e,a,b,c⟩
 ·rintro⟨e,a,b,c⟩;exact⟨e,⟨a,b⟩,c⟩
def kD(g:Gr)(key val:np->Int)(n:Nat)(l:LI_):LI_:=l.foldl (λ m x=>match g.edges[x.toNat]? with|some e=>m.set (key e).toNat (val e)|none=>m) (List.replicate n 0)
theorem wg(g:Gr)(key val:np->Int)(n:Nat)(l:LI_)(x:Int){e:np}(he:g.edges[x.toNat]?=some e):kD g key val n (l++[x])=(kD g key val n l).set (key e).toNat (val e):=by
 unfold kD;rw[O4,OF,List.foldl_nil,he]
theorem kb(g:Gr)(key val:np->Int)(n:Nat)(l:LI_):(kD g key val n l).length=n:=by
 unfold kD
 have key:∀ (l:LI_) (m:LI_),m.length=n->(l.foldl (λ m x=>match g.edges[x.toNat]? with|some e=>m.set (key e).toNat (val e)|none=>m) m).length=n:=by
  intro l
  induction l with
  |nil=>exact λ m h=>h
  |cons x l a=>
   intro m h;rw[OF];refine a _ ?_;split
   ·rw[NQ];exact h
   ·exact h
 exact key l _ ai
def vz(g:Gr)(key:np->Int)(l:LI_)(v:Int):Prop:=∃ x∈l,∃ e,g.edges[x.toNat]?=some e/\key e=v
theorem mX(g:Gr)(key val:np->Int)(n v:Nat)(w:v<n)(f:Int):∀ (l:LI_) (m:LI_),m.length=n->(∀ x∈l,∀ e,g.edges[x.toNat]?=some e->0<=key e)->(∀ x∈l,∀ e,g.edges[x.toNat]?=some e->key e=v->val e=f)->
 ((vz g key l v->(l.foldl (λ m x=>match g.edges[x.toNat]? with|some e=>m.set (key e).toNat (val e)|none=>m) m)[v]?=some f)/\(¬ vz g key l v->(l.foldl (λ m x=>match g.edges[x.toNat]? with|some e=>m.set (key e).toNat (val e)|none=>m) m)[v]?=m[v]?))/\
 (m[v]?=some f->(l.foldl (λ m x=>match g.edges[x.toNat]? with|some e=>m.set (key e).toNat (val e)|none=>m) m)[v]?=some f)
 |[],m,_,_,_=>⟨⟨λ ⟨_,h,_⟩=>absurd h ai,λ _=>rfl⟩,id⟩
 |x::l,m,hm,z,A=>by
  rw[OF];have p:∀ y∈l,∀ e,g.edges[y.toNat]?=some e->0<=key e:=λ y b=>z y (by simp[b]);have q:∀ y∈l,∀ e,g.edges[y.toNat]?=some e->key e=v->val e=f:=λ y b=>A y (by simp[b])
  cases he:g.edges[x.toNat]? with
  |none=>
   simp only;have i:=mX g key val n v w f l m hm p q;refine⟨⟨λ ⟨y,b,e,j,s⟩=>?_,λ c=>i.1.2 λ ⟨y,b,r⟩=>c ⟨y,by simp[b],r⟩⟩,i.2⟩
   rcases Nl.1 b with rfl|b
   ·rw[he] at j;cases j
   ·exact i.1.1 ⟨y,b,e,j,s⟩
  |some e=>
   simp only;have i:=mX g key val n v w f l (m.set (key e).toNat (val e)) (by rw[NQ];exact hm) p q;have B:=z x ai e he;by_cases o:key e=v
   ·have t:=A x ai e he o;have u:(key e).toNat=v:=aa;have d:(m.set (key e).toNat (val e))[v]?=some f:=by rw[u,List.getElem?_set_self aa,t]
    have k:=i.2 d;exact⟨⟨λ _=>k,λ c=>absurd ⟨x,ai,e,he,o⟩ c⟩,λ _=>k⟩
   ·have u:(key e).toNat≠v:=by omega
    have d:(m.set (key e).toNat (val e))[v]?=m[v]?:=Nq u;rw[d] at i;refine⟨⟨λ ⟨y,b,a,j,s⟩=>?_,λ c=>i.1.2 λ ⟨y,b,r⟩=>c ⟨y,by simp[b],r⟩⟩,i.2⟩
    rcases Nl.1 b with rfl|b
    ·rw[he] at j;simp only[Na] at j;rw[<- j] at s;exact absurd s o
    ·exact i.1.1 ⟨y,b,a,j,s⟩
theorem vb{g:Gr}{l:LI_}(hM:ed g l){x y:Int}{a b:np}(m:x∈l)(n:y∈l)(o:g.edges[x.toNat]?=some a)(p:g.edges[y.toNat]?=some b)(h:a.l=b.l\/a.r=b.r):x=y:=by
 rcases Int.lt_trichotomy x y with f|f|f
 ·obtain⟨i,hi,rfl⟩:=NT.1 m;obtain⟨j,e,rfl⟩:=NT.1 n
  have c:i<j:=by
   refine NE λ k=>?_
   rcases Pv (Nat.le_of_not_lt k) with d|d
   ·have:=(N6.1 hM.rise) j i e hi d;omega
   ·subst d;omega
  have:=(N6.1 hM.apart) i j hi e c a b o p;omega
 ·exact f
 ·obtain⟨i,hi,rfl⟩:=NT.1 m;obtain⟨j,e,rfl⟩:=NT.1 n
  have c:j<i:=by
   refine NE λ k=>?_
   rcases Pv (Nat.le_of_not_lt k) with d|d
   ·have:=(N6.1 hM.rise) i j hi e d;omega
   ·subst d;omega
  have:=(N6.1 hM.apart) j i e hi c b a p o;omega
theorem oZ{g:Gr}(j:g.Right){l:LI_}(hM:ed g l){key val:np->Int}(h:key=(·.l)\/key=(·.r)){n v:Nat}(k:v<n){x:Int}{e:np}(i:x∈l)(he:g.edges[x.toNat]?=some e)(b:key e=v):(kD g key val n l)[v]?=some (val e):=by
 unfold kD;refine (mX g key val n v k (val e) l _ ai (λ y _ a c=>?_) (λ y m a c d=>?_)).1.1 ⟨x,i,e,he,b⟩
 ·have:=j.edge a (M9 c)
  rcases h with rfl|rfl<;>simp only<;>omega
 ·have f:x=y:=vb hM i m he c (by rcases h with rfl|rfl<;>simp only at b d<;>omega);rw[f,c] at he;rw[NM he]
theorem va{g:Gr}(f:g.Right){l:LI_}{key val:np->Int}(h:key=(·.l)\/key=(·.r)){n v:Nat}(e:v<n)(b:¬ vz g key l v):(kD g key val n l)[v]?=some 0:=by
 unfold kD
 rw[(mX g key val n v e 0 l _ ai (λ y _ a c=>by
  have:=f.edge a (M9 c)
  rcases h with rfl|rfl<;>simp only<;>omega) (λ y i a c d=>absurd ⟨y,i,a,c,d⟩ b)).1.2 b]
 simp[e]
structure e7 (ends:Nat->LI_) (back:LI_) (l r:LB_) (m:Bool) (l' r':LB_) (m':Bool):Prop where
 ll:l'.length=l.length
 rl:r'.length=r.length
 lm:∀ v:Nat,l[v]?=some true->l'[v]?=some true
 rm:∀ w:Nat,r[w]?=some true->r'[w]?=some true
 mm:m=true->m'=true
 newL:∀ v:Nat,l'[v]?=some true->l[v]?≠some true->∀ w∈ends v,r'[w.toNat]?=some true
 newR:∀ w:Nat,r'[w]?=some true->r[w]?≠some true->(back.getD w 0=0->m'=true)/\(back.getD w 0≠0->l'[(back.getD w 0).toNat]?=some true)
theorem e7.refl{ends:Nat->LI_}{back:LI_}{l r:LB_}{m:Bool}:e7 ends back l r m l r m:=⟨rfl,rfl,λ _ h=>h,λ _ h=>h,id,λ _ h a=>absurd h a,λ _ h a=>absurd h a⟩
theorem e7.trans{ends:Nat->LI_}{back:LI_}{l r b c g i:LB_}{m m1 m2:Bool}(h:e7 ends back l r m b c m1)(k:e7 ends back b c m1 g i m2):e7 ends back l r m g i m2:=by
 refine⟨k.ll.trans h.ll,k.rl.trans h.rl,λ v d=>k.lm v (h.lm v d),λ w hw=>k.rm w (h.rm w hw),λ hm=>k.mm (h.mm hm),λ v d f w hw=>?_,λ w hw f=>?_⟩
 ·by_cases a:b[v]?=some true
  ·exact k.rm _ (h.newL v a f w hw)
  ·exact k.newL v d a w hw
 ·by_cases a:c[w]?=some true
  ·have:=h.newR w a f;exact⟨λ e=>k.mm (this.1 e),λ e=>k.lm _ (this.2 e)⟩
  ·exact k.newR w hw a
theorem uf:∀ (l a:LB_),a.length=l.length->(∀ v:Nat,l[v]?=some true->a[v]?=some true)->a.count false<=l.count false
 |[],[],_,_=>Np _
 |[],_::_,h,_=>by simp at h
 |_::_,[],h,_=>by simp at h
 |b::l,d::a,h,hm=>by
  have e:=uf l a (by simpa using h) λ v f=>by have:=hm (v+1) (by rw[N8];exact f);rwa [N8] at this
  have c:=hm 0;simp only[Oe,Na] at c;simp only[List.count_cons]
  cases b with
  |false=>cases d<;>simp<;>omega
  |true=>rw[c rfl];simpa using e
structure Ll (AL AR:Nat->Prop) (back:LI_) (l r:LB_) (m:Bool):Prop where
 left:∀ v:Nat,l[v]?=some true->AL v
 right:∀ w:Nat,r[w]?=some true->AR w
 more:m=true->∃ w,AR w/\back.getD w 0=0
theorem e7.mark{ends:Nat->LI_}{back:LI_}{l r a c:LB_}{m b:Bool}{w:Nat}(h:e7 ends back l (r.set w true) m a c b)(hw:w<r.length)(d:back.getD w 0=0->b=true)(f:back.getD w 0≠0->a[(back.getD w 0).toNat]?=some true):e7 ends back l r m a c b:=by
 refine⟨h.ll,by rw[h.rl,NQ],h.lm,λ u hu=>h.rm u ?_,h.mm,h.newL,λ u hu g=>?_⟩
 ·by_cases e:w=u
  ·subst e;exact No hw
  ·rw[Nq e];exact hu
 ·by_cases e:w=u
  ·subst e;exact⟨d,f⟩
  ·exact h.newR u hu (by rw[Nq e];exact g)
structure WK where
 p15:Nat
 p7:Nat
 p16:Nat
 p11:Nat
 p17:Nat
 p18:Nat
 gl:Nat
 gr:Nat
 gb:Nat
 ge:Nat
 nl:Nat
 nr:Nat
 rows:List ff
 back:LI_
def WK.fn(K:WK):Value:=.func (.func 155) #[] #[.pointer (some ⟨K.p15,0,none⟩),.pointer (some ⟨K.p7,0,none⟩),.pointer (some ⟨K.p16,0,none⟩),.pointer (some ⟨K.p11,0,none⟩),.pointer (some ⟨K.p17,0,none⟩),.pointer (some ⟨K.p18,0,none⟩)]
def K0(K:WK)(l r:LB_)(m:Bool):Heap:=
 [blk K.p15 104 [.slice (some ⟨K.gl,0,none⟩) (K.nl+1) (K.nl+1)],blk K.p7 162 [.slice (some ⟨K.ge,0,none⟩) (K.nl+1) (K.nl+1)],blk K.p16 104 [.slice (some ⟨K.gr,0,none⟩) (K.nr+1) (K.nr+1)],blk K.p11 23 [.slice (some ⟨K.gb,0,none⟩) (K.nr+1) (K.nr+1)],blk K.p17 4 [.bool m],blk K.p18 218 [K.fn],
  .own (.slice (some ⟨K.gl,0,none⟩) (K.nl+1) (K.nl+1)) 4 1 (K.nl+1) (dK l),.own (.slice (some ⟨K.gr,0,none⟩) (K.nr+1) (K.nr+1)) 4 1 (K.nr+1) (dK r),.own (.slice (some ⟨K.gb,0,none⟩) (K.nr+1) (K.nr+1)) 3 1 (K.nr+1) (aj K.back),.own (.slice (some ⟨K.ge,0,none⟩) (K.nl+1) (K.nl+1)) 23 1 (K.nl+1) (K.rows.map cT)]++K.rows.map (bg 3)
structure WK.OK (K:WK) (ends:Nat->LI_):Prop where
 nl:K.nl<=200
 nr:K.nr<=200
 rows:K.rows.length=K.nl+1
 row:∀ (v:Nat) (row:ff),K.rows[v]?=some row->row.l=ends v
 len:∀ v,(ends v).length<=1500
 ends:∀ v,∀ w∈ends v,1<=w/\w<=K.nr
 back:∀ w,w<=K.nr->∃ y:Nat,K.back[w]?=some (y:Int)/\y<=K.nl
structure M7 where
 i:Nat
 l:LB_
 r:LB_
 m:Bool
theorem Jz(K:WK)(ends:Nat->LI_)(I:K.OK ends)(E F:Nat->Prop)(hb:∀ v w,E v->w∈ends v->F w.toNat)(hq:∀ w:Nat,F w->K.back.getD w 0≠0->E (K.back.getD w 0).toNat):
 ∀ (n:Nat) (l r:LB_) (m:Bool) (v:Nat),l.count false<=n->l.length=K.nl+1->r.length=K.nr+1->l[v]?=some false->E v->Ll E F K.back l r m->
 Fn 155 [.int .i64 (v:Int),.pointer (some ⟨K.p15,0,none⟩),.pointer (some ⟨K.p7,0,none⟩),.pointer (some ⟨K.p16,0,none⟩),.pointer (some ⟨K.p11,0,none⟩),.pointer (some ⟨K.p17,0,none⟩),.pointer (some ⟨K.p18,0,none⟩)] (ay (K0 K l r m)) ([]++K0 K l r m)
  λ _ H'=>∃ l' r' m',H'=K0 K l' r' m'/\e7 ends K.back l r m l' r' m'/\Ll E F K.back l' r' m'/\l'[v]?=some true:=by
 intro n
 induction n with
 |zero=>
  intro l r m v hc _ _ hv;have:0<l.count false:=List.count_pos_iff.2 (M9 hv);omega
 |succ n ih=>
  intro l r m v hc V hf hv X hS;have L:v<K.nl+1:=by rw[<- V];exact (Nb.1 hv).1
  have hd:=I.nl;have e2:=I.nr;obtain⟨row,q⟩:∃ row,K.rows[v]?=some row:=⟨_,an (by rw[I.rows];exact L)⟩;have p:=I.row v row q;have hlen:=I.len v;rw[<- p] at hlen;have Y:=Ni (f:=cT) (l:=K.rows) (i:=v);rw[q] at Y
  generalize hM:ay _=M
  refine aT Tryz.func155 λ w0=>?_;refine jh ?_;refine az ?_;refine aG (bG rfl L) ?_;refine aY 6 rfl rfl rfl rfl (kt rfl aa) [] rfl<|ah<|bQ (K:=K0 K (l.set v true) r m) aw.refl<|qn ?_;refine aG (bG rfl L) ?_;refine aG (aA (v:=cT row) 9 rfl rfl rfl Y) ?_;refine aN ?_;refine aP (aH (v+10) (show _=some (bg 3 row) by show (K.rows.map (bg 3))[v]?=_;rw[Ni,q];rfl)) λ ⟨_,e1,N,Z⟩=>?_;obtain⟨gv,N⟩:=bo N Z;refine gz ?_
  have hs:Ll E F K.back (l.set v true) r m:=by
   refine⟨λ u hu=>?_,hS.right,hS.more⟩;by_cases e:v=u
   ·subst e;exact X
   ·rw[Nq e] at hu;exact hS.left u hu
  refine cN (σ:=M7) (λ s=>[(18,af s.i),(17,af row.l.length),(16,cT row),(1,ap K.p15 0),(2,ap K.p7 0),(3,ap K.p16 0),(4,ap K.p11 0),(5,ap K.p17 0),(6,ap K.p18 0)])
   (λ s=>K0 K s.l s.r s.m) (λ s=>s.i<=row.l.length/\e7 ends K.back (l.set v true) r m s.l s.r s.m/\Ll E F K.back s.l s.r s.m/\∀ (j:Nat) (w:Int),j<s.i->row.l[j]?=some w->s.r[w.toNat]?=some true) (λ s=>row.l.length-s.i)
   ⟨0,l.set v true,r,m⟩ a8 aw.refl ⟨Nk _,e7.refl,hs,λ j w hj=>absurd hj ai⟩ ?_
  rintro⟨i,d,k,m1⟩ ⟨hi,o,t,A⟩;simp only at hi o t A ⊢;refine ao ?_;refine am (ak rfl (λ O=>ag ?_) (λ ho=>aO ?_))
  ·have O:i<row.l.length:=by omega
   obtain⟨wz,hw⟩:∃ w,row.l[i]?=some w:=⟨row.l[i],an O⟩;have hx:wz∈ends v:=by rw[<- p];exact M9 hw
   have c1:=I.ends v wz hx;obtain⟨w,rfl⟩:∃ w:Nat,wz=w:=⟨wz.toNat,aa⟩;have B:w<K.nr+1:=aa;have ha:k.length=K.nr+1:=by rw[o.rl,hf]
   have hk:d.length=K.nl+1:=by rw[o.ll,NQ,V]
   have hF:d[v]?=some true:=o.lm v (No aa)
   have h4:aj row.l≠[]:=λ U=>by
    have h1:(aj row.l).length=0:=by rw[U];rfl
    rw[bU] at h1;omega
   have H:=N h4;have P:F w:=by have:=hb v w X hx;rwa [Nz] at this
   obtain⟨bw,hR⟩:∃ bw,k[w]?=some bw:=⟨_,an aa⟩;obtain⟨y,hy,k3⟩:=I.back w aa;have x:K.back.getD w 0=(y:Int):=by rw[Nc,hy];rfl
   refine am (au ?_);refine aI ?_;refine aG (tC rfl (show _=some (Value.slice (some ⟨gv,0,none⟩) row.l.length row.c) by rw[<- H];rfl) rfl rfl rfl O) ?_;refine aG (dW (b:=gv) (off:=0) (i:=i) (cs:=aj row.l) (v:=af (w:Int)) (c:=bg 3 row) (v+10) rfl rfl (show (K.rows.map (bg 3))[v]?=_ by rw[Ni,q];rfl) (bi (λ _=>H)) (bq hw)) ?_;refine ew ?_;refine bh 2 ?_;refine az ?_;refine aG (bG rfl B) ?_;refine aG (aA 7 rfl rfl rfl (show (dK k)[w]?=some (.bool bw) from iC hR)) ?_;refine aN ?_
   have g:∀ (l2 Q:LB_) (m2:Bool),e7 ends K.back d k m1 l2 Q m2->Q[w]?=some true->∀ (j:Nat) (z:Int),j<i+1->row.l[j]?=some z->Q[z.toNat]?=some true:=by
    intro l2 Q m2 a hH j z hj hz;by_cases e:j=i
    ·subst e;rw[hw] at hz;simp only[Na] at hz;rw[<- hz,Nz];exact hH
    ·exact a.rm _ (A j z aa hz)
   cases bw with
   |true=>
    refine bD rfl (aO ?_);refine ao ?_;refine⟨⟨i+1,d,k,m1⟩,⟨?_,rfl,rfl,rfl,rfl,rfl,rfl,rfl,rfl,be⟩,aw.refl,⟨by simp only;omega,o,t,g d k m1 e7.refl hR⟩,by simp only;omega⟩;refine nb ?_;rw[cv aa];rfl
   |false=>
    refine bu rfl (ag ?_);refine aI ?_;refine bh 2 ?_;refine az ?_;refine aG (bG rfl B) ?_;refine aY 7 rfl rfl rfl rfl (kt rfl aa) [] rfl<|ah<|bQ (K:=K0 K d (k.set w true) m1) aw.refl<|?_
    have D:Ll E F K.back d (k.set w true) m1:=by
     refine⟨t.left,λ u hu=>?_,t.more⟩;by_cases e:w=u
     ·subst e;exact P
     ·rw[Nq e] at hu;exact t.right u hu
    have C:(k.set w true)[w]?=some true:=No aa;refine aI ?_;refine bh 3 ?_;refine az ?_;refine aG (bG rfl B) ?_;refine aG (aA 8 rfl rfl rfl (bq hy)) ?_;refine aN ?_;refine ak rfl (λ U=>?_) (λ U=>?_)
    ·refine aC (fG 4 rfl [] rfl ?_);refine dw ?_;have a:e7 ends K.back d k m1 d (k.set w true) true:=e7.mark (w:=w) ⟨rfl,rfl,λ _ h=>h,λ _ h=>h,λ _=>rfl,λ _ h h'=>absurd h h',λ _ h h'=>absurd h h'⟩ aa aE (λ h=>absurd (by rw[x];exact U) h);refine⟨⟨i+1,d,k.set w true,true⟩,⟨?_,rfl,rfl,rfl,rfl,rfl,rfl,rfl,rfl,be⟩,aw.refl,⟨by simp only;omega,o.trans a,⟨D.left,D.right,λ _=>⟨w,P,by rw[x];exact U⟩⟩,g _ _ _ a C⟩,by simp only;omega⟩;refine nb ?_;rw[cv aa];rfl
    have R:K.back.getD w 0≠0:=by rw[x];exact U
    have ht:y<K.nl+1:=aa;obtain⟨h3,S⟩:∃ b,d[y]?=some b:=⟨_,an aa⟩;refine cA ?_;refine bK 8 (dS [0,1,2,3,4,5,6,7]) [0,3,6,8] aW ab rfl<|bc rfl (ad 0 rfl) ?_;refine bc rfl (ad 1 rfl) ?_;refine a6 ?_;refine bc rfl (bG rfl B) ?_;refine bc rfl (aA 3 rfl rfl rfl (bq hy)) ?_;refine bc rfl (bG rfl ht) ?_;refine bc rfl (aA 2 rfl rfl rfl (show (dK d)[y]?=some (.bool h3) from iC S)) ?_;refine lh ?_
    cases h3 with
    |true=>
     refine bu rfl (ag ?_);refine ao ?_;have a:e7 ends K.back d k m1 d (k.set w true) m1:=e7.mark (w:=w) e7.refl aa (λ h=>absurd h R) (λ _=>by rw[x,Nz];exact S);refine⟨⟨i+1,d,k.set w true,m1⟩,⟨?_,rfl,rfl,rfl,rfl,rfl,rfl,rfl,rfl,be⟩,aw.refl,⟨by simp only;omega,o.trans a,D,g _ _ _ a C⟩,by simp only;omega⟩;refine nb ?_;rw[cv aa];rfl
    |false=>
     refine dy ?_;refine cA ?_
     have hA:d.count false<=n:=by
      have h1:=lU l v hv;have h2:=uf (l.set v true) d (by rw[o.ll]) o.lm;omega
     refine bK 6 (dS [0,1,2,3,4]++[(5,false)]) [3,5,8] aW ab rfl<|bc rfl (ad 1 rfl) ?_;refine bc rfl (ad 0 rfl) ?_;refine a6 ?_;refine bc rfl (bG rfl B) ?_;refine bc rfl (aA 2 rfl rfl rfl (bq hy)) ?_;refine cz ?_
     refine bJ (K:=[]) (fst:=[]) (cap:=[ap K.p15 0,ap K.p7 0,ap K.p16 0,ap K.p11 0,ap K.p17 0,ap K.p18 0]) []
      (ih d (k.set w true) m1 y hA hk (by rw[NQ];exact ha) S (by have:=hq w P R;rwa [x,Nz] at this) D) rfl rfl rfl rfl aW (by rw[NL];exact aw.refl) be aE ?_
     rintro vv H' ⟨l2,Q,m2,rfl,a,k2,hN⟩;rw[NL];refine⟨dc rfl (dd _ _),?_⟩;refine bZ [3,5,8]<|cP<|cS ?_;have hr:e7 ends K.back d k m1 l2 Q m2:=e7.mark (w:=w) a aa (λ h=>absurd h R) (λ _=>by rw[x,Nz];exact hN);refine⟨⟨i+1,l2,Q,m2⟩,⟨?_,rfl,rfl,rfl,rfl,rfl,rfl,rfl,rfl,be⟩,aw.refl,⟨by simp only;omega,o.trans hr,k2,g _ _ _ hr (a.rm w C)⟩,by simp only;omega⟩;refine nb ?_;rw[cv aa];rfl
  ·have hg:i=row.l.length:=by omega
   subst hg;refine⟨[],rfl,d,k,m1,rfl,⟨?_,o.rl,λ u hu=>?_,o.rm,o.mm,λ u hu hn w hw=>?_,o.newR⟩,t,o.lm v (No aa)⟩
   ·rw[o.ll,NQ]
   ·refine o.lm u ?_;by_cases e:v=u
    ·subst e;exact No aa
    ·rw[Nq e];exact hu
   ·by_cases e:v=u
    ·subst e;rw[<- p] at hw;obtain⟨j,hj,rfl⟩:=NT.1 hw;exact A j _ hj (an hj)
    ·exact o.newL u hu (by rw[Nq e];exact hn) w hw
inductive sX (g:Gr) (l:LI_):Nat->Prop
 |free (v:Nat):1<=v->(v:Int)<=g.left->¬ vz g (·.l) l v->sX g l v
 |step (e a:np) (x:Int):sX g l e.l.toNat->e∈g.edges->x∈l->g.edges[x.toNat]?=some a->a.r=e.r->sX g l a.l.toNat
def rY(g:Gr)(l:LI_)(w:Nat):Prop:=∃ e∈g.edges,sX g l e.l.toNat/\e.r=w
def M6(g:Gr)(l:LI_)(v:Value)(H':Heap):Prop:=
 (ed g l/\(∀ w,rY g l w->vz g (·.r) l w)/\∃ (sl sr:LI_) (Al Ar:OA_) (cl cr:Nat),fe g.left sl/\fe g.right sr/\(∀ v:Nat,1<=v->(v:Int)<=g.left->((v:Int)∈sl↔¬ sX g l v))/\(∀ w:Nat,1<=w->(w:Int)<=g.right->((w:Int)∈sr↔rY g l w))/\
  v=.tuple #[FL sl sr Al Ar cl cr,.int .i64 0]/\H'=[.own (.slice Ar sr.length cr) 3 1 sr.length (aj sr),.own (.slice Al sl.length cl) 3 1 sl.length (aj sl)])\/
 (ed g l/\(∃ w,rY g l w/\¬ vz g (·.r) l w)/\v=.tuple #[FL [] [] none none 0 0,.int .i64 9]/\H'=[])\/
 (¬ ed g l/\v=.tuple #[FL [] [] none none 0 0,.int .i64 1]/\H'=[])
theorem LR(g:Gr)(hg:g.Right)(A:OA_)(c b o:Nat)(hA:g.edges≠[]->A=some ⟨b,o,none⟩)(l:LI_)(hl:l.length<=100000)(hin:∀ x∈l,b9 x)(L:OA_)(cm bm om:Nat)(hL:l≠[]->L=some ⟨bm,om,none⟩):
 Fn 126 [xj g A c,.slice L l.length cm] [] [.seg b o (fL g.edges),.seg bm om (aj l)] (M6 g l):=by
 have h1:=hg.left;have h2:=hg.right;have h3:=hg.len;obtain⟨nl,hnl⟩:∃ n:Nat,g.left=n:=⟨g.left.toNat,aa⟩;obtain⟨nr,hnr⟩:∃ n:Nat,g.right=n:=⟨g.right.toNat,aa⟩;refine ie Tryz.func126 rfl rfl λ w0=>bA ?_;refine dh (cs:=rE g A c) λ p2=>?_;refine dM λ p4=>?_;refine Hi ?_;refine ak rfl (λ h=>absurd rfl h) (λ _=>ag ?_);refine bA ?_;refine bh (v:=xj g A c) 1 ?_;refine az ?_;refine cH (EG g hg A c b o hA l hl hin L cm bm om hL) rfl ⟨bx 2 rfl,bx 3 rfl,be⟩ ?_;refine az ?_;by_cases hM:ed g l
 rotate_left
 ·refine aB 29 (v':=.bool true) rfl (M8 Value.bool (by rw[aZ hM];rfl))<|ah<|dy ?_;refine bA ?_;refine fv ?_;refine qW ?_;exact⟨[_,_],[],_,⟨⟨p4,0,_,_,rfl,rfl,rfl⟩,rfl,be⟩,ab,rfl,.inr (.inr ⟨hM,rfl,rfl⟩)⟩
 refine aB 29 (v':=.bool false) rfl (M8 Value.bool (by rw[aV hM];rfl))<|ah<|bu rfl (ag ?_);refine qn ?_;refine aB 33 (v':=af ((nl+1:Nat):Int)) rfl (M8 (Value.int .i64) ((cv (n:=g.left+1) aa).trans aa))<|cY (n:=nl+1) (c:=nl+1) rfl rfl rfl rfl rfl rfl aa aa aa aE λ ge=>dM λ p7=>?_;refine tT ?_;rw[show made [Value.slice none 0 0] ((nl+1)*1)=(List.replicate (nl+1) ek).map cT by rw[db,NR,OH];rfl];refine aI ?_;refine bh 3 ?_;refine jb ?_;refine bQ (aw.nils 3 (nl+1)) ?_
 refine cN (σ:=Nat×List ff) (λ s=>[(38,af s.1),(37,af g.edges.length),(36,.slice A g.edges.length c),(7,ap p7 0),(4,ap p4 0),(2,ap p2 0),(1,.slice L l.length cm)])
  (λ s=>[blk p7 162 [ax ge 0 (nl+1) (nl+1)],.own (ax ge 0 (nl+1) (nl+1)) 23 1 (nl+1) (s.2.map cT),blk p4 182 [.slice none 0 0,.slice none 0 0],blk p2 178 (rE g A c),.seg b o (fL g.edges),.seg bm om (aj l)]++s.2.map (bg 3))
  (λ s=>s.1<=g.edges.length/\s.2.length=nl+1/\∀ (v:Nat) (r:ff),s.2[v]?=some r->r.l=xn g v s.1) (λ s=>g.edges.length-s.1)
  (0,List.replicate (nl+1) ek) a8 aw.refl ⟨Nk _,ai,λ v r h=>?_⟩ ?_
 ·rw[Nt] at h;split at h
  ·simp only[Na] at h;subst h;rfl
  ·cases h
 rintro⟨k,rows⟩ ⟨hk,hrows,htr⟩;simp only at hk hrows htr ⊢;refine ao ?_;refine am (ak rfl (λ hlt=>ag ?_) (λ hge=>aO ?_))
 ·have hlt:k<g.edges.length:=by omega
  obtain rfl:=hA (by intro h0;rw[h0] at hlt;simp at hlt);obtain⟨e,he⟩:∃ e,g.edges[k]?=some e:=⟨g.edges[k],an hlt⟩;have her:=hg.edge e (M9 he);obtain⟨v,hv⟩:∃ v:Nat,e.l=v:=⟨e.l.toNat,aa⟩;have hvn:v<rows.length:=aa;obtain⟨row,hrow⟩:∃ r,rows[v]?=some r:=⟨rows[v],an hvn⟩;have hrl':=htr v row hrow;have hlen:=sU g v k;rw[<- hrl'] at hlen;refine am (au ?_);refine tY ?_;refine aG (a7 4 rfl rfl (kr he)) ?_;refine dM λ p9=>?_;refine iG ?_;refine ou ?_;refine bQ (aw.front (i:=v) (c:=bg 3 row) (by rw[Ni,hrow];rfl)) ?_;refine cA ?_;refine bK 13 (dS [0,1,2,3,4,5,6,7,8,9]++[(10,false),(11,false)]++dS [12]) [1,2,3] aW ab rfl<|bc rfl (ad (v:=ax ge 0 (nl+1) (nl+1)) 1 rfl) ?_;refine i1 ?_;refine bc rfl (ad (v:=ax ge 0 (nl+1) (nl+1)) 1 rfl) ?_;refine i1 ?_;refine dG 44 (v':=af (v:Int)) rfl (M8 (Value.int .i64) hv)<|dG 47 (v':=af (v:Int)) rfl (M8 (Value.int .i64) hv)<|nJ ?_;refine bc rfl (aA (v:=cT row) 2 rfl rfl rfl (show (rows.map cT)[v]?=some (cT row) by rw[Ni,hrow];rfl)) ?_;refine i1 ?_;refine cz ?_;refine dp λ g2=>?_;refine bZ [2,3,4]<|cz ?_;refine bp (n:=row.l.length) (m:=1) (off:=0) (news:=aj [e.r]) 1 0 rfl rfl rfl rfl rfl rfl ab rfl rfl (aQ g2 _ _ (0,0)) aE rfl rfl aa aa (λ _ _=>rfl) λ A2 c2=>?_;rw[show row.l.length+1=(row.l++[e.r]).length by simp,show aj row.l++aj [e.r]=aj (row.l++[e.r]) by simp[aj]];refine Ia ?_;refine⟨(k+1,rows.set v ⟨A2,c2,row.l++[e.r]⟩),⟨?_,rfl,rfl,rfl,rfl,rfl,rfl,be⟩,?_,⟨by simp only;omega,by simp only[NQ];omega,λ u q hu=>?_⟩,by simp only;omega⟩
  ·refine fJ ?_;rw[cv aa];rfl
  ·simp only[O1];refine aw.trans (aw.sub (NU _ _)) (aw.trans (aw.back (A:=[_,_,_,_,_,_,_]) (by rw[Nj];exact hvn)) (aw.sub (NU _ _)))
  ·simp only at hu ⊢;rw[D0 he];by_cases huv:v=u
   ·subst huv;rw[No hvn] at hu;simp only[Na] at hu;rw[<- hu,if_pos hv,hrl']
   ·rw[Nq huv] at hu;rw[if_neg aa,NL];exact htr u q hu
 ·have hk':k=g.edges.length:=by omega
  subst hk'
  refine iB (σ:=Nat×Nat×Nat) (λ s=>[(10,ax s.1 0 (nl+1) (nl+1)),(11,ap s.2.2 0),(63,ax s.2.1 0 (nr+1) (nr+1)),(7,ap p7 0),(4,ap p4 0),(2,ap p2 0),(1,.slice L l.length cm)])
   (λ s=>[.own (ax s.1 0 (nl+1) (nl+1)) 3 1 (nl+1) (aj (List.replicate (nl+1) 0)),.own (ax s.2.1 0 (nr+1) (nr+1)) 3 1 (nr+1) (aj (List.replicate (nr+1) 0)),blk s.2.2 23 [ax s.2.1 0 (nr+1) (nr+1)],
    blk p7 162 [ax ge 0 (nl+1) (nl+1)],.own (ax ge 0 (nl+1) (nl+1)) 23 1 (nl+1) (rows.map cT),blk p4 182 [.slice none 0 0,.slice none 0 0],blk p2 178 (rE g A c),.seg b o (fL g.edges),.seg bm om (aj l)]++rows.map (bg 3)) ?_ ?_
  ·refine lz (Sf:=[blk p2 178 (rE g A c)])<|jY [0,1,2,4,5,6] bC [3] ab rfl<|i1 ?_;refine i1 ?_;refine a6 ?_;refine cP<|mw 58 (v':=af ((nl+1:Nat):Int)) rfl (M8 (Value.int .i64) ((cv (n:=g.left+1) aa).trans aa))<|mw 62 (v':=af ((nr+1:Nat):Int)) rfl (M8 (Value.int .i64) ((cv (n:=g.right+1) aa).trans aa))<|?_
   (repeat' (first|exact be|refine av 3 [7,8] bC ab ?_|refine av 7 [8] bC ab ?_|refine av 7 [9] bC ab ?_|refine av 3 [8] bC ab ?_|refine av 3 [7] bC ab ?_|refine av 3 [] bC ab ?_|refine av 7 [] bC ab ?_|refine av 8 [] bC ab ?_|refine av 9 [] bC ab ?_|refine av 10 [] bC ab ?_|refine⟨⟨_,rfl,?_⟩,?_⟩|refine cY (n:=nl+1) (c:=nl+1) rfl rfl rfl rfl rfl rfl aa aa aa aE λ go=>?_|refine cY (n:=nr+1) (c:=nr+1) rfl rfl rfl rfl rfl rfl aa aa aa aE λ go=>?_|refine nq rfl rfl rfl aE λ p11=>?_|refine fG 0 rfl [] rfl ?_|refine fG 1 rfl [] rfl ?_|refine fG 2 rfl [] rfl ?_|refine bZ [4] ?_|refine bZ [5] ?_|refine bZ [6] ?_|refine c8 [] rfl ⟨⟨[4],ab,rfl⟩,?_⟩|refine c8 [] rfl ⟨⟨[5],ab,rfl⟩,?_⟩|refine c8 [] rfl ⟨⟨[6],ab,rfl⟩,?_⟩|refine fb bC ⟨(_,_,_),a8,?_⟩))
   all_goals rw[show made [af 0] ((nl+1)*1)=aj (List.replicate (nl+1) 0) by rw[db,NR];simp[aj],show made [af 0] ((nr+1)*1)=aj (List.replicate (nr+1) 0) by rw[db,NR];simp[aj]]
   all_goals (first|exact aw.re (A:=[_,_,_,_,_,_,_,_,_]) [0,1,2,3,4,5,6,7,8] rfl ab|exact aw.re (A:=[_,_,_,_,_,_,_,_,_]) [0,2,1,3,4,5,6,7,8] rfl ab|exact aw.re (A:=[_,_,_,_,_,_,_,_,_]) [1,0,2,3,4,5,6,7,8] rfl ab|exact aw.re (A:=[_,_,_,_,_,_,_,_,_]) [1,2,0,3,4,5,6,7,8] rfl ab|exact aw.re (A:=[_,_,_,_,_,_,_,_,_]) [2,0,1,3,4,5,6,7,8] rfl ab|exact aw.re (A:=[_,_,_,_,_,_,_,_,_]) [2,1,0,3,4,5,6,7,8] rfl ab)
  ·rintro⟨q10,gb,p11⟩;simp only;have hrg:=hM.rng;refine aI ?_;refine jb ?_
   refine cN (σ:=Nat) (λ k=>[(66,af k),(65,af l.length),(64,.slice L l.length cm),(10,ax q10 0 (nl+1) (nl+1)),(11,ap p11 0),(7,ap p7 0),(4,ap p4 0),(2,ap p2 0)])
    (λ k=>[.own (ax q10 0 (nl+1) (nl+1)) 3 1 (nl+1) (aj (kD g (·.l) (·.r) (nl+1) (l.take k))),.own (ax gb 0 (nr+1) (nr+1)) 3 1 (nr+1) (aj (kD g (·.r) (·.l) (nr+1) (l.take k))),blk p11 23 [ax gb 0 (nr+1) (nr+1)],
     blk p7 162 [ax ge 0 (nl+1) (nl+1)],.own (ax ge 0 (nl+1) (nl+1)) 23 1 (nl+1) (rows.map cT),blk p4 182 [.slice none 0 0,.slice none 0 0],blk p2 178 (rE g A c),.seg b o (fL g.edges),.seg bm om (aj l)]++rows.map (bg 3))
    (λ k=>k<=l.length) (λ k=>l.length-k) 0 a8 aw.refl (Nk _) ?_
   intro k hk;refine ao ?_;refine am (ak rfl (λ hlt=>ag ?_) (λ hge=>aO ?_))
   ·have hlt:k<l.length:=by omega
    obtain rfl:=hL (by intro h0;rw[h0] at hlt;simp at hlt);obtain⟨x,hx⟩:∃ x,l[k]?=some x:=⟨l[k],an hlt⟩;have hxr:=hrg x (M9 hx);have htk:l.take (k+1)=l.take k++[x]:=by rw[Nv,hx];rfl
    obtain⟨m,rfl⟩:∃ m:Nat,x=m:=⟨x.toNat,aa⟩;have hme:m<g.edges.length:=aa;obtain rfl:=hA (by intro h0;rw[h0] at hme;simp at hme);obtain⟨e,he⟩:∃ e,g.edges[m]?=some e:=⟨g.edges[m],an hme⟩;have her:=hg.edge e (M9 he);have he':g.edges[((m:Nat):Int).toNat]?=some e:=by rw[Nz];exact he
    obtain⟨el,hel⟩:∃ n:Nat,e.l=n:=⟨e.l.toNat,aa⟩;obtain⟨er,her2⟩:∃ n:Nat,e.r=n:=⟨e.r.toNat,aa⟩;refine am (au ?_);refine jc ?_;refine aG (a7 8 rfl rfl (bq hx)) ?_;refine ew ?_;refine bh 6 ?_;refine az ?_;refine aG (j9 rfl hme) ?_;refine aG (a7 7 rfl rfl (kr he)) ?_;refine dM λ p14=>?_;refine dz 0 ?_;refine fw ?_;refine bK 13 (dS [0,1,2,3,4,5,6,7,8,9,10]++[(11,false)]++dS [12]) [0,3] aW ab rfl<|i1 ?_;refine bc rfl (ad 1 rfl) ?_;refine i1 ?_;refine i1 ?_;refine i1 ?_;refine dG 77 (v':=af (el:Int)) rfl (M8 (Value.int .i64) hel)<|dG 80 (v':=af (er:Int)) rfl (M8 (Value.int .i64) her2)<|nJ ?_;refine cz ?_;refine aY 1 rfl rfl rfl rfl (fF rfl (by rw[kb];omega)) [] rfl<|bZ [0,3]<|nJ ?_;refine cP<|aY 2 rfl rfl rfl rfl (fF rfl (by rw[kb];omega)) [] rfl<|dw ?_;refine⟨k+1,⟨?_,rfl,rfl,rfl,rfl,rfl,rfl,rfl,be⟩,?_,aa,aa⟩
    ·refine fJ ?_;rw[cv aa];rfl
    ·rw[htk,wg g (·.l) (·.r) _ _ _ he',wg g (·.r) (·.l) _ _ _ he',show e.l.toNat=el by omega,show e.r.toNat=er by omega];exact aw.sub (NU _ _)
   ·obtain rfl:k=l.length:=by omega
    rw[NH]
    refine iB (σ:=Nat×Nat×Nat×Nat) (λ s=>[(15,ap s.1 0),(16,ap s.2.1 0),(91,ax s.2.2.1 0 (nl+1) (nl+1)),(95,ax s.2.2.2 0 (nr+1) (nr+1)),(10,ax q10 0 (nl+1) (nl+1)),(11,ap p11 0),(7,ap p7 0),(4,ap p4 0),(2,ap p2 0)])
     (λ s=>[blk s.1 104 [ax s.2.2.1 0 (nl+1) (nl+1)],blk s.2.1 104 [ax s.2.2.2 0 (nr+1) (nr+1)],.own (ax s.2.2.1 0 (nl+1) (nl+1)) 4 1 (nl+1) (dK (List.replicate (nl+1) false)),.own (ax s.2.2.2 0 (nr+1) (nr+1)) 4 1 (nr+1) (dK (List.replicate (nr+1) false)),
      .own (ax q10 0 (nl+1) (nl+1)) 3 1 (nl+1) (aj (kD g (·.l) (·.r) (nl+1) l)),.own (ax gb 0 (nr+1) (nr+1)) 3 1 (nr+1) (aj (kD g (·.r) (·.l) (nr+1) l)),blk p11 23 [ax gb 0 (nr+1) (nr+1)],
      blk p7 162 [ax ge 0 (nl+1) (nl+1)],.own (ax ge 0 (nl+1) (nl+1)) 23 1 (nl+1) (rows.map cT),blk p4 182 [.slice none 0 0,.slice none 0 0],blk p2 178 (rE g A c),.seg b o (fL g.edges),.seg bm om (aj l)]++rows.map (bg 3)) ?_ ?_
    ·refine lz (Sf:=[blk p2 178 (rE g A c)])<|jY [0,1,2,4,5,6] bC [6] ab rfl<|i1 ?_;refine i1 ?_;refine a6 ?_;refine cP<|mw 90 (v':=af ((nl+1:Nat):Int)) rfl (M8 (Value.int .i64) ((cv (n:=g.left+1) aa).trans aa))<|mw 94 (v':=af ((nr+1:Nat):Int)) rfl (M8 (Value.int .i64) ((cv (n:=g.right+1) aa).trans aa))<|?_
     (repeat' (first|exact be|refine⟨⟨_,rfl,?_⟩,?_⟩|refine cY (n:=nl+1) (c:=nl+1) rfl rfl rfl rfl rfl rfl (by omega) (by omega) (by omega) (λ _=>rfl) λ go=>?_|refine cY (n:=nr+1) (c:=nr+1) rfl rfl rfl rfl rfl rfl (by omega) (by omega) (by omega) (λ _=>rfl) λ go=>?_|refine nq rfl rfl rfl (λ _=>rfl) λ pa=>?_|refine fG 0 rfl [] rfl ?_|refine fG 1 rfl [] rfl ?_|refine fG 2 rfl [] rfl ?_|refine fG 3 rfl [] rfl ?_|refine ah ⟨⟨[7],by decide,rfl⟩,?_⟩|refine ah ⟨⟨[8],by decide,rfl⟩,?_⟩|refine ah ⟨⟨[9],by decide,rfl⟩,?_⟩|refine ah ⟨⟨[10],by decide,rfl⟩,?_⟩|refine av 3 [7,8,9] (by decide+kernel) (by decide) ?_|refine av 7 [8,9] (by decide+kernel) (by decide) ?_|refine av 8 [9] (by decide+kernel) (by decide) ?_|refine av 9 [] (by decide+kernel) (by decide) ?_|refine av 10 [] (by decide+kernel) (by decide) ?_|refine av 11 [] (by decide+kernel) (by decide) ?_|refine av 8 [] (by decide+kernel) (by decide) ?_|refine av 7 [9] (by decide+kernel) (by decide) ?_|refine av 7 [10] (by decide+kernel) (by decide) ?_|refine av 7 [] (by decide+kernel) (by decide) ?_|refine av 7 [8] (by decide+kernel) (by decide) ?_|refine av 3 [8,9] (by decide+kernel) (by decide) ?_|refine av 3 [9] (by decide+kernel) (by decide) ?_|refine av 3 [] (by decide+kernel) (by decide) ?_|refine av 3 [8] (by decide+kernel) (by decide) ?_|refine av 3 [7,9] (by decide+kernel) (by decide) ?_|refine av 3 [7] (by decide+kernel) (by decide) ?_|refine av 3 [7,8] (by decide+kernel) (by decide) ?_|refine fb (by decide+kernel) ⟨(_,_,_,_),⟨rfl,rfl,rfl,rfl,rfl,rfl,rfl,rfl,rfl,be⟩,?_⟩))
     all_goals rw[show made [Value.bool false] ((nl+1)*1)=dK (List.replicate (nl+1) false) by rw[db,NR];simp[dK],show made [Value.bool false] ((nr+1)*1)=dK (List.replicate (nr+1) false) by rw[db,NR];simp[dK]]
     all_goals (first|exact aw.re (A:=[_,_,_,_,_,_,_,_,_,_,_,_,_]) [0,1,2,3,4,5,6,7,8,9,10,11,12] rfl ab|exact aw.re (A:=[_,_,_,_,_,_,_,_,_,_,_,_,_]) [0,1,3,2,4,5,6,7,8,9,10,11,12] rfl ab|exact aw.re (A:=[_,_,_,_,_,_,_,_,_,_,_,_,_]) [0,2,1,3,4,5,6,7,8,9,10,11,12] rfl ab|exact aw.re (A:=[_,_,_,_,_,_,_,_,_,_,_,_,_]) [0,2,3,1,4,5,6,7,8,9,10,11,12] rfl ab|exact aw.re (A:=[_,_,_,_,_,_,_,_,_,_,_,_,_]) [0,3,1,2,4,5,6,7,8,9,10,11,12] rfl ab|exact aw.re (A:=[_,_,_,_,_,_,_,_,_,_,_,_,_]) [0,3,2,1,4,5,6,7,8,9,10,11,12] rfl ab|exact aw.re (A:=[_,_,_,_,_,_,_,_,_,_,_,_,_]) [1,0,2,3,4,5,6,7,8,9,10,11,12] rfl ab|exact aw.re (A:=[_,_,_,_,_,_,_,_,_,_,_,_,_]) [1,0,3,2,4,5,6,7,8,9,10,11,12] rfl ab|exact aw.re (A:=[_,_,_,_,_,_,_,_,_,_,_,_,_]) [1,2,0,3,4,5,6,7,8,9,10,11,12] rfl ab|exact aw.re (A:=[_,_,_,_,_,_,_,_,_,_,_,_,_]) [1,2,3,0,4,5,6,7,8,9,10,11,12] rfl ab|exact aw.re (A:=[_,_,_,_,_,_,_,_,_,_,_,_,_]) [1,3,0,2,4,5,6,7,8,9,10,11,12] rfl ab|exact aw.re (A:=[_,_,_,_,_,_,_,_,_,_,_,_,_]) [1,3,2,0,4,5,6,7,8,9,10,11,12] rfl ab|exact aw.re (A:=[_,_,_,_,_,_,_,_,_,_,_,_,_]) [2,0,1,3,4,5,6,7,8,9,10,11,12] rfl ab|exact aw.re (A:=[_,_,_,_,_,_,_,_,_,_,_,_,_]) [2,0,3,1,4,5,6,7,8,9,10,11,12] rfl ab|exact aw.re (A:=[_,_,_,_,_,_,_,_,_,_,_,_,_]) [2,1,0,3,4,5,6,7,8,9,10,11,12] rfl ab|exact aw.re (A:=[_,_,_,_,_,_,_,_,_,_,_,_,_]) [2,1,3,0,4,5,6,7,8,9,10,11,12] rfl ab|exact aw.re (A:=[_,_,_,_,_,_,_,_,_,_,_,_,_]) [2,3,0,1,4,5,6,7,8,9,10,11,12] rfl ab|exact aw.re (A:=[_,_,_,_,_,_,_,_,_,_,_,_,_]) [2,3,1,0,4,5,6,7,8,9,10,11,12] rfl ab|exact aw.re (A:=[_,_,_,_,_,_,_,_,_,_,_,_,_]) [3,0,1,2,4,5,6,7,8,9,10,11,12] rfl ab|exact aw.re (A:=[_,_,_,_,_,_,_,_,_,_,_,_,_]) [3,0,2,1,4,5,6,7,8,9,10,11,12] rfl ab|exact aw.re (A:=[_,_,_,_,_,_,_,_,_,_,_,_,_]) [3,1,0,2,4,5,6,7,8,9,10,11,12] rfl ab|exact aw.re (A:=[_,_,_,_,_,_,_,_,_,_,_,_,_]) [3,1,2,0,4,5,6,7,8,9,10,11,12] rfl ab|exact aw.re (A:=[_,_,_,_,_,_,_,_,_,_,_,_,_]) [3,2,0,1,4,5,6,7,8,9,10,11,12] rfl ab|exact aw.re (A:=[_,_,_,_,_,_,_,_,_,_,_,_,_]) [3,2,1,0,4,5,6,7,8,9,10,11,12] rfl ab)
    rintro⟨p15,p16,gl,gr⟩;simp only;obtain⟨bk,hbk⟩:∃ bk,bk=kD g (·.r) (·.l) (nr+1) l:=⟨_,rfl⟩;obtain⟨pr,hpr⟩:∃ pr,pr=kD g (·.l) (·.r) (nl+1) l:=⟨_,rfl⟩;rw[<- hbk,<- hpr];refine bA ?_;refine dM λ p17=>?_;refine iG ?_;refine bA ?_;refine dM λ p18=>?_;refine ah<|aI ?_;refine iG ?_;obtain⟨K,hKd⟩:∃ K:WK,K=⟨p15,p7,p16,p11,p17,p18,gl,gr,gb,ge,nl,nr,rows,bk⟩:=⟨_,rfl⟩;obtain⟨ends,hen⟩:∃ ends:Nat->LI_,ends=λ v=>if v<=nl then xn g v g.edges.length else []:=⟨_,rfl⟩
    have hen1:∀ (v:Nat) (w:Int),w∈ends v->v<=nl/\∃ e∈g.edges,e.l=v/\e.r=w:=by
     intro v w hw;rw[hen] at hw;simp only at hw;split at hw
     ·exact⟨by assumption,zJ.1 hw⟩
     ·cases hw
    have hen2:∀ e∈g.edges,e.r∈ends e.l.toNat:=by
     intro e he;have:=hg.edge e he;rw[hen];simp only;rw[if_pos aa,zJ];exact⟨e,he,aa,rfl⟩
    have hmet:∀ w:Nat,w<=nr->bk.getD w 0=0->¬ vz g (·.r) l w:=by
     rintro w hw h0 ⟨x,hx,e,he,her⟩;have h5:=oZ hg hM (key:=(·.r)) (val:=(·.l)) (.inr rfl) (n:=nr+1) (v:=w) aa hx he her;rw[Nc,hbk,h5] at h0;have h6:=hg.edge e (M9 he);simp only[NK] at h0;omega
    have hfree:∀ w:Nat,w<=nr->¬ vz g (·.r) l w->bk.getD w 0=0:=by
     intro w hw hno;rw[Nc,hbk,va hg (.inr rfl) aa hno];rfl
    have hmate:∀ w:Nat,w<=nr->bk.getD w 0≠0->∃ x∈l,∃ a,g.edges[x.toNat]?=some a/\a.r=w/\bk.getD w 0=a.l:=by
     intro w hw h0;have hm:vz g (·.r) l w:=NE λ h=>h0 (hfree w hw h);obtain⟨x,hx,e,he,her⟩:=hm;have h5:=oZ hg hM (key:=(·.r)) (val:=(·.l)) (.inr rfl) (n:=nr+1) (v:=w) aa hx he her;exact⟨x,hx,e,he,her,by rw[Nc,hbk,h5];rfl⟩
    have hK:K.OK ends:=by
     rw[hKd];refine⟨by show nl<=200;omega,by show nr<=200;omega,hrows,λ v row hr=>?_,λ v=>?_,λ v w hw=>?_,λ w hw=>?_⟩
     ·have hv:v<nl+1:=by rw[← hrows];exact (List.getElem?_eq_some_iff.1 hr).1
      rw[hen];simp only;rw[if_pos aa];exact htr v row hr
     ·rw[hen];simp only;split
      ·exact Ot (sU _ _ _) h3
      ·exact Nk _
     ·obtain⟨_,e,he,_,rfl⟩:=hen1 v w hw;have:=hg.edge e he;show 1<=e.r/\e.r<=(nr:Int);omega
     ·show ∃ y:Nat,bk[w]?=some (y:Int)∧y≤nl;have hw':w≤nr:=hw;have hbl:bk.length=nr+1:=by rw[hbk,kb]
      have hgd:bk[w]?=some (bk.getD w 0):=by rw[Nc,an aa];rfl
      by_cases h0:bk.getD w 0=0
      ·exact⟨0,by rw[hgd,h0];rfl,aa⟩
      ·obtain⟨x,_,a,ha,_,hal⟩:=hmate w hw' h0;have:=hg.edge a (M9 ha);exact⟨a.l.toNat,by rw[hgd,hal];congr 1;omega,aa⟩
    have hAR:∀ k (v:Nat) (w:Int),(sX g l v/\(¬ vz g (·.l) l v->v<k))->w∈ends v->rY g l w.toNat:=by
     rintro k v w ⟨hv,_⟩ hw;obtain⟨_,e,he,hel,her⟩:=hen1 v w hw;have:=hg.edge e he;exact⟨e,he,by rw[show e.l.toNat=v by omega];exact hv,aa⟩
    have hAL:∀ k (w:Nat),rY g l w->bk.getD w 0≠0->sX g l (bk.getD w 0).toNat/\(¬ vz g (·.l) l (bk.getD w 0).toNat->(bk.getD w 0).toNat<k):=by
     rintro k w ⟨e,he,hal,her⟩ h0;have hb:=hg.edge e he;obtain⟨x,hx,a,ha,har,hbl⟩:=hmate w aa h0;have hab:=hg.edge a (M9 ha);rw[hbl];exact⟨.step e a x hal he hx ha aa,λ hno=>absurd ⟨x,hx,a,ha,by show a.l=_;omega⟩ hno⟩
    refine bQ (K:=[.own (ax q10 0 (nl+1) (nl+1)) 3 1 (nl+1) (aj pr),blk p4 182 [.slice none 0 0,.slice none 0 0],blk p2 178 (rE g A c)]++K0 K (List.replicate (nl+1) false) (List.replicate (nr+1) false) false) ?_ ?_
    ·rw[hKd];exact aw.re (A:=[_,_,_,_,_,_,_,_,_,_,_,_,_,_,_]) (R:=rows.map (bg 3)) [6,11,12,2,9,3,8,1,0,4,5,7,10] rfl ab
    have hKb:K.back=bk:=by rw[hKd]
    have hKl:K.nl=nl:=by rw[hKd]
    have hKr:K.nr=nr:=by rw[hKd]
    have e15:p15=K.p15:=by rw[hKd]
    have e16:p16=K.p16:=by rw[hKd]
    have e17:p17=K.p17:=by rw[hKd]
    have e18:p18=K.p18:=by rw[hKd]
    clear hKd
    subst e15 e16 e17 e18;have hprl:pr.length=nl+1:=by rw[hpr,kb]
    have hpf:∀ v:Nat,v<=nl->(pr.getD v 0=0↔¬ vz g (·.l) l v):=by
     intro v hv;rw[Nc,hpr]
     constructor
     ·rintro h0 ⟨x,hx,e,he,hel⟩;rw[oZ hg hM (key:=(·.l)) (val:=(·.r)) (.inl rfl) (n:=nl+1) (v:=v) aa hx he hel] at h0;have h6:=hg.edge e (M9 he);simp only[NK] at h0;omega
     ·intro hno;rw[va hg (.inl rfl) aa hno];rfl
    refine jX ?_
    refine cN (σ:=Nat×LB_×LB_×Bool) (λ s=>[(19,af (s.1:Int)),(18,ap K.p18 0),(17,ap K.p17 0),(15,ap K.p15 0),(16,ap K.p16 0),(10,ax q10 0 (nl+1) (nl+1)),(4,ap p4 0),(2,ap p2 0)])
     (λ s=>[.own (ax q10 0 (nl+1) (nl+1)) 3 1 (nl+1) (aj pr),blk p4 182 [.slice none 0 0,.slice none 0 0],blk p2 178 (rE g A c)]++K0 K s.2.1 s.2.2.1 s.2.2.2)
     (λ s=>1<=s.1/\s.1<=nl+1/\e7 ends bk (List.replicate (nl+1) false) (List.replicate (nr+1) false) false s.2.1 s.2.2.1 s.2.2.2/\Ll (λ v=>sX g l v/\(¬ vz g (·.l) l v->v<s.1)) (rY g l) bk s.2.1 s.2.2.1 s.2.2.2/\∀ v:Nat,1<=v->v<s.1->¬ vz g (·.l) l v->s.2.1[v]?=some true) (λ s=>nl+1-s.1)
     (1,List.replicate (nl+1) false,List.replicate (nr+1) false,false) a8 aw.refl ⟨Np _,by simp only;omega,e7.refl,⟨λ v hv=>?_,λ w hw=>?_,λ h=>by cases h⟩,λ v h1 h2=>absurd h2 (by simp only;omega)⟩ ?_
    ·simp only[Nt] at hv;split at hv<;>simp at hv
    ·simp only[Nt] at hw;split at hw<;>simp at hw
    rintro⟨v,l1,r1,m1⟩ ⟨hv1,hvn,hW,hS,hall⟩;simp only at hv1 hvn hW hS hall ⊢;have hl1:l1.length=nl+1:=by rw[hW.ll];simp
    have hr1:r1.length=nr+1:=by rw[hW.rl];simp
    refine aI ?_;refine bh 2 ?_;refine aN ?_;refine ak rfl (λ hle=>ag ?_) (λ hgt=>aO ?_)
    ·have hle':v≤nl:=by omega
     obtain⟨y,hy⟩:∃ y,pr[v]?=some y:=⟨_,an aa⟩;have hyd:pr.getD v 0=y:=by rw[Nc,hy];rfl
     refine am (au ?_);refine aI ?_;refine io ?_;refine aG (aA 0 rfl rfl rfl (bq hy)) ?_;refine aN ?_;refine ak rfl (λ h0=>?_) (λ h0=>ag ?_)
     ·have hno:¬ vz g (·.l) l v:=(hpf v hle').1 (by rw[hyd];exact h0)
      have hfalse:l1[v]?=some false:=by
       obtain⟨bv,hbv⟩:∃ bv,l1[v]?=some bv:=⟨_,an aa⟩
       cases bv with
       |false=>exact hbv
       |true=>have:=(hS.left v hbv).2 hno;omega
      have hS':Ll (λ u=>sX g l u/\(¬ vz g (·.l) l u->u<v+1)) (rY g l) K.back l1 r1 m1:=by
       rw[hKb];exact⟨λ u hu=>⟨(hS.left u hu).1,λ hn=>by have:=(hS.left u hu).2 hn;omega⟩,hS.right,hS.more⟩
      refine aC (fS [] rfl ?_);refine bh (v:=K.fn) 8 ?_;refine az ?_
      refine bJ (K:=[.own (ax q10 0 (nl+1) (nl+1)) 3 1 (nl+1) (aj pr),blk p4 182 [.slice none 0 0,.slice none 0 0],blk p2 178 (rE g A c)]) (fst:=[]) (cap:=[ap K.p15 0,ap K.p7 0,ap K.p16 0,ap K.p11 0,ap K.p17 0,ap K.p18 0]) []
       (Jz K ends hK _ (rY g l) (hAR (v+1)) (by rw[hKb];exact hAL (v+1)) (l1.count false) l1 r1 m1 v (Np _) (by rw[hKl];exact hl1) (by rw[hKr];exact hr1) hfalse ⟨.free v hv1 aa hno,λ _=>by omega⟩ hS') rfl rfl rfl rfl aW (aw.perm OO) be aE ?_
      rintro vv H' ⟨l2,r2,m2,rfl,hW2,hS2,hl2⟩;rw[hKb] at hW2 hS2;refine⟨dc rfl (dd _ _),?_⟩;refine cK (aw.perm OO)<|dw ?_;refine⟨(v+1,l2,r2,m2),⟨?_,rfl,rfl,rfl,rfl,rfl,rfl,rfl,be⟩,aw.refl,⟨by simp only;omega,by simp only;omega,hW.trans hW2,hS2,λ u h1 h2 hn=>?_⟩,by simp only;omega⟩
      ·show some (af (IntKind.i64.wrap ((v:Int)+1)))=_;rw[cv aa];rfl
      ·by_cases e:u=v
       ·subst e;exact hl2
       ·exact hW2.lm u (hall u h1 (by simp only at h2;omega) hn)
     ·refine ao ?_;have hmt:vz g (·.l) l v:=Classical.byContradiction fun h=>h0 (by have:=(hpf v hle').2 h;rw[hyd] at this;exact this);refine⟨(v+1,l1,r1,m1),⟨?_,rfl,rfl,rfl,rfl,rfl,rfl,rfl,trivial⟩,aw.refl,⟨by simp only;omega,by simp only;omega,hW,⟨fun u hu=>⟨(hS.left u hu).1,fun hn=>by have:=(hS.left u hu).2 hn;simp only;omega⟩,hS.right,hS.more⟩,fun u h1 h2 hn=>?_⟩,by simp only;omega⟩
      ·show some (af (IntKind.i64.wrap ((v:Int)+1)))=_;rw[cv aa];rfl
      ·by_cases e:u=v
       ·subst e;exact absurd hmt hn
       ·exact hall u h1 (by simp only at h2;omega) hn
    ·obtain rfl:v=nl+1:=by omega
     refine aI ?_;refine bh 7 ?_;refine aN ?_;have hl1':l1.length=K.nl+1:=aa;have hr1':r1.length=K.nr+1:=aa
     have hL1:∀ u:Nat,u<=nl->(l1[u]?=some true↔sX g l u):=by
      intro u hu;refine⟨λ h=>(hS.left u h).1,λ h=>?_⟩
      clear hu
      induction h with
      |free u h1 h2 h3=>exact hall u h1 aa h3
      |step e a x _ he hx ha har ih=>
       have hb:=hg.edge e he;have hab:=hg.edge a (M9 ha);have q1:=hW.newL _ ih (by rw[Nt];split<;>simp) e.r (hen2 e he);have q2:=hW.newR _ q1 (by rw[Nt];split<;>simp)
       have q3:bk.getD e.r.toNat 0=a.l:=by
        rw[Nc,hbk,oZ hg hM (key:=(·.r)) (val:=(·.l)) (.inr rfl) (n:=nr+1) (v:=e.r.toNat) aa hx ha (by show a.r=_;omega)];rfl
       have:=q2.2 (by rw[q3];omega)
       rwa [q3] at this
     have hR1:∀ w:Nat,(r1[w]?=some true↔rY g l w):=by
      intro w;refine⟨λ h=>hS.right w h,λ ⟨e,he,hal,her⟩=>?_⟩;have hb:=hg.edge e he;have q1:=hW.newL _ ((hL1 e.l.toNat aa).2 hal) (by rw[Nt];split<;>simp) e.r (hen2 e he)
      rwa [show e.r.toNat=w by omega] at q1
     cases m1 with
     |true=>
      refine dy ?_;refine bA ?_;refine fv ?_;refine dz 1 ?_;refine iH ?_;refine bM ?_;obtain⟨w,hw,hw0⟩:=hS.more rfl;obtain⟨e,he,_,her⟩:=id hw;have:=hg.edge e he;exact⟨[_,_],[],_,⟨⟨p4,1,_,_,rfl,rfl,rfl⟩,rfl,be⟩,ab,rfl,.inr (.inl ⟨hM,⟨w,hw,hmet w aa hw0⟩,rfl,rfl⟩)⟩
     |false=>
      refine bu rfl (ag ?_);have T1:=wF (aJ K.gl 0) (K.nl+1) K.gl 0 l1 aE aa false;have T2:=wF (aJ K.gr 0) (K.nr+1) K.gr 0 r1 aE aa true;rw[hl1'] at T1;rw[hr1'] at T2;refine cA ?_;refine bK 7 (dS [0,2]++[(1,false),(3,false)]++dS [4]++[(5,false)]++dS [6]) [3,5] aW ab rfl<|bc rfl (ad 0 rfl) ?_;refine bc rfl (ad 1 rfl) ?_;refine cz ?_;refine dB T1 rfl ⟨gC 9 rfl b8 (.inr rfl),be⟩ ?_;rintro v H' ⟨Al,cl,rfl,rfl⟩;refine⟨rfl,bZ [4,6] ?_⟩;refine cz ?_;refine dB T2 rfl ⟨gC 11 rfl b8 (.inr rfl),be⟩ ?_;rintro v H' ⟨Ar,cr,rfl,rfl⟩;refine⟨rfl,bZ [5,7] ?_⟩;refine za ?_;refine dz 3 ?_;refine bZ [5,7]<|lh ?_;refine bM<|⟨[_,_],[0,1],_,⟨⟨p4,3,_,_,rfl,rfl,rfl⟩,rfl,be⟩,ab,rfl,.inl ⟨hM,λ w hw=>?_,cp l1 false (K.nl+1),cp r1 true (K.nr+1),Al,Ar,cl,cr,⟨kI _ _ _,λ x hx=>?_⟩,⟨kI _ _ _,λ x hx=>?_⟩,λ v h1 h2=>?_,λ w h1 h2=>?_,rfl,rfl⟩⟩
      ·refine NE λ hno=>?_;obtain⟨e,he,_,her⟩:=id hw;have:=hg.edge e he;have q2:=hW.newR w ((hR1 w).2 hw) (by rw[Nt];split<;>simp);exact absurd (q2.1 (hfree w aa hno)) ab
      ·obtain⟨v,h1,h2,_,rfl⟩:=jk.1 hx;omega
      ·obtain⟨v,h1,h2,_,rfl⟩:=jk.1 hx;omega
      ·rw[jk,<- hL1 v aa]
       constructor
       ·rintro⟨u,_,_,h3,h4⟩;obtain rfl:v=u:=aa;rw[h3];decide
       ·intro h;obtain⟨bv,hbv⟩:∃ bv,l1[v]?=some bv:=⟨_,an aa⟩;refine⟨v,aa,aa,?_,rfl⟩
        cases bv with
        |false=>exact hbv
        |true=>exact absurd hbv h
      ·rw[jk,<- hR1 w]
       constructor
       ·rintro⟨u,_,_,h3,h4⟩;obtain rfl:w=u:=aa;exact h3
       ·intro h;exact⟨w,aa,aa,h,rfl⟩
end Go.Proofs.YtmcnpaelaieniaaGreatDoor
