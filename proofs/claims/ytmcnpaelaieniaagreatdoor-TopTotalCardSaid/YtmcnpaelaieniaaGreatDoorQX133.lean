import Derived.Test.YtmcnpaelaieniaaGreatDoorQX123
/- A part of the proof. -/
set_option linter.unusedVariables false
set_option linter.unusedSimpArgs false
set_option maxHeartbeats 8000000
namespace Go.Proofs.YtmcnpaelaieniaaGreatDoor
open Go.RowKit
def M6(N:aV)(f:LI_)(least sg e:Int)(p k:Nat)(f':LI_):Prop:=
 (kP N f least=0/\(sg=112\/sg=116)/\e=0/\Dn N least f p k f')\/
 (kP N f least=0/\¬ (sg=112\/sg=116)/\e=1/\p=0/\k=0/\f'=[])\/
 (kP N f least≠0/\e=kP N f least/\p=0/\k=0/\f'=[])
def Ls(N:aV)(f:LI_)(least sg:Int)(v:Value)(H':Heap):Prop:=
 ∃ (e:Int) (f':LI_) (p k s:Nat) (A':OA_) (c':Nat),M6 N f least sg e p k f'/\(sg=116\/s=0)/\v=.tuple #[qT A' f'.length c' p k s,.int .i64 e]/\H'=[.own (.slice A' f'.length c') 2 1 f'.length (aj f')]
theorem Fn.addnil{g:FuncId}{args:LV_}{H:Heap}{R R':Value->Heap->Prop}(e sz:Nat)(h:Fn g args [] H R)(c:∀ v H',R v H'->R' v H'\/R' v (.own (.slice none 0 0) e sz 0 []::H')):Fn g args [] H R':=λ w hw=>
 (h w hw).mono λ _ _ ⟨v,H',a,b,d⟩=>(c v H' d).elim (λ h=>⟨v,H',a,b,h⟩) (λ h=>⟨v,_,a,b.addnil e sz,h⟩)
theorem Jb{N:aV}{f:LI_}{least sg:Int}{v:Value}{H':Heap}(h:Ct N f least sg v H'):Ls N f least sg v H'\/Ls N f least sg v (.own (.slice none 0 0) 2 1 0 []::H'):=by
 rcases h with ⟨he,a,f',p,k,s,b,c,d,e,rfl,rfl⟩|⟨he,g,i,rfl,rfl⟩|⟨he,rfl,rfl⟩
 ·exact .inl ⟨0,f',p,k,s,b,c,.inl ⟨he,a,rfl,d⟩,aa,rfl,rfl⟩
 ·exact .inr ⟨1,[],0,0,0,none,0,.inr (.inl ⟨he,aa,rfl,rfl,rfl,rfl⟩),.inr rfl,rfl,rfl⟩
 ·exact .inr ⟨_,[],0,0,0,none,0,.inr (.inr ⟨he,rfl,rfl,rfl,rfl⟩),.inr rfl,rfl,rfl⟩
theorem Jq(N:aV)(d:N.Fits)(a:N.arcs.length<=2000)(A:OA_)(c b o:Nat)(e:N.arcs≠[]->A=some ⟨b,o,none⟩)(sg:Int):
 Fn 16 [bZ N A c,.int .u8 sg] [] [.seg b o (arcs N.arcs)] (Ls N (List.replicate N.arcs.length 0) 1 sg):=
 (Ki N d a A c b o e sg).addnil 2 1 λ _ _=>Jb
def sR(g:Gr)(sg e:Int)(l:LI_):Prop:=
 (ex g=0/\(sg=112\/sg=116)/\e=0/\∃ (f:LI_) (ph wk:Nat),jy (dP g) f/\Dn (dP g) 1 (List.replicate (dP g).arcs.length 0) ph wk f/\l=dV f g.left.toNat g.edges.length)\/
 (ex g=0/\¬ (sg=112\/sg=116)/\e=1/\l=[])\/
 (ex g≠0/\e=ex g/\l=[])
def K4(g:Gr)(sg:Int)(v:Value)(H':Heap):Prop:=∃ (e:Int) (l:LI_) (A:OA_) (c:Nat),sR g sg e l/\v=.tuple #[.slice A l.length c,.int .i64 e]/\H'=[.own (.slice A l.length c) 3 1 l.length (aj l)]
theorem D8(sg:Int)(g:Gr)(n:g.Fits)(A:OA_)(c b o:Nat)(r:g.edges≠[]->A=some ⟨b,o,none⟩):Fn 125 [xQ g A c,.int .u8 sg] [] [.seg b o (fO g.edges)] (K4 g sg):=by
 by_cases a:ex g=0/\(sg=112\/sg=116)
 ·have i:=(j9 n).1 a.1;have s:=i.left;refine (D7 sg a.2 g i A c b o r g.left.toNat aa).mono ?_;rintro v H' ⟨f,x,y,t,u,z,B,rfl,rfl⟩;exact⟨0,_,t,u,.inl ⟨a.1,a.2,rfl,f,x,y,z,B,rfl⟩,rfl,rfl⟩
 refine aT Tryz.func125 λ w0=>?_;refine bu ?_;refine cY (cs:=rL g A c) λ I=>?_;refine fP ?_;refine bj (v:=xQ g A c) 0 ?_;refine dG (GT g n A c b o r) rfl ⟨bz 1 rfl,an⟩ ?_;rintro v H' (⟨j,A1,w,rfl,rfl⟩|⟨j,rfl,rfl⟩)
 case inr=>
  refine rM ?_;refine dD λ C=>?_;refine oa ?_;refine ak rfl (λ _=>?_) (λ h=>absurd j h);refine ao ?_;exact bX 3 1<|aM [0] ⟨_,rfl,ex g,[],none,0,.inr (.inr ⟨j,rfl,rfl⟩),rfl,rfl⟩
 have l:¬ (sg=112\/sg=116):=λ h=>a ⟨j,h⟩;have i:=qf ((j9 n).1 j);refine dw ?_;refine eF (aH 0 rfl) λ ⟨_,_,d,q⟩=>?_;obtain⟨g1,d⟩:=bg d q;have m:(dP g).arcs≠[]->A1=aL g1 0:=λ h=>d (λ D=>h (Ny.1 (by have:=nA (dP g).arcs;rw[D] at this;simp at this;omega)));refine az ?_;refine dD λ C=>?_;refine oa ?_;refine ak rfl (λ h=>absurd rfl h) (λ _=>ag ?_);refine bu ?_;refine bj (v:=bZ (dP g) A1 w) 0 ?_;refine az ?_;refine dG (Jq (dP g) i.fits' i.len A1 w g1 0 m sg) rfl ⟨ff 1 rfl d,an⟩ ?_;rintro v H' ⟨e,f',p,k,E,t,u,F,_,rfl,rfl⟩
 have he:e=1:=by
  rcases F with ⟨_,H,_⟩|⟨_,_,rfl,_⟩|⟨s,_⟩
  ·exact absurd H l
  ·rfl
  ·exact absurd (r5.2 ⟨i,iV _ i,ab⟩) s
 subst he;refine rM ?_;refine dD λ K=>?_;refine oa ?_;refine ak rfl (λ _=>?_) (λ h=>absurd ab h);refine ao ?_;exact bX 3 1<|aM [0] ⟨_,rfl,1,[],none,0,.inr (.inl ⟨j,l,rfl,rfl⟩),rfl,rfl⟩
def xO(g:Gr)(v:Int)(k:Nat):LI_:=((g.edges.take k).filter λ e=>decide (e.l=v)).map (·.r)
theorem Fb{g:Gr}{k:Nat}{e:ni}(h:g.edges[k]?=some e)(v:Int):xO g v (k+1)=xO g v k++(if e.l=v then [e.r] else []):=by
 unfold xO;rw[Nu,h,P2,Ps,NI]
 congr 1
 by_cases a:e.l=v
 ·simp[a]
 ·simp[a]
theorem sL(g:Gr)(v:Int)(k:Nat):(xO g v k).length<=k:=by
 unfold xO;rw[Nm];refine Ov (OD _ _) ?_;rw[NE];omega
theorem yL{g:Gr}{v w:Int}:w∈xO g v g.edges.length↔∃ e∈g.edges,e.l=v/\e.r=w:=by
 unfold xO;rw[NH];simp only[NF,Pd,NX]
 constructor
 ·rintro⟨e,⟨a,b⟩,c⟩;exact⟨e,a,b,c⟩
 ·rintro⟨e,a,b,c⟩;exact⟨e,⟨a,b⟩,c⟩
def kG(g:Gr)(key val:ni->Int)(n:Nat)(l:LI_):LI_:=l.foldl (λ m x=>match g.edges[x.toNat]? with|some e=>m.set (key e).toNat (val e)|none=>m) (List.replicate n 0)
theorem vW(g:Gr)(key val:ni->Int)(n:Nat)(l:LI_)(x:Int){e:ni}(he:g.edges[x.toNat]?=some e):kG g key val n (l++[x])=(kG g key val n l).set (key e).toNat (val e):=by
 unfold kG;rw[O3,OH,List.foldl_nil,he]
theorem j6(g:Gr)(key val:ni->Int)(n:Nat)(l:LI_):(kG g key val n l).length=n:=by
 unfold kG
 have key:∀ (l:LI_) (m:LI_),m.length=n->(l.foldl (λ m x=>match g.edges[x.toNat]? with|some e=>m.set (key e).toNat (val e)|none=>m) m).length=n:=by
  intro l
  induction l with
  |nil=>exact λ m h=>h
  |cons x l a=>
   intro m h;rw[OH];refine a _ ?_;split
   ·rw[NO];exact h
   ·exact h
 exact key l _ ai
def vy(g:Gr)(key:ni->Int)(l:LI_)(v:Int):Prop:=∃ x∈l,∃ e,g.edges[x.toNat]?=some e/\key e=v
theorem mv(g:Gr)(key val:ni->Int)(n v:Nat)(w:v<n)(f:Int):∀ (l:LI_) (m:LI_),m.length=n->(∀ x∈l,∀ e,g.edges[x.toNat]?=some e->0<=key e)->(∀ x∈l,∀ e,g.edges[x.toNat]?=some e->key e=v->val e=f)->
 ((vy g key l v->(l.foldl (λ m x=>match g.edges[x.toNat]? with|some e=>m.set (key e).toNat (val e)|none=>m) m)[v]?=some f)/\(¬ vy g key l v->(l.foldl (λ m x=>match g.edges[x.toNat]? with|some e=>m.set (key e).toNat (val e)|none=>m) m)[v]?=m[v]?))/\
 (m[v]?=some f->(l.foldl (λ m x=>match g.edges[x.toNat]? with|some e=>m.set (key e).toNat (val e)|none=>m) m)[v]?=some f)
 |[],m,_,_,_=>⟨⟨λ ⟨_,h,_⟩=>absurd h ai,λ _=>rfl⟩,id⟩
 |x::l,m,hm,z,A=>by
  rw[OH];have p:∀ y∈l,∀ e,g.edges[y.toNat]?=some e->0<=key e:=λ y b=>z y (by simp[b]);have q:∀ y∈l,∀ e,g.edges[y.toNat]?=some e->key e=v->val e=f:=λ y b=>A y (by simp[b])
  cases he:g.edges[x.toNat]? with
  |none=>
   simp only;have i:=mv g key val n v w f l m hm p q;refine⟨⟨λ ⟨y,b,e,j,s⟩=>?_,λ c=>i.1.2 λ ⟨y,b,r⟩=>c ⟨y,by simp[b],r⟩⟩,i.2⟩
   rcases Nn.1 b with rfl|b
   ·rw[he] at j;cases j
   ·exact i.1.1 ⟨y,b,e,j,s⟩
  |some e=>
   simp only;have i:=mv g key val n v w f l (m.set (key e).toNat (val e)) (by rw[NO];exact hm) p q;have B:=z x ai e he;by_cases o:key e=v
   ·have t:=A x ai e he o;have u:(key e).toNat=v:=aa;have d:(m.set (key e).toNat (val e))[v]?=some f:=by rw[u,List.getElem?_set_self aa,t]
    have k:=i.2 d;exact⟨⟨λ _=>k,λ c=>absurd ⟨x,ai,e,he,o⟩ c⟩,λ _=>k⟩
   ·have u:(key e).toNat≠v:=by omega
    have d:(m.set (key e).toNat (val e))[v]?=m[v]?:=Ns u;rw[d] at i;refine⟨⟨λ ⟨y,b,a,j,s⟩=>?_,λ c=>i.1.2 λ ⟨y,b,r⟩=>c ⟨y,by simp[b],r⟩⟩,i.2⟩
    rcases Nn.1 b with rfl|b
    ·rw[he] at j;simp only[Nc] at j;rw[<- j] at s;exact absurd s o
    ·exact i.1.1 ⟨y,b,a,j,s⟩
theorem uz{g:Gr}{l:LI_}(hM:d9 g l){x y:Int}{a b:ni}(m:x∈l)(n:y∈l)(o:g.edges[x.toNat]?=some a)(p:g.edges[y.toNat]?=some b)(h:a.l=b.l\/a.r=b.r):x=y:=by
 rcases Int.lt_trichotomy x y with f|f|f
 ·obtain⟨i,hi,rfl⟩:=NV.1 m;obtain⟨j,e,rfl⟩:=NV.1 n
  have c:i<j:=by
   refine NG λ k=>?_
   rcases Pb (Nat.le_of_not_lt k) with d|d
   ·have:=(N9.1 hM.rise) j i e hi d;omega
   ·subst d;omega
  have:=(N9.1 hM.apart) i j hi e c a b o p;omega
 ·exact f
 ·obtain⟨i,hi,rfl⟩:=NV.1 m;obtain⟨j,e,rfl⟩:=NV.1 n
  have c:j<i:=by
   refine NG λ k=>?_
   rcases Pb (Nat.le_of_not_lt k) with d|d
   ·have:=(N9.1 hM.rise) i j hi e d;omega
   ·subst d;omega
  have:=(N9.1 hM.apart) j i e hi c b a p o;omega
theorem pb{g:Gr}(j:g.Right){l:LI_}(hM:d9 g l){key val:ni->Int}(h:key=(·.l)\/key=(·.r)){n v:Nat}(k:v<n){x:Int}{e:ni}(i:x∈l)(he:g.edges[x.toNat]?=some e)(b:key e=v):(kG g key val n l)[v]?=some (val e):=by
 unfold kG;refine (mv g key val n v k (val e) l _ ai (λ y _ a c=>?_) (λ y m a c d=>?_)).1.1 ⟨x,i,e,he,b⟩
 ·have:=j.edge a (Nb c)
  rcases h with rfl|rfl<;>simp only<;>omega
 ·have f:x=y:=uz hM i m he c (by rcases h with rfl|rfl<;>simp only at b d<;>omega);rw[f,c] at he;rw[NK he]
theorem vq{g:Gr}(f:g.Right){l:LI_}{key val:ni->Int}(h:key=(·.l)\/key=(·.r)){n v:Nat}(e:v<n)(b:¬ vy g key l v):(kG g key val n l)[v]?=some 0:=by
 unfold kG
 rw[(mv g key val n v e 0 l _ ai (λ y _ a c=>by
  have:=f.edge a (Nb c)
  rcases h with rfl|rfl<;>simp only<;>omega) (λ y i a c d=>absurd ⟨y,i,a,c,d⟩ b)).1.2 b]
 simp[e]
structure e6 (ends:Nat->LI_) (back:LI_) (l r:LB_) (m:Bool) (l' r':LB_) (m':Bool):Prop where
 ll:l'.length=l.length
 rl:r'.length=r.length
 lm:∀ v:Nat,l[v]?=some true->l'[v]?=some true
 rm:∀ w:Nat,r[w]?=some true->r'[w]?=some true
 mm:m=true->m'=true
 newL:∀ v:Nat,l'[v]?=some true->l[v]?≠some true->∀ w∈ends v,r'[w.toNat]?=some true
 newR:∀ w:Nat,r'[w]?=some true->r[w]?≠some true->(back.getD w 0=0->m'=true)/\(back.getD w 0≠0->l'[(back.getD w 0).toNat]?=some true)
theorem e6.refl{ends:Nat->LI_}{back:LI_}{l r:LB_}{m:Bool}:e6 ends back l r m l r m:=⟨rfl,rfl,λ _ h=>h,λ _ h=>h,id,λ _ h a=>absurd h a,λ _ h a=>absurd h a⟩
theorem e6.trans{ends:Nat->LI_}{back:LI_}{l r b c g i:LB_}{m m1 m2:Bool}(h:e6 ends back l r m b c m1)(k:e6 ends back b c m1 g i m2):e6 ends back l r m g i m2:=by
 refine⟨k.ll.trans h.ll,k.rl.trans h.rl,λ v d=>k.lm v (h.lm v d),λ w hw=>k.rm w (h.rm w hw),λ hm=>k.mm (h.mm hm),λ v d f w hw=>?_,λ w hw f=>?_⟩
 ·by_cases a:b[v]?=some true
  ·exact k.rm _ (h.newL v a f w hw)
  ·exact k.newL v d a w hw
 ·by_cases a:c[w]?=some true
  ·have:=h.newR w a f;exact⟨λ e=>k.mm (this.1 e),λ e=>k.lm _ (this.2 e)⟩
  ·exact k.newR w hw a
theorem uN:∀ (l a:LB_),a.length=l.length->(∀ v:Nat,l[v]?=some true->a[v]?=some true)->a.count false<=l.count false
 |[],[],_,_=>Nr _
 |[],_::_,h,_=>by simp at h
 |_::_,[],h,_=>by simp at h
 |b::l,d::a,h,hm=>by
  have e:=uN l a (by simpa using h) λ v f=>by have:=hm (v+1) (by rw[Oj];exact f);rwa [Oj] at this
  have c:=hm 0;simp only[Ok,Nc] at c;simp only[List.count_cons]
  cases b with
  |false=>cases d<;>simp<;>omega
  |true=>rw[c rfl];simpa using e
structure LM (AL AR:Nat->Prop) (back:LI_) (l r:LB_) (m:Bool):Prop where
 left:∀ v:Nat,l[v]?=some true->AL v
 right:∀ w:Nat,r[w]?=some true->AR w
 more:m=true->∃ w,AR w/\back.getD w 0=0
theorem e6.mark{ends:Nat->LI_}{back:LI_}{l r a c:LB_}{m b:Bool}{w:Nat}(h:e6 ends back l (r.set w true) m a c b)(hw:w<r.length)(d:back.getD w 0=0->b=true)(f:back.getD w 0≠0->a[(back.getD w 0).toNat]?=some true):e6 ends back l r m a c b:=by
 refine⟨h.ll,by rw[h.rl,NO],h.lm,λ u hu=>h.rm u ?_,h.mm,h.newL,λ u hu g=>?_⟩
 ·by_cases e:w=u
  ·subst e;exact Nq hw
  ·rw[Ns e];exact hu
 ·by_cases e:w=u
  ·subst e;exact⟨d,f⟩
  ·exact h.newR u hu (by rw[Ns e];exact g)
structure WK where
 p15:Nat
 p7:Nat
 p16:Nat
 p11:Nat
 p17:Nat
 p18:Nat
 gl:Nat
 gr:Nat
 gb:Nat
 ge:Nat
 nl:Nat
 nr:Nat
 rows:List fg
 back:LI_
def WK.fn(K:WK):Value:=.func (.func 155) #[] #[.pointer (some ⟨K.p15,0,none⟩),.pointer (some ⟨K.p7,0,none⟩),.pointer (some ⟨K.p16,0,none⟩),.pointer (some ⟨K.p11,0,none⟩),.pointer (some ⟨K.p17,0,none⟩),.pointer (some ⟨K.p18,0,none⟩)]
def KM(K:WK)(l r:LB_)(m:Bool):Heap:=
 [blk K.p15 104 [.slice (some ⟨K.gl,0,none⟩) (K.nl+1) (K.nl+1)],blk K.p7 162 [.slice (some ⟨K.ge,0,none⟩) (K.nl+1) (K.nl+1)],blk K.p16 104 [.slice (some ⟨K.gr,0,none⟩) (K.nr+1) (K.nr+1)],blk K.p11 23 [.slice (some ⟨K.gb,0,none⟩) (K.nr+1) (K.nr+1)],blk K.p17 4 [.bool m],blk K.p18 218 [K.fn],
  .own (.slice (some ⟨K.gl,0,none⟩) (K.nl+1) (K.nl+1)) 4 1 (K.nl+1) (dM l),.own (.slice (some ⟨K.gr,0,none⟩) (K.nr+1) (K.nr+1)) 4 1 (K.nr+1) (dM r),.own (.slice (some ⟨K.gb,0,none⟩) (K.nr+1) (K.nr+1)) 3 1 (K.nr+1) (aj K.back),.own (.slice (some ⟨K.ge,0,none⟩) (K.nl+1) (K.nl+1)) 23 1 (K.nl+1) (K.rows.map cT)]++K.rows.map (bd 3)
structure WK.OK (K:WK) (ends:Nat->LI_):Prop where
 nl:K.nl<=200
 nr:K.nr<=200
 rows:K.rows.length=K.nl+1
 row:∀ (v:Nat) (row:fg),K.rows[v]?=some row->row.l=ends v
 len:∀ v,(ends v).length<=1500
 ends:∀ v,∀ w∈ends v,1<=w/\w<=K.nr
 back:∀ w,w<=K.nr->∃ y:Nat,K.back[w]?=some (y:Int)/\y<=K.nl
structure M9 where
 i:Nat
 l:LB_
 r:LB_
 m:Bool
theorem Ko(K:WK)(ends:Nat->LI_)(I:K.OK ends)(E F:Nat->Prop)(hb:∀ v w,E v->w∈ends v->F w.toNat)(hq:∀ w:Nat,F w->K.back.getD w 0≠0->E (K.back.getD w 0).toNat):
 ∀ (n:Nat) (l r:LB_) (m:Bool) (v:Nat),l.count false<=n->l.length=K.nl+1->r.length=K.nr+1->l[v]?=some false->E v->LM E F K.back l r m->
 Fn 155 [.int .i64 (v:Int),.pointer (some ⟨K.p15,0,none⟩),.pointer (some ⟨K.p7,0,none⟩),.pointer (some ⟨K.p16,0,none⟩),.pointer (some ⟨K.p11,0,none⟩),.pointer (some ⟨K.p17,0,none⟩),.pointer (some ⟨K.p18,0,none⟩)] (aC (KM K l r m)) ([]++KM K l r m)
  λ _ H'=>∃ l' r' m',H'=KM K l' r' m'/\e6 ends K.back l r m l' r' m'/\LM E F K.back l' r' m'/\l'[v]?=some true:=by
 intro n
 induction n with
 |zero=>
  intro l r m v hc _ _ hv;have:0<l.count false:=List.count_pos_iff.2 (Nb hv);omega
 |succ n ih=>
  intro l r m v hc V hf hv X hS;have L:v<K.nl+1:=by rw[<- V];exact (Ng.1 hv).1
  have hd:=I.nl;have e2:=I.nr;obtain⟨row,q⟩:∃ row,K.rows[v]?=some row:=⟨_,be (by rw[I.rows];exact L)⟩;have p:=I.row v row q;have hlen:=I.len v;rw[<- p] at hlen;have Y:=Nk (f:=cT) (l:=K.rows) (i:=v);rw[q] at Y
  generalize hM:aC _=M
  refine aT Tryz.func155 λ w0=>?_;refine jh ?_;refine az ?_;refine aF (bn rfl L) ?_;refine aW 6 rfl rfl rfl rfl (ko rfl aa) [] rfl<|ah<|bS (K:=KM K (l.set v true) r m) ay.refl<|pR ?_;refine aF (bn rfl L) ?_;refine aF (aw (v:=cT row) 9 rfl rfl rfl Y) ?_;refine aN ?_;refine aR (aH (v+10) (show _=some (bd 3 row) by show (K.rows.map (bd 3))[v]?=_;rw[Nk,q];rfl)) λ ⟨_,e1,N,Z⟩=>?_;obtain⟨gv,N⟩:=bg N Z;refine gK ?_
  have hs:LM E F K.back (l.set v true) r m:=by
   refine⟨λ u hu=>?_,hS.right,hS.more⟩;by_cases e:v=u
   ·subst e;exact X
   ·rw[Ns e] at hu;exact hS.left u hu
  refine cA (σ:=M9) (λ s=>[(18,af s.i),(17,af row.l.length),(16,cT row),(1,ap K.p15 0),(2,ap K.p7 0),(3,ap K.p16 0),(4,ap K.p11 0),(5,ap K.p17 0),(6,ap K.p18 0)])
   (λ s=>KM K s.l s.r s.m) (λ s=>s.i<=row.l.length/\e6 ends K.back (l.set v true) r m s.l s.r s.m/\LM E F K.back s.l s.r s.m/\∀ (j:Nat) (w:Int),j<s.i->row.l[j]?=some w->s.r[w.toNat]?=some true) (λ s=>row.l.length-s.i)
   ⟨0,l.set v true,r,m⟩ a7 ay.refl ⟨Nl _,e6.refl,hs,λ j w hj=>absurd hj ai⟩ ?_
  rintro⟨i,d,k,m1⟩ ⟨hi,o,t,A⟩;simp only at hi o t A ⊢;refine ao ?_;refine am (ak rfl (λ O=>ag ?_) (λ ho=>aO ?_))
  ·have O:i<row.l.length:=by omega
   obtain⟨wz,hw⟩:∃ w,row.l[i]?=some w:=⟨row.l[i],be O⟩;have hx:wz∈ends v:=by rw[<- p];exact Nb hw
   have c1:=I.ends v wz hx;obtain⟨w,rfl⟩:∃ w:Nat,wz=w:=⟨wz.toNat,aa⟩;have B:w<K.nr+1:=aa;have ha:k.length=K.nr+1:=by rw[o.rl,hf]
   have hk:d.length=K.nl+1:=by rw[o.ll,NO,V]
   have hF:d[v]?=some true:=o.lm v (Nq aa)
   have h4:aj row.l≠[]:=λ U=>by
    have h1:(aj row.l).length=0:=by rw[U];rfl
    rw[bY] at h1;omega
   have H:=N h4;have P:F w:=by have:=hb v w X hx;rwa [NA] at this
   obtain⟨bw,hR⟩:∃ bw,k[w]?=some bw:=⟨_,be aa⟩;obtain⟨y,hy,k3⟩:=I.back w aa;have x:K.back.getD w 0=(y:Int):=by rw[Nf,hy];rfl
   refine am (aq ?_);refine aI ?_;refine aF (vC rfl (show _=some (Value.slice (some ⟨gv,0,none⟩) row.l.length row.c) by rw[<- H];rfl) rfl rfl rfl O) ?_;refine aF (dY (b:=gv) (off:=0) (i:=i) (cs:=aj row.l) (v:=af (w:Int)) (c:=bd 3 row) (v+10) rfl rfl (show (K.rows.map (bd 3))[v]?=_ by rw[Nk,q];rfl) (bC (λ _=>H)) (bI hw)) ?_;refine dQ ?_;refine bj 2 ?_;refine az ?_;refine aF (bn rfl B) ?_;refine aF (aw 7 rfl rfl rfl (show (dM k)[w]?=some (.bool bw) from iD hR)) ?_;refine aN ?_
   have g:∀ (l2 Q:LB_) (m2:Bool),e6 ends K.back d k m1 l2 Q m2->Q[w]?=some true->∀ (j:Nat) (z:Int),j<i+1->row.l[j]?=some z->Q[z.toNat]?=some true:=by
    intro l2 Q m2 a hH j z hj hz;by_cases e:j=i
    ·subst e;rw[hw] at hz;simp only[Nc] at hz;rw[<- hz,NA];exact hH
    ·exact a.rm _ (A j z aa hz)
   cases bw with
   |true=>
    refine bF rfl (aO ?_);refine ao ?_;refine⟨⟨i+1,d,k,m1⟩,⟨?_,rfl,rfl,rfl,rfl,rfl,rfl,rfl,rfl,an⟩,ay.refl,⟨by simp only;omega,o,t,g d k m1 e6.refl hR⟩,by simp only;omega⟩;refine m0 ?_;rw[cp aa];rfl
   |false=>
    refine bo rfl (ag ?_);refine aI ?_;refine bj 2 ?_;refine az ?_;refine aF (bn rfl B) ?_;refine aW 7 rfl rfl rfl rfl (ko rfl aa) [] rfl<|ah<|bS (K:=KM K d (k.set w true) m1) ay.refl<|?_
    have D:LM E F K.back d (k.set w true) m1:=by
     refine⟨t.left,λ u hu=>?_,t.more⟩;by_cases e:w=u
     ·subst e;exact P
     ·rw[Ns e] at hu;exact t.right u hu
    have C:(k.set w true)[w]?=some true:=Nq aa;refine aI ?_;refine bj 3 ?_;refine az ?_;refine aF (bn rfl B) ?_;refine aF (aw 8 rfl rfl rfl (bI hy)) ?_;refine aN ?_;refine ak rfl (λ U=>?_) (λ U=>?_)
    ·refine aE (fG 4 rfl [] rfl ?_);refine dv ?_;have a:e6 ends K.back d k m1 d (k.set w true) true:=e6.mark (w:=w) ⟨rfl,rfl,λ _ h=>h,λ _ h=>h,λ _=>rfl,λ _ h h'=>absurd h h',λ _ h h'=>absurd h h'⟩ aa aK (λ h=>absurd (by rw[x];exact U) h);refine⟨⟨i+1,d,k.set w true,true⟩,⟨?_,rfl,rfl,rfl,rfl,rfl,rfl,rfl,rfl,an⟩,ay.refl,⟨by simp only;omega,o.trans a,⟨D.left,D.right,λ _=>⟨w,P,by rw[x];exact U⟩⟩,g _ _ _ a C⟩,by simp only;omega⟩;refine m0 ?_;rw[cp aa];rfl
    have R:K.back.getD w 0≠0:=by rw[x];exact U
    have ht:y<K.nl+1:=aa;obtain⟨h3,S⟩:∃ b,d[y]?=some b:=⟨_,be aa⟩;refine cq ?_;refine bM 8 (dT [0,1,2,3,4,5,6,7]) [0,3,6,8] aX ab rfl<|bh rfl (ad 0 rfl) ?_;refine bh rfl (ad 1 rfl) ?_;refine a9 ?_;refine bh rfl (bn rfl B) ?_;refine bh rfl (aw 3 rfl rfl rfl (bI hy)) ?_;refine bh rfl (bn rfl ht) ?_;refine bh rfl (aw 2 rfl rfl rfl (show (dM d)[y]?=some (.bool h3) from iD S)) ?_;refine lo ?_
    cases h3 with
    |true=>
     refine bo rfl (ag ?_);refine ao ?_;have a:e6 ends K.back d k m1 d (k.set w true) m1:=e6.mark (w:=w) e6.refl aa (λ h=>absurd h R) (λ _=>by rw[x,NA];exact S);refine⟨⟨i+1,d,k.set w true,m1⟩,⟨?_,rfl,rfl,rfl,rfl,rfl,rfl,rfl,rfl,an⟩,ay.refl,⟨by simp only;omega,o.trans a,D,g _ _ _ a C⟩,by simp only;omega⟩;refine m0 ?_;rw[cp aa];rfl
    |false=>
     refine dr ?_;refine cq ?_
     have hA:d.count false<=n:=by
      have h1:=lW l v hv;have h2:=uN (l.set v true) d (by rw[o.ll]) o.lm;omega
     refine bM 6 (dT [0,1,2,3,4]++[(5,false)]) [3,5,8] aX ab rfl<|bh rfl (ad 1 rfl) ?_;refine bh rfl (ad 0 rfl) ?_;refine a9 ?_;refine bh rfl (bn rfl B) ?_;refine bh rfl (aw 2 rfl rfl rfl (bI hy)) ?_;refine cz ?_
     refine bK (K:=[]) (fst:=[]) (cap:=[ap K.p15 0,ap K.p7 0,ap K.p16 0,ap K.p11 0,ap K.p17 0,ap K.p18 0]) []
      (ih d (k.set w true) m1 y hA hk (by rw[NO];exact ha) S (by have:=hq w P R;rwa [x,NA] at this) D) rfl rfl rfl rfl aX (by rw[NN];exact ay.refl) an aK ?_
     rintro vv H' ⟨l2,Q,m2,rfl,a,k2,hN⟩;rw[NN];refine⟨dl rfl (dd _ _),?_⟩;refine b6 [3,5,8]<|cM<|cR ?_;have hr:e6 ends K.back d k m1 l2 Q m2:=e6.mark (w:=w) a aa (λ h=>absurd h R) (λ _=>by rw[x,NA];exact hN);refine⟨⟨i+1,l2,Q,m2⟩,⟨?_,rfl,rfl,rfl,rfl,rfl,rfl,rfl,rfl,an⟩,ay.refl,⟨by simp only;omega,o.trans hr,k2,g _ _ _ hr (a.rm w C)⟩,by simp only;omega⟩;refine m0 ?_;rw[cp aa];rfl
  ·have hg:i=row.l.length:=by omega
   subst hg;refine⟨[],rfl,d,k,m1,rfl,⟨?_,o.rl,λ u hu=>?_,o.rm,o.mm,λ u hu hn w hw=>?_,o.newR⟩,t,o.lm v (Nq aa)⟩
   ·rw[o.ll,NO]
   ·refine o.lm u ?_;by_cases e:v=u
    ·subst e;exact Nq aa
    ·rw[Ns e];exact hu
   ·by_cases e:v=u
    ·subst e;rw[<- p] at hw;obtain⟨j,hj,rfl⟩:=NV.1 hw;exact A j _ hj (be hj)
    ·exact o.newL u hu (by rw[Ns e];exact hn) w hw
inductive td (g:Gr) (l:LI_):Nat->Prop
 |free (v:Nat):1<=v->(v:Int)<=g.left->¬ vy g (·.l) l v->td g l v
 |step (e a:ni) (x:Int):td g l e.l.toNat->e∈g.edges->x∈l->g.edges[x.toNat]?=some a->a.r=e.r->td g l a.l.toNat
def rT(g:Gr)(l:LI_)(w:Nat):Prop:=∃ e∈g.edges,td g l e.l.toNat/\e.r=w
def M8(g:Gr)(l:LI_)(v:Value)(H':Heap):Prop:=
 (d9 g l/\(∀ w,rT g l w->vy g (·.r) l w)/\∃ (sl sr:LI_) (Al Ar:OA_) (cl cr:Nat),fH g.left sl/\fH g.right sr/\(∀ v:Nat,1<=v->(v:Int)<=g.left->((v:Int)∈sl↔¬ td g l v))/\(∀ w:Nat,1<=w->(w:Int)<=g.right->((w:Int)∈sr↔rT g l w))/\
  v=.tuple #[GH sl sr Al Ar cl cr,.int .i64 0]/\H'=[.own (.slice Ar sr.length cr) 3 1 sr.length (aj sr),.own (.slice Al sl.length cl) 3 1 sl.length (aj sl)])\/
 (d9 g l/\(∃ w,rT g l w/\¬ vy g (·.r) l w)/\v=.tuple #[GH [] [] none none 0 0,.int .i64 9]/\H'=[])\/
 (¬ d9 g l/\v=.tuple #[GH [] [] none none 0 0,.int .i64 1]/\H'=[])
theorem LE(g:Gr)(hg:g.Right)(A:OA_)(c b o:Nat)(hA:g.edges≠[]->A=some ⟨b,o,none⟩)(l:LI_)(hl:l.length<=100000)(hin:∀ x∈l,b7 x)(L:OA_)(cm bm om:Nat)(hL:l≠[]->L=some ⟨bm,om,none⟩):
 Fn 126 [xQ g A c,.slice L l.length cm] [] [.seg b o (fO g.edges),.seg bm om (aj l)] (M8 g l):=by
 have h1:=hg.left;have h2:=hg.right;have h3:=hg.len;obtain⟨nl,hnl⟩:∃ n:Nat,g.left=n:=⟨g.left.toNat,aa⟩;obtain⟨nr,hnr⟩:∃ n:Nat,g.right=n:=⟨g.right.toNat,aa⟩;refine ia Tryz.func126 rfl rfl λ w0=>bu ?_;refine cY (cs:=rL g A c) λ p2=>?_;refine dD λ p4=>?_;refine HG ?_;refine ak rfl (λ h=>absurd rfl h) (λ _=>ag ?_);refine bu ?_;refine bj (v:=xQ g A c) 1 ?_;refine az ?_;refine cj (Dt g hg A c b o hA l hl hin L cm bm om hL) rfl ⟨bz 2 rfl,bz 3 rfl,an⟩ ?_;refine az ?_;by_cases hM:d9 g l
 rotate_left
 ·refine aA 29 (v':=.bool true) rfl (Na Value.bool (by rw[aU hM];rfl))<|ah<|dr ?_;refine bu ?_;refine fv ?_;refine qN ?_;exact⟨[_,_],[],_,⟨⟨p4,0,_,_,rfl,rfl,rfl⟩,rfl,an⟩,ab,rfl,.inr (.inr ⟨hM,rfl,rfl⟩)⟩
 refine aA 29 (v':=.bool false) rfl (Na Value.bool (by rw[aQ hM];rfl))<|ah<|bo rfl (ag ?_);refine pR ?_;refine aA 33 (v':=af ((nl+1:Nat):Int)) rfl (Na (Value.int .i64) ((cp (n:=g.left+1) aa).trans aa))<|cX (n:=nl+1) (c:=nl+1) rfl rfl rfl rfl rfl rfl aa aa aa aK λ ge=>dD λ p7=>?_;refine nZ ?_;rw[show made [Value.slice none 0 0] ((nl+1)*1)=(List.replicate (nl+1) en).map cT by rw[c8,NT,OI];rfl];refine aI ?_;refine bj 3 ?_;refine iZ ?_;refine bS (ay.nils 3 (nl+1)) ?_
 refine cA (σ:=Nat×List fg) (λ s=>[(38,af s.1),(37,af g.edges.length),(36,.slice A g.edges.length c),(7,ap p7 0),(4,ap p4 0),(2,ap p2 0),(1,.slice L l.length cm)])
  (λ s=>[blk p7 162 [ax ge 0 (nl+1) (nl+1)],.own (ax ge 0 (nl+1) (nl+1)) 23 1 (nl+1) (s.2.map cT),blk p4 182 [.slice none 0 0,.slice none 0 0],blk p2 178 (rL g A c),.seg b o (fO g.edges),.seg bm om (aj l)]++s.2.map (bd 3))
  (λ s=>s.1<=g.edges.length/\s.2.length=nl+1/\∀ (v:Nat) (r:fg),s.2[v]?=some r->r.l=xO g v s.1) (λ s=>g.edges.length-s.1)
  (0,List.replicate (nl+1) en) a7 ay.refl ⟨Nl _,ai,λ v r h=>?_⟩ ?_
 ·rw[Nw] at h;split at h
  ·simp only[Nc] at h;subst h;rfl
  ·cases h
 rintro⟨k,rows⟩ ⟨hk,hrows,htr⟩;simp only at hk hrows htr ⊢;refine ao ?_;refine am (ak rfl (λ hlt=>ag ?_) (λ hge=>aO ?_))
 ·have hlt:k<g.edges.length:=by omega
  obtain rfl:=hA (by intro h0;rw[h0] at hlt;simp at hlt);obtain⟨e,he⟩:∃ e,g.edges[k]?=some e:=⟨g.edges[k],be hlt⟩;have her:=hg.edge e (Nb he);obtain⟨v,hv⟩:∃ v:Nat,e.l=v:=⟨e.l.toNat,aa⟩;have hvn:v<rows.length:=aa;obtain⟨row,hrow⟩:∃ r,rows[v]?=some r:=⟨rows[v],be hvn⟩;have hrl':=htr v row hrow;have hlen:=sL g v k;rw[<- hrl'] at hlen;refine am (aq ?_);refine uh ?_;refine aF (aZ 4 rfl rfl (kl he)) ?_;refine dD λ p9=>?_;refine iA ?_;refine od ?_;refine bS (ay.front (i:=v) (c:=bd 3 row) (by rw[Nk,hrow];rfl)) ?_;refine cq ?_;refine bM 13 (dT [0,1,2,3,4,5,6,7,8,9]++[(10,false),(11,false)]++dT [12]) [1,2,3] aX ab rfl<|bh rfl (ad (v:=ax ge 0 (nl+1) (nl+1)) 1 rfl) ?_;refine iH ?_;refine bh rfl (ad (v:=ax ge 0 (nl+1) (nl+1)) 1 rfl) ?_;refine iH ?_;refine dK 44 (v':=af (v:Int)) rfl (Na (Value.int .i64) hv)<|dK 47 (v':=af (v:Int)) rfl (Na (Value.int .i64) hv)<|oo ?_;refine bh rfl (aw (v:=cT row) 2 rfl rfl rfl (show (rows.map cT)[v]?=some (cT row) by rw[Nk,hrow];rfl)) ?_;refine iH ?_;refine cz ?_;refine dp λ g2=>?_;refine b6 [2,3,4]<|cz ?_;refine bx (n:=row.l.length) (m:=1) (off:=0) (news:=aj [e.r]) 1 0 rfl rfl rfl rfl rfl rfl ab rfl rfl (aS g2 _ _ (0,0)) aK rfl rfl aa aa (λ _ _=>rfl) λ A2 c2=>?_;rw[show row.l.length+1=(row.l++[e.r]).length by simp,show aj row.l++aj [e.r]=aj (row.l++[e.r]) by simp[aj]];refine HY ?_;refine⟨(k+1,rows.set v ⟨A2,c2,row.l++[e.r]⟩),⟨?_,rfl,rfl,rfl,rfl,rfl,rfl,an⟩,?_,⟨by simp only;omega,by simp only[NO];omega,λ u q hu=>?_⟩,by simp only;omega⟩
  ·refine fy ?_;rw[cp aa];rfl
  ·simp only[O1];refine ay.trans (ay.sub (NW _ _)) (ay.trans (ay.back (A:=[_,_,_,_,_,_,_]) (by rw[Nm];exact hvn)) (ay.sub (NW _ _)))
  ·simp only at hu ⊢;rw[Fb he];by_cases huv:v=u
   ·subst huv;rw[Nq hvn] at hu;simp only[Nc] at hu;rw[<- hu,if_pos hv,hrl']
   ·rw[Ns huv] at hu;rw[if_neg aa,NN];exact htr u q hu
 ·have hk':k=g.edges.length:=by omega
  subst hk'
  refine iv (σ:=Nat×Nat×Nat) (λ s=>[(10,ax s.1 0 (nl+1) (nl+1)),(11,ap s.2.2 0),(63,ax s.2.1 0 (nr+1) (nr+1)),(7,ap p7 0),(4,ap p4 0),(2,ap p2 0),(1,.slice L l.length cm)])
   (λ s=>[.own (ax s.1 0 (nl+1) (nl+1)) 3 1 (nl+1) (aj (List.replicate (nl+1) 0)),.own (ax s.2.1 0 (nr+1) (nr+1)) 3 1 (nr+1) (aj (List.replicate (nr+1) 0)),blk s.2.2 23 [ax s.2.1 0 (nr+1) (nr+1)],
    blk p7 162 [ax ge 0 (nl+1) (nl+1)],.own (ax ge 0 (nl+1) (nl+1)) 23 1 (nl+1) (rows.map cT),blk p4 182 [.slice none 0 0,.slice none 0 0],blk p2 178 (rL g A c),.seg b o (fO g.edges),.seg bm om (aj l)]++rows.map (bd 3)) ?_ ?_
  ·refine ly (Sf:=[blk p2 178 (rL g A c)])<|jU [0,1,2,4,5,6] bG [3] ab rfl<|iH ?_;refine iH ?_;refine a9 ?_;refine cM<|mF 58 (v':=af ((nl+1:Nat):Int)) rfl (Na (Value.int .i64) ((cp (n:=g.left+1) aa).trans aa))<|mF 62 (v':=af ((nr+1:Nat):Int)) rfl (Na (Value.int .i64) ((cp (n:=g.right+1) aa).trans aa))<|?_
   (repeat' (first|exact an|refine av 3 [7,8] bG ab ?_|refine av 7 [8] bG ab ?_|refine av 7 [9] bG ab ?_|refine av 3 [8] bG ab ?_|refine av 3 [7] bG ab ?_|refine av 3 [] bG ab ?_|refine av 7 [] bG ab ?_|refine av 8 [] bG ab ?_|refine av 9 [] bG ab ?_|refine av 10 [] bG ab ?_|refine⟨⟨_,rfl,?_⟩,?_⟩|refine cX (n:=nl+1) (c:=nl+1) rfl rfl rfl rfl rfl rfl aa aa aa aK λ go=>?_|refine cX (n:=nr+1) (c:=nr+1) rfl rfl rfl rfl rfl rfl aa aa aa aK λ go=>?_|refine nD rfl rfl rfl aK λ p11=>?_|refine fG 0 rfl [] rfl ?_|refine fG 1 rfl [] rfl ?_|refine fG 2 rfl [] rfl ?_|refine b6 [4] ?_|refine b6 [5] ?_|refine b6 [6] ?_|refine db [] rfl ⟨⟨[4],ab,rfl⟩,?_⟩|refine db [] rfl ⟨⟨[5],ab,rfl⟩,?_⟩|refine db [] rfl ⟨⟨[6],ab,rfl⟩,?_⟩|refine fd bG ⟨(_,_,_),a7,?_⟩))
   all_goals rw[show made [af 0] ((nl+1)*1)=aj (List.replicate (nl+1) 0) by rw[c8,NT];simp[aj],show made [af 0] ((nr+1)*1)=aj (List.replicate (nr+1) 0) by rw[c8,NT];simp[aj]]
   all_goals (first|exact ay.re (A:=[_,_,_,_,_,_,_,_,_]) [0,1,2,3,4,5,6,7,8] rfl ab|exact ay.re (A:=[_,_,_,_,_,_,_,_,_]) [0,2,1,3,4,5,6,7,8] rfl ab|exact ay.re (A:=[_,_,_,_,_,_,_,_,_]) [1,0,2,3,4,5,6,7,8] rfl ab|exact ay.re (A:=[_,_,_,_,_,_,_,_,_]) [1,2,0,3,4,5,6,7,8] rfl ab|exact ay.re (A:=[_,_,_,_,_,_,_,_,_]) [2,0,1,3,4,5,6,7,8] rfl ab|exact ay.re (A:=[_,_,_,_,_,_,_,_,_]) [2,1,0,3,4,5,6,7,8] rfl ab)
  ·rintro⟨q10,gb,p11⟩;simp only;have hrg:=hM.rng;refine aI ?_;refine iZ ?_
   refine cA (σ:=Nat) (λ k=>[(66,af k),(65,af l.length),(64,.slice L l.length cm),(10,ax q10 0 (nl+1) (nl+1)),(11,ap p11 0),(7,ap p7 0),(4,ap p4 0),(2,ap p2 0)])
    (λ k=>[.own (ax q10 0 (nl+1) (nl+1)) 3 1 (nl+1) (aj (kG g (·.l) (·.r) (nl+1) (l.take k))),.own (ax gb 0 (nr+1) (nr+1)) 3 1 (nr+1) (aj (kG g (·.r) (·.l) (nr+1) (l.take k))),blk p11 23 [ax gb 0 (nr+1) (nr+1)],
     blk p7 162 [ax ge 0 (nl+1) (nl+1)],.own (ax ge 0 (nl+1) (nl+1)) 23 1 (nl+1) (rows.map cT),blk p4 182 [.slice none 0 0,.slice none 0 0],blk p2 178 (rL g A c),.seg b o (fO g.edges),.seg bm om (aj l)]++rows.map (bd 3))
    (λ k=>k<=l.length) (λ k=>l.length-k) 0 a7 ay.refl (Nl _) ?_
   intro k hk;refine ao ?_;refine am (ak rfl (λ hlt=>ag ?_) (λ hge=>aO ?_))
   ·have hlt:k<l.length:=by omega
    obtain rfl:=hL (by intro h0;rw[h0] at hlt;simp at hlt);obtain⟨x,hx⟩:∃ x,l[k]?=some x:=⟨l[k],be hlt⟩;have hxr:=hrg x (Nb hx);have htk:l.take (k+1)=l.take k++[x]:=by rw[Nu,hx];rfl
    obtain⟨m,rfl⟩:∃ m:Nat,x=m:=⟨x.toNat,aa⟩;have hme:m<g.edges.length:=aa;obtain rfl:=hA (by intro h0;rw[h0] at hme;simp at hme);obtain⟨e,he⟩:∃ e,g.edges[m]?=some e:=⟨g.edges[m],be hme⟩;have her:=hg.edge e (Nb he);have he':g.edges[((m:Nat):Int).toNat]?=some e:=by rw[NA];exact he
    obtain⟨el,hel⟩:∃ n:Nat,e.l=n:=⟨e.l.toNat,aa⟩;obtain⟨er,her2⟩:∃ n:Nat,e.r=n:=⟨e.r.toNat,aa⟩;refine am (aq ?_);refine iz ?_;refine aF (aZ 8 rfl rfl (bI hx)) ?_;refine dQ ?_;refine bj 6 ?_;refine az ?_;refine aF (jc rfl hme) ?_;refine aF (aZ 7 rfl rfl (kl he)) ?_;refine dD λ p14=>?_;refine dE 0 ?_;refine fC ?_;refine bM 13 (dT [0,1,2,3,4,5,6,7,8,9,10]++[(11,false)]++dT [12]) [0,3] aX ab rfl<|iH ?_;refine bh rfl (ad 1 rfl) ?_;refine iH ?_;refine iH ?_;refine iH ?_;refine dK 77 (v':=af (el:Int)) rfl (Na (Value.int .i64) hel)<|dK 80 (v':=af (er:Int)) rfl (Na (Value.int .i64) her2)<|oo ?_;refine cz ?_;refine aW 1 rfl rfl rfl rfl (fh rfl (by rw[j6];omega)) [] rfl<|b6 [0,3]<|oo ?_;refine cM<|aW 2 rfl rfl rfl rfl (fh rfl (by rw[j6];omega)) [] rfl<|dv ?_;refine⟨k+1,⟨?_,rfl,rfl,rfl,rfl,rfl,rfl,rfl,an⟩,?_,aa,aa⟩
    ·refine fy ?_;rw[cp aa];rfl
    ·rw[htk,vW g (·.l) (·.r) _ _ _ he',vW g (·.r) (·.l) _ _ _ he',show e.l.toNat=el by omega,show e.r.toNat=er by omega];exact ay.sub (NW _ _)
   ·obtain rfl:k=l.length:=by omega
    rw[NH]
    refine iv (σ:=Nat×Nat×Nat×Nat) (λ s=>[(15,ap s.1 0),(16,ap s.2.1 0),(91,ax s.2.2.1 0 (nl+1) (nl+1)),(95,ax s.2.2.2 0 (nr+1) (nr+1)),(10,ax q10 0 (nl+1) (nl+1)),(11,ap p11 0),(7,ap p7 0),(4,ap p4 0),(2,ap p2 0)])
     (λ s=>[blk s.1 104 [ax s.2.2.1 0 (nl+1) (nl+1)],blk s.2.1 104 [ax s.2.2.2 0 (nr+1) (nr+1)],.own (ax s.2.2.1 0 (nl+1) (nl+1)) 4 1 (nl+1) (dM (List.replicate (nl+1) false)),.own (ax s.2.2.2 0 (nr+1) (nr+1)) 4 1 (nr+1) (dM (List.replicate (nr+1) false)),
      .own (ax q10 0 (nl+1) (nl+1)) 3 1 (nl+1) (aj (kG g (·.l) (·.r) (nl+1) l)),.own (ax gb 0 (nr+1) (nr+1)) 3 1 (nr+1) (aj (kG g (·.r) (·.l) (nr+1) l)),blk p11 23 [ax gb 0 (nr+1) (nr+1)],
      blk p7 162 [ax ge 0 (nl+1) (nl+1)],.own (ax ge 0 (nl+1) (nl+1)) 23 1 (nl+1) (rows.map cT),blk p4 182 [.slice none 0 0,.slice none 0 0],blk p2 178 (rL g A c),.seg b o (fO g.edges),.seg bm om (aj l)]++rows.map (bd 3)) ?_ ?_
    ·refine ly (Sf:=[blk p2 178 (rL g A c)])<|jU [0,1,2,4,5,6] bG [6] ab rfl<|iH ?_;refine iH ?_;refine a9 ?_;refine cM<|mF 90 (v':=af ((nl+1:Nat):Int)) rfl (Na (Value.int .i64) ((cp (n:=g.left+1) aa).trans aa))<|mF 94 (v':=af ((nr+1:Nat):Int)) rfl (Na (Value.int .i64) ((cp (n:=g.right+1) aa).trans aa))<|?_
     (repeat' (first|exact an|refine⟨⟨_,rfl,?_⟩,?_⟩|refine cX (n:=nl+1) (c:=nl+1) rfl rfl rfl rfl rfl rfl (by omega) (by omega) (by omega) (λ _=>rfl) λ go=>?_|refine cX (n:=nr+1) (c:=nr+1) rfl rfl rfl rfl rfl rfl (by omega) (by omega) (by omega) (λ _=>rfl) λ go=>?_|refine nD rfl rfl rfl (λ _=>rfl) λ pa=>?_|refine fG 0 rfl [] rfl ?_|refine fG 1 rfl [] rfl ?_|refine fG 2 rfl [] rfl ?_|refine fG 3 rfl [] rfl ?_|refine ah ⟨⟨[7],by decide,rfl⟩,?_⟩|refine ah ⟨⟨[8],by decide,rfl⟩,?_⟩|refine ah ⟨⟨[9],by decide,rfl⟩,?_⟩|refine ah ⟨⟨[10],by decide,rfl⟩,?_⟩|refine av 3 [7,8,9] (by decide+kernel) (by decide) ?_|refine av 7 [8,9] (by decide+kernel) (by decide) ?_|refine av 8 [9] (by decide+kernel) (by decide) ?_|refine av 9 [] (by decide+kernel) (by decide) ?_|refine av 10 [] (by decide+kernel) (by decide) ?_|refine av 11 [] (by decide+kernel) (by decide) ?_|refine av 8 [] (by decide+kernel) (by decide) ?_|refine av 7 [9] (by decide+kernel) (by decide) ?_|refine av 7 [10] (by decide+kernel) (by decide) ?_|refine av 7 [] (by decide+kernel) (by decide) ?_|refine av 7 [8] (by decide+kernel) (by decide) ?_|refine av 3 [8,9] (by decide+kernel) (by decide) ?_|refine av 3 [9] (by decide+kernel) (by decide) ?_|refine av 3 [] (by decide+kernel) (by decide) ?_|refine av 3 [8] (by decide+kernel) (by decide) ?_|refine av 3 [7,9] (by decide+kernel) (by decide) ?_|refine av 3 [7] (by decide+kernel) (by decide) ?_|refine av 3 [7,8] (by decide+kernel) (by decide) ?_|refine fd (by decide+kernel) ⟨(_,_,_,_),⟨rfl,rfl,rfl,rfl,rfl,rfl,rfl,rfl,rfl,an⟩,?_⟩))
     all_goals rw[show made [Value.bool false] ((nl+1)*1)=dM (List.replicate (nl+1) false) by rw[c8,NT];simp[dM],show made [Value.bool false] ((nr+1)*1)=dM (List.replicate (nr+1) false) by rw[c8,NT];simp[dM]]
     all_goals (first|exact ay.re (A:=[_,_,_,_,_,_,_,_,_,_,_,_,_]) [0,1,2,3,4,5,6,7,8,9,10,11,12] rfl ab|exact ay.re (A:=[_,_,_,_,_,_,_,_,_,_,_,_,_]) [0,1,3,2,4,5,6,7,8,9,10,11,12] rfl ab|exact ay.re (A:=[_,_,_,_,_,_,_,_,_,_,_,_,_]) [0,2,1,3,4,5,6,7,8,9,10,11,12] rfl ab|exact ay.re (A:=[_,_,_,_,_,_,_,_,_,_,_,_,_]) [0,2,3,1,4,5,6,7,8,9,10,11,12] rfl ab|exact ay.re (A:=[_,_,_,_,_,_,_,_,_,_,_,_,_]) [0,3,1,2,4,5,6,7,8,9,10,11,12] rfl ab|exact ay.re (A:=[_,_,_,_,_,_,_,_,_,_,_,_,_]) [0,3,2,1,4,5,6,7,8,9,10,11,12] rfl ab|exact ay.re (A:=[_,_,_,_,_,_,_,_,_,_,_,_,_]) [1,0,2,3,4,5,6,7,8,9,10,11,12] rfl ab|exact ay.re (A:=[_,_,_,_,_,_,_,_,_,_,_,_,_]) [1,0,3,2,4,5,6,7,8,9,10,11,12] rfl ab|exact ay.re (A:=[_,_,_,_,_,_,_,_,_,_,_,_,_]) [1,2,0,3,4,5,6,7,8,9,10,11,12] rfl ab|exact ay.re (A:=[_,_,_,_,_,_,_,_,_,_,_,_,_]) [1,2,3,0,4,5,6,7,8,9,10,11,12] rfl ab|exact ay.re (A:=[_,_,_,_,_,_,_,_,_,_,_,_,_]) [1,3,0,2,4,5,6,7,8,9,10,11,12] rfl ab|exact ay.re (A:=[_,_,_,_,_,_,_,_,_,_,_,_,_]) [1,3,2,0,4,5,6,7,8,9,10,11,12] rfl ab|exact ay.re (A:=[_,_,_,_,_,_,_,_,_,_,_,_,_]) [2,0,1,3,4,5,6,7,8,9,10,11,12] rfl ab|exact ay.re (A:=[_,_,_,_,_,_,_,_,_,_,_,_,_]) [2,0,3,1,4,5,6,7,8,9,10,11,12] rfl ab|exact ay.re (A:=[_,_,_,_,_,_,_,_,_,_,_,_,_]) [2,1,0,3,4,5,6,7,8,9,10,11,12] rfl ab|exact ay.re (A:=[_,_,_,_,_,_,_,_,_,_,_,_,_]) [2,1,3,0,4,5,6,7,8,9,10,11,12] rfl ab|exact ay.re (A:=[_,_,_,_,_,_,_,_,_,_,_,_,_]) [2,3,0,1,4,5,6,7,8,9,10,11,12] rfl ab|exact ay.re (A:=[_,_,_,_,_,_,_,_,_,_,_,_,_]) [2,3,1,0,4,5,6,7,8,9,10,11,12] rfl ab|exact ay.re (A:=[_,_,_,_,_,_,_,_,_,_,_,_,_]) [3,0,1,2,4,5,6,7,8,9,10,11,12] rfl ab|exact ay.re (A:=[_,_,_,_,_,_,_,_,_,_,_,_,_]) [3,0,2,1,4,5,6,7,8,9,10,11,12] rfl ab|exact ay.re (A:=[_,_,_,_,_,_,_,_,_,_,_,_,_]) [3,1,0,2,4,5,6,7,8,9,10,11,12] rfl ab|exact ay.re (A:=[_,_,_,_,_,_,_,_,_,_,_,_,_]) [3,1,2,0,4,5,6,7,8,9,10,11,12] rfl ab|exact ay.re (A:=[_,_,_,_,_,_,_,_,_,_,_,_,_]) [3,2,0,1,4,5,6,7,8,9,10,11,12] rfl ab|exact ay.re (A:=[_,_,_,_,_,_,_,_,_,_,_,_,_]) [3,2,1,0,4,5,6,7,8,9,10,11,12] rfl ab)
    rintro⟨p15,p16,gl,gr⟩;simp only;obtain⟨bk,hbk⟩:∃ bk,bk=kG g (·.r) (·.l) (nr+1) l:=⟨_,rfl⟩;obtain⟨pr,hpr⟩:∃ pr,pr=kG g (·.l) (·.r) (nl+1) l:=⟨_,rfl⟩;rw[<- hbk,<- hpr];refine bu ?_;refine dD λ p17=>?_;refine iA ?_;refine bu ?_;refine dD λ p18=>?_;refine ah<|aI ?_;refine iA ?_;obtain⟨K,hKd⟩:∃ K:WK,K=⟨p15,p7,p16,p11,p17,p18,gl,gr,gb,ge,nl,nr,rows,bk⟩:=⟨_,rfl⟩;obtain⟨ends,hen⟩:∃ ends:Nat->LI_,ends=λ v=>if v<=nl then xO g v g.edges.length else []:=⟨_,rfl⟩
    have hen1:∀ (v:Nat) (w:Int),w∈ends v->v<=nl/\∃ e∈g.edges,e.l=v/\e.r=w:=by
     intro v w hw;rw[hen] at hw;simp only at hw;split at hw
     ·exact⟨by assumption,yL.1 hw⟩
     ·cases hw
    have hen2:∀ e∈g.edges,e.r∈ends e.l.toNat:=by
     intro e he;have:=hg.edge e he;rw[hen];simp only;rw[if_pos aa,yL];exact⟨e,he,aa,rfl⟩
    have hmet:∀ w:Nat,w<=nr->bk.getD w 0=0->¬ vy g (·.r) l w:=by
     rintro w hw h0 ⟨x,hx,e,he,her⟩;have h5:=pb hg hM (key:=(·.r)) (val:=(·.l)) (.inr rfl) (n:=nr+1) (v:=w) aa hx he her;rw[Nf,hbk,h5] at h0;have h6:=hg.edge e (Nb he);simp only[NL] at h0;omega
    have hfree:∀ w:Nat,w<=nr->¬ vy g (·.r) l w->bk.getD w 0=0:=by
     intro w hw hno;rw[Nf,hbk,vq hg (.inr rfl) aa hno];rfl
    have hmate:∀ w:Nat,w<=nr->bk.getD w 0≠0->∃ x∈l,∃ a,g.edges[x.toNat]?=some a/\a.r=w/\bk.getD w 0=a.l:=by
     intro w hw h0;have hm:vy g (·.r) l w:=NG λ h=>h0 (hfree w hw h);obtain⟨x,hx,e,he,her⟩:=hm;have h5:=pb hg hM (key:=(·.r)) (val:=(·.l)) (.inr rfl) (n:=nr+1) (v:=w) aa hx he her;exact⟨x,hx,e,he,her,by rw[Nf,hbk,h5];rfl⟩
    have hK:K.OK ends:=by
     rw[hKd];refine⟨by show nl<=200;omega,by show nr<=200;omega,hrows,λ v row hr=>?_,λ v=>?_,λ v w hw=>?_,λ w hw=>?_⟩
     ·have hv:v<nl+1:=by rw[← hrows];exact (List.getElem?_eq_some_iff.1 hr).1
      rw[hen];simp only;rw[if_pos aa];exact htr v row hr
     ·rw[hen];simp only;split
      ·exact Ov (sL _ _ _) h3
      ·exact Nl _
     ·obtain⟨_,e,he,_,rfl⟩:=hen1 v w hw;have:=hg.edge e he;show 1<=e.r/\e.r<=(nr:Int);omega
     ·show ∃ y:Nat,bk[w]?=some (y:Int)∧y≤nl;have hw':w≤nr:=hw;have hbl:bk.length=nr+1:=by rw[hbk,j6]
      have hgd:bk[w]?=some (bk.getD w 0):=by rw[Nf,be aa];rfl
      by_cases h0:bk.getD w 0=0
      ·exact⟨0,by rw[hgd,h0];rfl,aa⟩
      ·obtain⟨x,_,a,ha,_,hal⟩:=hmate w hw' h0;have:=hg.edge a (Nb ha);exact⟨a.l.toNat,by rw[hgd,hal];congr 1;omega,aa⟩
    have hAR:∀ k (v:Nat) (w:Int),(td g l v/\(¬ vy g (·.l) l v->v<k))->w∈ends v->rT g l w.toNat:=by
     rintro k v w ⟨hv,_⟩ hw;obtain⟨_,e,he,hel,her⟩:=hen1 v w hw;have:=hg.edge e he;exact⟨e,he,by rw[show e.l.toNat=v by omega];exact hv,aa⟩
    have hAL:∀ k (w:Nat),rT g l w->bk.getD w 0≠0->td g l (bk.getD w 0).toNat/\(¬ vy g (·.l) l (bk.getD w 0).toNat->(bk.getD w 0).toNat<k):=by
     rintro k w ⟨e,he,hal,her⟩ h0;have hb:=hg.edge e he;obtain⟨x,hx,a,ha,har,hbl⟩:=hmate w aa h0;have hab:=hg.edge a (Nb ha);rw[hbl];exact⟨.step e a x hal he hx ha aa,λ hno=>absurd ⟨x,hx,a,ha,by show a.l=_;omega⟩ hno⟩
    refine bS (K:=[.own (ax q10 0 (nl+1) (nl+1)) 3 1 (nl+1) (aj pr),blk p4 182 [.slice none 0 0,.slice none 0 0],blk p2 178 (rL g A c)]++KM K (List.replicate (nl+1) false) (List.replicate (nr+1) false) false) ?_ ?_
    ·rw[hKd];exact ay.re (A:=[_,_,_,_,_,_,_,_,_,_,_,_,_,_,_]) (R:=rows.map (bd 3)) [6,11,12,2,9,3,8,1,0,4,5,7,10] rfl ab
    have hKb:K.back=bk:=by rw[hKd]
    have hKl:K.nl=nl:=by rw[hKd]
    have hKr:K.nr=nr:=by rw[hKd]
    have e15:p15=K.p15:=by rw[hKd]
    have e16:p16=K.p16:=by rw[hKd]
    have e17:p17=K.p17:=by rw[hKd]
    have e18:p18=K.p18:=by rw[hKd]
    clear hKd
    subst e15 e16 e17 e18;have hprl:pr.length=nl+1:=by rw[hpr,j6]
    have hpf:∀ v:Nat,v<=nl->(pr.getD v 0=0↔¬ vy g (·.l) l v):=by
     intro v hv;rw[Nf,hpr]
     constructor
     ·rintro h0 ⟨x,hx,e,he,hel⟩;rw[pb hg hM (key:=(·.l)) (val:=(·.r)) (.inl rfl) (n:=nl+1) (v:=v) aa hx he hel] at h0;have h6:=hg.edge e (Nb he);simp only[NL] at h0;omega
     ·intro hno;rw[vq hg (.inl rfl) aa hno];rfl
    refine jn ?_
    refine cA (σ:=Nat×LB_×LB_×Bool) (λ s=>[(19,af (s.1:Int)),(18,ap K.p18 0),(17,ap K.p17 0),(15,ap K.p15 0),(16,ap K.p16 0),(10,ax q10 0 (nl+1) (nl+1)),(4,ap p4 0),(2,ap p2 0)])
     (λ s=>[.own (ax q10 0 (nl+1) (nl+1)) 3 1 (nl+1) (aj pr),blk p4 182 [.slice none 0 0,.slice none 0 0],blk p2 178 (rL g A c)]++KM K s.2.1 s.2.2.1 s.2.2.2)
     (λ s=>1<=s.1/\s.1<=nl+1/\e6 ends bk (List.replicate (nl+1) false) (List.replicate (nr+1) false) false s.2.1 s.2.2.1 s.2.2.2/\LM (λ v=>td g l v/\(¬ vy g (·.l) l v->v<s.1)) (rT g l) bk s.2.1 s.2.2.1 s.2.2.2/\∀ v:Nat,1<=v->v<s.1->¬ vy g (·.l) l v->s.2.1[v]?=some true) (λ s=>nl+1-s.1)
     (1,List.replicate (nl+1) false,List.replicate (nr+1) false,false) a7 ay.refl ⟨Nr _,by simp only;omega,e6.refl,⟨λ v hv=>?_,λ w hw=>?_,λ h=>by cases h⟩,λ v h1 h2=>absurd h2 (by simp only;omega)⟩ ?_
    ·simp only[Nw] at hv;split at hv<;>simp at hv
    ·simp only[Nw] at hw;split at hw<;>simp at hw
    rintro⟨v,l1,r1,m1⟩ ⟨hv1,hvn,hW,hS,hall⟩;simp only at hv1 hvn hW hS hall ⊢;have hl1:l1.length=nl+1:=by rw[hW.ll];simp
    have hr1:r1.length=nr+1:=by rw[hW.rl];simp
    refine aI ?_;refine bj 2 ?_;refine aN ?_;refine ak rfl (λ hle=>ag ?_) (λ hgt=>aO ?_)
    ·have hle':v≤nl:=by omega
     obtain⟨y,hy⟩:∃ y,pr[v]?=some y:=⟨_,be aa⟩;have hyd:pr.getD v 0=y:=by rw[Nf,hy];rfl
     refine am (aq ?_);refine aI ?_;refine ip ?_;refine aF (aw 0 rfl rfl rfl (bI hy)) ?_;refine aN ?_;refine ak rfl (λ h0=>?_) (λ h0=>ag ?_)
     ·have hno:¬ vy g (·.l) l v:=(hpf v hle').1 (by rw[hyd];exact h0)
      have hfalse:l1[v]?=some false:=by
       obtain⟨bv,hbv⟩:∃ bv,l1[v]?=some bv:=⟨_,be aa⟩
       cases bv with
       |false=>exact hbv
       |true=>have:=(hS.left v hbv).2 hno;omega
      have hS':LM (λ u=>td g l u/\(¬ vy g (·.l) l u->u<v+1)) (rT g l) K.back l1 r1 m1:=by
       rw[hKb];exact⟨λ u hu=>⟨(hS.left u hu).1,λ hn=>by have:=(hS.left u hu).2 hn;omega⟩,hS.right,hS.more⟩
      refine aE (fV [] rfl ?_);refine bj (v:=K.fn) 8 ?_;refine az ?_
      refine bK (K:=[.own (ax q10 0 (nl+1) (nl+1)) 3 1 (nl+1) (aj pr),blk p4 182 [.slice none 0 0,.slice none 0 0],blk p2 178 (rL g A c)]) (fst:=[]) (cap:=[ap K.p15 0,ap K.p7 0,ap K.p16 0,ap K.p11 0,ap K.p17 0,ap K.p18 0]) []
       (Ko K ends hK _ (rT g l) (hAR (v+1)) (by rw[hKb];exact hAL (v+1)) (l1.count false) l1 r1 m1 v (Nr _) (by rw[hKl];exact hl1) (by rw[hKr];exact hr1) hfalse ⟨.free v hv1 aa hno,λ _=>by omega⟩ hS') rfl rfl rfl rfl aX (ay.perm OP) an aK ?_
      rintro vv H' ⟨l2,r2,m2,rfl,hW2,hS2,hl2⟩;rw[hKb] at hW2 hS2;refine⟨dl rfl (dd _ _),?_⟩;refine cD (ay.perm OP)<|dv ?_;refine⟨(v+1,l2,r2,m2),⟨?_,rfl,rfl,rfl,rfl,rfl,rfl,rfl,an⟩,ay.refl,⟨by simp only;omega,by simp only;omega,hW.trans hW2,hS2,λ u h1 h2 hn=>?_⟩,by simp only;omega⟩
      ·show some (af (IntKind.i64.wrap ((v:Int)+1)))=_;rw[cp aa];rfl
      ·by_cases e:u=v
       ·subst e;exact hl2
       ·exact hW2.lm u (hall u h1 (by simp only at h2;omega) hn)
     ·refine ao ?_;have hmt:vy g (·.l) l v:=Classical.byContradiction fun h=>h0 (by have:=(hpf v hle').2 h;rw[hyd] at this;exact this);refine⟨(v+1,l1,r1,m1),⟨?_,rfl,rfl,rfl,rfl,rfl,rfl,rfl,trivial⟩,ay.refl,⟨by simp only;omega,by simp only;omega,hW,⟨fun u hu=>⟨(hS.left u hu).1,fun hn=>by have:=(hS.left u hu).2 hn;simp only;omega⟩,hS.right,hS.more⟩,fun u h1 h2 hn=>?_⟩,by simp only;omega⟩
      ·show some (af (IntKind.i64.wrap ((v:Int)+1)))=_;rw[cp aa];rfl
      ·by_cases e:u=v
       ·subst e;exact absurd hmt hn
       ·exact hall u h1 (by simp only at h2;omega) hn
    ·obtain rfl:v=nl+1:=by omega
     refine aI ?_;refine bj 7 ?_;refine aN ?_;have hl1':l1.length=K.nl+1:=aa;have hr1':r1.length=K.nr+1:=aa
     have hL1:∀ u:Nat,u<=nl->(l1[u]?=some true↔td g l u):=by
      intro u hu;refine⟨λ h=>(hS.left u h).1,λ h=>?_⟩
      clear hu
      induction h with
      |free u h1 h2 h3=>exact hall u h1 aa h3
      |step e a x _ he hx ha har ih=>
       have hb:=hg.edge e he;have hab:=hg.edge a (Nb ha);have q1:=hW.newL _ ih (by rw[Nw];split<;>simp) e.r (hen2 e he);have q2:=hW.newR _ q1 (by rw[Nw];split<;>simp)
       have q3:bk.getD e.r.toNat 0=a.l:=by
        rw[Nf,hbk,pb hg hM (key:=(·.r)) (val:=(·.l)) (.inr rfl) (n:=nr+1) (v:=e.r.toNat) aa hx ha (by show a.r=_;omega)];rfl
       have:=q2.2 (by rw[q3];omega)
       rwa [q3] at this
     have hR1:∀ w:Nat,(r1[w]?=some true↔rT g l w):=by
      intro w;refine⟨λ h=>hS.right w h,λ ⟨e,he,hal,her⟩=>?_⟩;have hb:=hg.edge e he;have q1:=hW.newL _ ((hL1 e.l.toNat aa).2 hal) (by rw[Nw];split<;>simp) e.r (hen2 e he)
      rwa [show e.r.toNat=w by omega] at q1
     cases m1 with
     |true=>
      refine dr ?_;refine bu ?_;refine fv ?_;refine dE 1 ?_;refine ii ?_;refine bN ?_;obtain⟨w,hw,hw0⟩:=hS.more rfl;obtain⟨e,he,_,her⟩:=id hw;have:=hg.edge e he;exact⟨[_,_],[],_,⟨⟨p4,1,_,_,rfl,rfl,rfl⟩,rfl,an⟩,ab,rfl,.inr (.inl ⟨hM,⟨w,hw,hmet w aa hw0⟩,rfl,rfl⟩)⟩
     |false=>
      refine bo rfl (ag ?_);have T1:=wo (aL K.gl 0) (K.nl+1) K.gl 0 l1 aK aa false;have T2:=wo (aL K.gr 0) (K.nr+1) K.gr 0 r1 aK aa true;rw[hl1'] at T1;rw[hr1'] at T2;refine cq ?_;refine bM 7 (dT [0,2]++[(1,false),(3,false)]++dT [4]++[(5,false)]++dT [6]) [3,5] aX ab rfl<|bh rfl (ad 0 rfl) ?_;refine bh rfl (ad 1 rfl) ?_;refine cz ?_;refine dG T1 rfl ⟨fX 9 rfl ca (.inr rfl),an⟩ ?_;rintro v H' ⟨Al,cl,rfl,rfl⟩;refine⟨rfl,b6 [4,6] ?_⟩;refine cz ?_;refine dG T2 rfl ⟨fX 11 rfl ca (.inr rfl),an⟩ ?_;rintro v H' ⟨Ar,cr,rfl,rfl⟩;refine⟨rfl,b6 [5,7] ?_⟩;refine yr ?_;refine dE 3 ?_;refine b6 [5,7]<|lo ?_;refine bN<|⟨[_,_],[0,1],_,⟨⟨p4,3,_,_,rfl,rfl,rfl⟩,rfl,an⟩,ab,rfl,.inl ⟨hM,λ w hw=>?_,b9 l1 false (K.nl+1),b9 r1 true (K.nr+1),Al,Ar,cl,cr,⟨kO _ _ _,λ x hx=>?_⟩,⟨kO _ _ _,λ x hx=>?_⟩,λ v h1 h2=>?_,λ w h1 h2=>?_,rfl,rfl⟩⟩
      ·refine NG λ hno=>?_;obtain⟨e,he,_,her⟩:=id hw;have:=hg.edge e he;have q2:=hW.newR w ((hR1 w).2 hw) (by rw[Nw];split<;>simp);exact absurd (q2.1 (hfree w aa hno)) ab
      ·obtain⟨v,h1,h2,_,rfl⟩:=je.1 hx;omega
      ·obtain⟨v,h1,h2,_,rfl⟩:=je.1 hx;omega
      ·rw[je,<- hL1 v aa]
       constructor
       ·rintro⟨u,_,_,h3,h4⟩;obtain rfl:v=u:=aa;rw[h3];decide
       ·intro h;obtain⟨bv,hbv⟩:∃ bv,l1[v]?=some bv:=⟨_,be aa⟩;refine⟨v,aa,aa,?_,rfl⟩
        cases bv with
        |false=>exact hbv
        |true=>exact absurd hbv h
      ·rw[je,<- hR1 w]
       constructor
       ·rintro⟨u,_,_,h3,h4⟩;obtain rfl:w=u:=aa;exact h3
       ·intro h;exact⟨w,aa,aa,h,rfl⟩
end Go.Proofs.YtmcnpaelaieniaaGreatDoor
