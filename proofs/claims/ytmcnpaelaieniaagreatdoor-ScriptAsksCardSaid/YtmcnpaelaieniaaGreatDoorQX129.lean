import Derived.Test.YtmcnpaelaieniaaGreatDoorQX110
/- A part of the proof. -/
set_option linter.unusedVariables false
set_option linter.unusedSimpArgs false
namespace Go.Proofs.YtmcnpaelaieniaaGreatDoor
open Go.RowKit
theorem nf.rise{N:aR}(u:N.Right){least:Int}(hle:1<=least){f f':LI_}{ws:List (LN_×Int)}(q:aD N f)(h:nf N least f ws f'){lv a:LI_}(l:fu N (a9 (N.arcs.zip f)) least lv)(e:fu N (a9 (N.arcs.zip f')) least a)(K:0<=dF a N.snk.toNat):
 0<=dF lv N.snk.toNat/\dF lv N.snk.toNat<dF a N.snk.toNat:=by
 obtain⟨b,g,L,w⟩:=h;obtain rfl:=AZ g l;have x:=km g;obtain⟨f2,k1,M,_,y,_,z⟩:=w.keeps u x hle f q rfl PI.start;have A:=q.len
 have key:∀ (k v:Nat),dF a v=k->0<=dF b v/\dF b v<=k/\(dF b v=k->LP N (fC N (dj N (a9 (N.arcs.zip f)) least b (2*N.arcs.length))) least (a9 (N.arcs.zip f')) v):=by
  intro k
  induction k with
  |zero=>
   intro v s;have:=e.zero v (by simpa using s);subst this;rw[g.src];exact⟨Ov _,Ov _,λ _=>.src⟩
  |succ k B=>
   intro v s;obtain⟨r,m,hl,c,C⟩:=e.back v aa;obtain⟨D,i2,i3⟩:=B (eL N r) aa;by_cases t:least<=(a9 (N.arcs.zip f)).getD r 0
   ·have i:=g.step r m t D;rw[c] at i;refine⟨i.1,aa,fun he=>?_⟩;have n:dF b (eL N r)=k:=aa;have hp:=i3 n;have o:r∈dj N (a9 (N.arcs.zip f)) least b (2*N.arcs.length):=fI.2 ⟨m,t,aa,by rw[c];omega⟩;have:=LP.step (r:=r) hp (iM.2 ⟨o,rfl⟩) hl
    rwa [c] at this
   ·have p:=z r m aa;have j:=(fI.1 (iM.1 p).1);have n:=j.2.2.2;have E:=j.2.2.1;rw[kP,iK,c] at n;rw[iK,c] at E;have:=g.rng v;exact⟨aa,aa,λ he=>by omega⟩
 obtain⟨d,F⟩:∃ d:Nat,dF a N.snk.toNat=d:=⟨(dF a N.snk.toNat).toNat,aa⟩;obtain⟨G,H,I⟩:=key d _ F;refine⟨G,?_⟩
 rcases Int.lt_or_eq_of_le H with h|h
 ·omega
 ·exact absurd rfl (y _ (I h))
theorem nR:∀ (l:List eq) (v:Int),dJ (l.zip (List.replicate l.length 0)) v=0
 |[],_=>rfl
 |a::l,v=>by
  have:=nR l v;unfold dJ at this ⊢;simp only[Nf,Ol,Pt,Ns,NC,ite_self];omega
theorem Cu{N:aR}(a:N.Right){f:LI_}(b:aD N f):dJ (N.arcs.zip f) N.src=-dJ (N.arcs.zip f) N.snk:=by
 have c:fQ N [N.src]:=⟨OQ _ _,λ x d=>by rw[Nh.1 d];exact a.src,ai,λ h=>a.diff (Nh.1 h).symm⟩;rw[C1 b c,oT a b c]
theorem kF:∀ (l m:LI_),l.Nodup->(∀ x∈l,x∈m)->l.length<=m.length
 |[],_,_,_=>Nk _
 |x::l,m,g,b=>by
  have c:=NG.1 g;have d:=b x ai
  have h:=kF l (m.erase x) c.2 λ y f=>by
   have a:y≠x:=λ e=>c.1 (by rw[<- e];exact f);rw[List.mem_erase_of_ne a];exact b y (by simp[f])
  rw[Pn d] at h;have:0<m.length:=Pz d;rw[Nf];omega
def pk(N:aR)(i:Nat):Int:=match N.arcs[i]? with|some a=>a.fr|none=>0
def jW(N:aR)(i:Nat):Int:=match N.arcs[i]? with|some a=>a.to|none=>0
theorem kK{N:aR}{i:Nat}{a:eq}(h:N.arcs[i]?=some a):pk N i=a.fr:=by unfold pk;rw[h]
theorem uv{N:aR}{i:Nat}{a:eq}(h:N.arcs[i]?=some a):jW N i=a.to:=by unfold jW;rw[h]
def oh(N:aR)(l:LI_)(v:Int)(i:Nat):Prop:=∃ a,N.arcs[i]?=some a/\a.fr=v/\0<l.getD i 0
def wX(N:aR)(l:LI_)(v:Int)(i:Nat):Bool:=match N.arcs[i]? with|some a=>decide (a.fr=v/\0<l.getD i 0)|none=>false
theorem uw{N:aR}{l:LI_}{v:Int}{i:Nat}:wX N l v i=true↔oh N l v i:=by
 unfold wX oh
 cases h:N.arcs[i]? with
 |none=>simp
 |some a=>simp
def IU(N:aR)(l:LI_)(v:Int):Option Nat:=(List.range N.arcs.length).find? (wX N l v)
theorem yZ{N:aR}{l:LI_}{v:Int}{e:Nat}(h:IU N l v=some e):oh N l v e:=uw.1 (List.find?_some h)
theorem F2{N:aR}{l:LI_}{v:Int}{i:Nat}(h:oh N l v i):∃ e,IU N l v=some e:=by
 cases b:IU N l v with
 |some e=>exact⟨e,rfl⟩
 |none=>
  have hi:i<N.arcs.length:=by obtain⟨a,c,_⟩:=h;exact (Nb.1 c).1
  exact absurd (uw.2 h) (List.find?_eq_none.1 b i (N4.2 hi))
theorem KG{N:aR}{l:LI_}(q:Ranged N l){v:Int}(g:dJ (N.arcs.zip l) v<=0){e:Nat}{a:eq}(k:N.arcs[e]?=some a)(s:a.to=v)(hp:0<l.getD e 0):∃ i,oh N l v i:=by
 refine NE λ m=>?_;have b:∀ i,¬ oh N l v i:=λ i h=>m ⟨i,h⟩
 have n:∀ x∈(N.arcs.zip l).map (λ p=>(if p.1.to=v then p.2 else 0)-(if p.1.fr=v then p.2 else 0)),0<=x:=by
  intro x g;obtain⟨p,hp,rfl⟩:=NB.1 g;have B:=q.all p hp
  have t:(if p.1.fr=v then p.2 else 0)=0:=by
   split
   ·rename_i c;obtain⟨j,u⟩:=Oo.1 hp;obtain⟨w,y⟩:=NZ.1 u;refine NE λ z=>b j ⟨p.1,w,c,?_⟩;rw[Nc,y];show 0<p.2;omega
   ·rfl
  rw[t];split<;>omega
 have o:e<l.length:=by have:=(Nb.1 k).1;have:=q.len;omega
 have hle:l[e]?=some (l.getD e 0):=by rw[Nc,an o];rfl
 have A:(N.arcs.zip l)[e]?=some (a,l.getD e 0):=NZ.2 ⟨k,hle⟩;have d:=OR (f:=λ p:eq×Int=>(if p.1.to=v then p.2 else 0)-(if p.1.fr=v then p.2 else 0)) (M9 A);have r:=mJ n d;simp only at r;have c:a.fr≠v:=λ h=>b e ⟨a,k,h,hp⟩;rw[if_pos s,if_neg c] at r;unfold dJ at g;omega
theorem Ck{N:aR}{l:LI_}(f:Ranged N l){v:Int}(a:dJ (N.arcs.zip l) v<0):∃ i,oh N l v i:=by
 refine NE λ c=>?_;have b:∀ i,¬ oh N l v i:=λ i h=>c ⟨i,h⟩
 have d:∀ x∈(N.arcs.zip l).map (λ p=>(if p.1.to=v then p.2 else 0)-(if p.1.fr=v then p.2 else 0)),0<=x:=by
  intro x a;obtain⟨p,hp,rfl⟩:=NB.1 a;have r:=f.all p hp
  have g:(if p.1.fr=v then p.2 else 0)=0:=by
   split
   ·rename_i e;obtain⟨j,k⟩:=Oo.1 hp;obtain⟨m,n⟩:=NZ.1 k;refine NE λ o=>b j ⟨p.1,m,e,?_⟩;rw[Nc,n];show 0<p.2;omega
   ·rfl
  rw[g];split<;>omega
 have key:∀ L:LI_,(∀ x∈L,0<=x)->0<=L.sum:=λ L=>by
  induction L with
  |nil=>intro _;simp
  |cons y L q=>intro h;have:=h y ai;have:=q λ x a=>h x (by simp[a]);rw[NC];omega
 have:=key _ d;unfold dJ at a;omega
theorem sG{N:aR}:∀ {W:LN_} {a z:Int} {k e:Nat},kH N a W z->W[k]?=some e->kH N (pk N e) (W.drop k) z
 |[],_,_,_,_,_,h=>by simp at h
 |i::W,a,z,0,e,⟨r,b,d,c⟩,h=>by
  simp only[Oe,Na] at h;subst h;exact⟨r,b,(kK b).symm,c⟩
 |i::W,a,z,k+1,e,⟨r,b,d,c⟩,h=>sG (W:=W) c (by simpa using h)
def s5(N:aR)(l:LI_)(kd to_:Int):Nat->LI_->LN_->Int->Int×LN_
 |0,_,arcs,_=>(kd,arcs)
 |n+1,seen,arcs,at_=>match IU N l at_ with
  |none=>(kd,arcs)
  |some e=>if jW N e=to_ then (kd,arcs++[e]) else if jW N e∈seen then (99,(arcs++[e]).drop (seen.idxOf (jW N e))) else s5 N l kd to_ n (seen++[jW N e]) (arcs++[e]) (jW N e)
structure mC (N:aR) (l:LI_) (W:LN_) (a z:Int):Prop where
 walk:kH N a W z
 nodup:W.Nodup
 room:∀ i∈W,∃ r:eq,N.arcs[i]?=some r/\0<l.getD i 0
 ne:W≠[]
theorem rD{β α:Type}{g:β->α}:∀ {l:List β},(l.map g).Nodup->l.Nodup
 |[],_=>PG
 |x::l,h=>by
  rw[Ns,NG] at h;exact NG.2 ⟨λ a=>h.1 (OR a),rD h.2⟩
theorem mT{N:aR}(D:N.Right){l:LI_}(H:Ranged N l){kd to_ s0:Int}(p:∀ v:Int,1<=v/\v<=N.nodes->v≠to_->dJ (N.arcs.zip l) v<=0):∀ (n:Nat) (seen:LI_) (arcs:LN_) (at_:Int),N.nodes.toNat+1<=n+seen.length->
 seen=arcs.map (pk N)++[at_]->seen.Nodup->(∀ v∈seen,1<=v/\v<=N.nodes)->kH N s0 arcs at_->(∀ i∈arcs,∃ r:eq,N.arcs[i]?=some r/\0<l.getD i 0)->(∃ i,oh N l at_ i)->
 (∃ W,s5 N l kd to_ n seen arcs at_=(kd,W)/\mC N l W s0 to_)\/(∃ W v,s5 N l kd to_ n seen arcs at_=(99,W)/\mC N l W v v)
 |0,seen,arcs,at_,L,I,A,d,_,_,_=>by
  exfalso;have M:=D.nodes
  have:=kF seen ((List.range N.nodes.toNat).map λ (i:Nat)=>(i:Int)+1) A λ x p=>by
   have:=d x p;exact NB.2 ⟨(x-1).toNat,N4.2 aa,aa⟩
  simp only[Nj,Om] at this;omega
 |n+1,seen,arcs,at_,L,I,A,d,hw,O,E=>by
  obtain⟨i,hi⟩:=E;obtain⟨e,he⟩:=F2 hi;obtain⟨a,q,s,hp⟩:=yZ he;have b:=uv q;have t:=D.arc a (M9 q);have f:kH N s0 (arcs++[e]) (jW N e):=by rw[b];exact pU q (by rw[s];exact hw)
  have m:∀ i∈arcs++[e],∃ r:eq,N.arcs[i]?=some r/\0<l.getD i 0:=λ i hi=>by
   rcases Nm.1 hi with h|h
   ·exact O i h
   ·rw[Nh.1 h];exact⟨a,q,hp⟩
  have c:seen=(arcs++[e]).map (pk N):=by rw[I,NJ];simp[kK q,s]
  have u:(arcs++[e]).Nodup:=rD (g:=pk N) (by rw[<- c];exact A);unfold s5;rw[he];simp only;by_cases B:jW N e=to_
  ·rw[if_pos B];exact .inl ⟨_,rfl,by rw[<- B];exact f,u,m,ai⟩
  ·rw[if_neg B];by_cases C:jW N e∈seen
   ·rw[if_pos C];have w:=List.idxOf_lt_length_of_mem C;have o:seen[seen.idxOf (jW N e)]?=some (jW N e):=by rw[List.getElem?_eq_getElem w,List.getElem_idxOf w]
    generalize seen.idxOf (jW N e)=k at w o ⊢
    have F:k<(arcs++[e]).length:=by rw[c,Nj] at w;exact w
    obtain⟨j,K⟩:∃ j,(arcs++[e])[k]?=some j:=⟨_,an F⟩
    have G:pk N j=jW N e:=by
     rw[c,Ni,K] at o;exact NM o
    have z:=sG f K;rw[G] at z;refine .inr ⟨_,jW N e,rfl,z,(List.drop_sublist k _).nodup u,λ i hi=>m i (PM hi),λ P=>?_⟩;have:=M8 List.length P;rw[N5] at this;simp only[NA] at this;omega
   ·rw[if_neg C];refine mT D H p n (seen++[jW N e]) (arcs++[e]) (jW N e) (by rw[List.length_append];simp only[List.length_cons,List.length_nil];omega) (by rw[c]) ?_ ?_ f m ?_
    ·rw[Ny];refine⟨A,ai,λ x p y Q=>?_⟩;rw[Nh.1 Q];rintro rfl;exact C p
    ·intro v R
     rcases Nm.1 R with h|h
     ·exact d v h
     ·rw[Nh.1 h,b];exact t.2.1
    ·exact KG H (p _ (by rw[b];exact t.2.1) B) q b.symm hp
structure Wk where
 left:LI_
 val:Int
structure Wk.OK (N:aR) (w:Wk):Prop where
 flow:aD N w.left
 worth:dJ (N.arcs.zip w.left) N.snk=w.val
def i5(x:Int):Bool:=decide (0<x)
def bW(l:LI_):Nat:=l.findIdx i5
theorem uH{l:LI_}(h:bW l<l.length):0<l.getD (bW l) 0:=by
 have:=List.findIdx_getElem (w:=h);rw[Nc,an h];exact of_decide_eq_true this
def x3(N:aR)(w:Wk):Int×LN_:=
 if 0<w.val then s5 N w.left 112 N.snk (N.nodes.toNat+1) [N.src] [] N.src
 else if w.val<0 then s5 N w.left 98 N.src (N.nodes.toNat+1) [N.snk] [] N.snk
 else s5 N w.left 99 0 (N.nodes.toNat+1) [pk N (bW w.left)] [] (pk N (bW w.left))
theorem Cp{N:aR}(c:N.Right):∀ {W:LN_} {a z:Int},kH N a W z->W≠[]->1<=z
 |[],_,_,_,h=>absurd rfl h
 |[i],a,z,⟨r,d,_,b⟩,_=>by
  have e:r.to=z:=b;have:=(c.arc r (M9 d)).2.1.1;omega
 |i::j::W,a,z,⟨r,_,_,b⟩,_=>Cp c (W:=j::W) b ai
def Di(N:aR)(w:Wk)(k:Int)(W:LN_):Prop:=(k=112/\0<w.val/\mC N w.left W N.src N.snk)\/(k=98/\w.val<0/\mC N w.left W N.snk N.src)\/(k=99/\∃ v,mC N w.left W v v)
theorem EY{N:aR}(f:N.Right){w:Wk}(h:w.OK N)(hp:bW w.left<w.left.length):Di N w (x3 N w).1 (x3 N w).2:=by
 have l:=h.flow.toRanged;have b:=Cu f h.flow;rw[h.worth] at b;have u:=f.src;have x:=f.snk;have z:=f.diff;have g:∀ v:Int,1<=v/\v<=N.nodes->v≠N.src->v≠N.snk->dJ (N.arcs.zip w.left) v=0:=h.flow.kept;have j:=h.worth;unfold x3 Di;by_cases n:0<w.val
 ·rw[if_pos n]
  rcases mT f l (kd:=112) (to_:=N.snk) (s0:=N.src) (λ v d k=>by
   by_cases e:v=N.src
   ·rw[e,b];omega
   ·rw[g v d e k];omega) (N.nodes.toNat+1) [N.src] [] N.src (by simp only[Nf,NA];omega) rfl ai (λ v d=>by rw[Nh.1 d];exact u) rfl (λ i hi=>absurd hi Nr) (Ck l (by rw[b];omega)) with ⟨W,e,c⟩|⟨W,v,e,c⟩
  ·rw[e];exact .inl ⟨rfl,n,c⟩
  ·rw[e];exact .inr (.inr ⟨rfl,v,c⟩)
 ·rw[if_neg n];by_cases c2:w.val<0
  ·rw[if_pos c2]
   rcases mT f l (kd:=98) (to_:=N.src) (s0:=N.snk) (λ v d k=>by
    by_cases e:v=N.snk
    ·rw[e,j];omega
    ·rw[g v d k e];omega) (N.nodes.toNat+1) [N.snk] [] N.snk (by simp only[Nf,NA];omega) rfl ai (λ v d=>by rw[Nh.1 d];exact x) rfl (λ i hi=>absurd hi Nr) (Ck l (by rw[j];omega)) with ⟨W,e,c⟩|⟨W,v,e,c⟩
   ·rw[e];exact .inr (.inl ⟨rfl,c2,c⟩)
   ·rw[e];exact .inr (.inr ⟨rfl,v,c⟩)
  ·rw[if_neg c2];have y:=h.flow.len
   have o:∀ v:Int,1<=v/\v<=N.nodes->v≠0->dJ (N.arcs.zip w.left) v<=0:=λ v d _=>by
    by_cases s:v=N.src
    ·rw[s,b];omega
    ·by_cases t:v=N.snk
     ·rw[t,j];omega
     ·rw[g v d s t];omega
   have p:=uH hp;obtain⟨a,q⟩:∃ a,N.arcs[bW w.left]?=some a:=⟨_,an aa⟩;have r:=f.arc a (M9 q);have m:=kK q
   rcases mT f l (kd:=99) (to_:=0) (s0:=pk N (bW w.left)) o (N.nodes.toNat+1) [pk N (bW w.left)] [] (pk N (bW w.left)) (by simp only[Nf,NA];omega) rfl ai (λ v d=>by rw[Nh.1 d,m];exact r.1) rfl (λ i hi=>absurd hi Nr) ⟨bW w.left,a,q,m.symm,p⟩ with ⟨W,e,c⟩|⟨W,v,e,c⟩
   ·exact absurd (Cp f c.walk c.ne) ab
   ·rw[e];exact .inr (.inr ⟨rfl,v,c⟩)
def pb(l:LI_)(m:Int)(W:LN_):Int:=W.foldl (λ m e=>min m (l.getD e 0)) m
theorem GV(l:LI_):∀ (W:LN_) (m:Int),pb l m W<=m/\∀ e∈W,pb l m W<=l.getD e 0
 |[],m=>⟨Ov _,λ e he=>absurd he Nr⟩
 |x::W,m=>by
  have a:=GV l W (min m (l.getD x 0));show pb l (min m (l.getD x 0)) W<=m/\_;refine⟨aa,λ e he=>?_⟩
  rcases Nl.1 he with rfl|he
  ·show pb l (min m (l.getD e 0)) W<=_;omega
  ·exact a.2 e he
theorem CR{l:LI_}:∀ {W:LN_} {m:Int},0<m->(∀ e∈W,0<l.getD e 0)->0<pb l m W
 |[],_,h,_=>h
 |x::W,m,h,a=>CR (W:=W) (m:=min m (l.getD x 0)) (by have:=a x ai;omega) λ e he=>a e (by simp[he])
theorem Cl(l:LI_):∀ (W:LN_) (m:Int),pb l m W=m\/∃ e∈W,pb l m W=l.getD e 0
 |[],m=>.inl rfl
 |x::W,m=>by
  rcases Cl l W (min m (l.getD x 0)) with h|⟨e,he,h⟩
  ·rcases Int.le_total m (l.getD x 0) with hle|hle
   ·exact .inl (h.trans aa)
   ·exact .inr ⟨x,ai,h.trans aa⟩
  ·exact .inr ⟨e,by simp[he],h⟩
def je(w:Wk)(k:Int)(W:LN_):Int:=if k=99 then w.left.getD (W.headD 0) 0 else max w.val (-w.val)
def hQ(N:aR)(w:Wk):Int×LN_×Int:=((x3 N w).1,(x3 N w).2,pb w.left (je w (x3 N w).1 (x3 N w).2) (x3 N w).2)
def z7(N:aR)(w:Wk):Wk:=⟨jD (-(hQ N w).2.2) (hQ N w).2.1 w.left,if (hQ N w).1=112 then w.val-(hQ N w).2.2 else if (hQ N w).1=98 then w.val+(hQ N w).2.2 else w.val⟩
def qr(l:LI_):Nat:=l.countP i5
theorem Bc:∀ (l m:LI_),m.length=l.length->(∀ i,0<m.getD i 0->0<l.getD i 0)->qr m<=qr l
 |[],[],_,_=>Np _
 |[],_::_,h,_=>by simp at h
 |_::_,[],h,_=>by simp at h
 |x::l,y::m,hl,h=>by
  have a:=Bc l m (by simpa using hl) λ i hi=>by have:=h (i+1);simpa using this (by simpa using hi)
  have b:0<y->0<x:=by have:=h 0;simpa using this
  unfold qr i5 at*;simp only[List.countP_cons,NW];split<;>split<;>omega
theorem IB:∀ (l m:LI_),m.length=l.length->(∀ i,0<m.getD i 0->0<l.getD i 0)->∀ k,0<l.getD k 0->¬ 0<m.getD k 0->qr m<qr l
 |[],_,_,_,k,h,_=>by simp at h
 |_::_,[],h,_,_,_,_=>by simp at h
 |x::l,y::m,hl,h,0,a,b=>by
  have e:=Bc l m (by simpa using hl) λ i hi=>by have:=h (i+1);simpa using this (by simpa using hi)
  have c:0<x:=by simpa using a
  have d:¬ 0<y:=by simpa using b
  unfold qr i5 at*;simp only[List.countP_cons,NW];rw[if_pos c,if_neg d];omega
 |x::l,y::m,hl,h,k+1,a,b=>by
  have e:=IB l m (by simpa using hl) (λ i hi=>by have:=h (i+1);simpa using this (by simpa using hi)) k (by simpa using a) (by simpa using b);have f:0<y->0<x:=by have:=h 0;simpa using this
  unfold qr i5 at*;simp only[List.countP_cons,NW];split<;>split<;>omega
def Wk.size(w:Wk):Nat:=qr w.left+if w.val=0 then 0 else 1
theorem rP{m:Int}{W:LN_}{f:LI_}(a:W.Nodup)(hi:∀ i∈W,i<f.length)(j:Nat):(jD m W f).getD j 0=if j∈W then f.getD j 0+m else f.getD j 0:=by
 rw[Nc,zA m W f j a hi];split
 ·rfl
 ·rw[<- Nc]
theorem pN{N:aR}(M:N.Right){w:Wk}(h:w.OK N)(hp:bW w.left<w.left.length):(z7 N w).OK N/\(z7 N w).size<w.size/\0<(hQ N w).2.2/\Di N w (hQ N w).1 (hQ N w).2.1/\(∀ e∈(hQ N w).2.1,(hQ N w).2.2<=w.left.getD e 0):=by
 have c:¬ (99:Int)=112:=ab;have d:¬ (99:Int)=98:=ab;have E:¬ (98:Int)=112:=ab;have C:(112:Int)=112:=rfl;have H:(98:Int)=98:=rfl;have hP:Di N w (hQ N w).1 (hQ N w).2.1:=EY M h hp;have hm:(hQ N w).2.2=pb w.left (je w (hQ N w).1 (hQ N w).2.1) (hQ N w).2.1:=rfl;unfold z7
 generalize hQ N w=t at*
 obtain⟨k,W,m⟩:=t;simp only at hP hm ⊢
 obtain⟨a,z,I⟩:∃ a z,mC N w.left W a z:=by
  rcases hP with ⟨_,_,h⟩|⟨_,_,h⟩|⟨_,v,h⟩
  ·exact⟨_,_,h⟩
  ·exact⟨_,_,h⟩
  ·exact⟨_,_,h⟩
 have f:=h.flow.len;have O:∀ i∈W,i<w.left.length:=λ i hi=>by obtain⟨r,P,_⟩:=I.room i hi;have:=(Nb.1 P).1;omega
 have g:∀ i∈W,0<w.left.getD i 0:=λ i hi=>by obtain⟨r,_,P⟩:=I.room i hi;exact P
 have l:W.headD 0∈W:=by
  cases Z:W with
  |nil=>exact absurd Z I.ne
  |cons x X=>simp
 have F:0<je w k W:=by
  unfold je;split
  ·exact g _ l
  ·rename_i K
   rcases hP with ⟨_,h,_⟩|⟨_,h,_⟩|⟨h,_⟩
   ·omega
   ·omega
   ·exact absurd h K
 have Q:0<m:=by rw[hm];exact CR F g
 obtain⟨hle,n⟩:=GV w.left W (je w k W);rw[<- hm] at hle n;have b:=rP (m:=-m) I.nodup O;have hlen:=kV (-m) W w.left
 have G:Ranged N (jD (-m) W w.left):=by
  refine⟨by rw[hlen];exact f,λ p hp=>?_⟩;obtain⟨j,hj⟩:=Oo.1 hp;obtain⟨y,A⟩:=NZ.1 hj;have R:j<w.left.length:=by have:=(Nb.1 y).1;omega
  have h3:w.left[j]?=some (w.left.getD j 0):=by rw[Nc,an R];rfl
  have U:=h.flow.all (p.1,w.left.getD j 0) (M9 (NZ.2 ⟨y,h3⟩));have V:=b j;rw[Nc,A,NK] at V;rw[V];simp only at U;split
  ·rename_i S;have:=n j S;omega
  ·exact U
 have hex:=λ v=>rk (N:=N) (m:=-m) (v:=v) W a w.left f I.walk (z:=z)
 have o:∀ i,0<(jD (-m) W w.left).getD i 0->0<w.left.getD i 0:=λ i hi=>by
  rw[b i] at hi;split at hi<;>omega
 have Y:=Bc w.left _ hlen o;have q:∀ e∈W,m=w.left.getD e 0->qr (jD (-m) W w.left)<qr w.left:=λ e he hy=>IB w.left _ hlen o e (g e he) (by rw[b e,if_pos he];omega);refine⟨?_,?_,Q,hP,n⟩
 ·rcases hP with ⟨rfl,B,s⟩|⟨rfl,B,s⟩|⟨rfl,v,s⟩
  ·have D:=λ v=>rk (N:=N) (m:=-m) (v:=v) W N.src w.left f s.walk (z:=N.snk);refine⟨⟨G,λ v B y A=>?_⟩,?_⟩
   ·rw[D v,h.flow.kept v B y A,if_neg (λ e=>A e.symm),if_neg (λ e=>y e.symm)];rfl
   ·simp only;rw[D N.snk,h.worth,if_pos rfl,if_neg M.diff,if_pos be];omega
  ·have D:=λ v=>rk (N:=N) (m:=-m) (v:=v) W N.snk w.left f s.walk (z:=N.src);refine⟨⟨G,λ v B y A=>?_⟩,?_⟩
   ·rw[D v,h.flow.kept v B y A,if_neg (λ e=>y e.symm),if_neg (λ e=>A e.symm)];rfl
   ·simp only;rw[D N.snk,h.worth,if_neg M.diff,if_pos rfl,if_neg E,if_pos be];omega
  ·have D:=λ u=>rk (N:=N) (m:=-m) (v:=u) W v w.left f s.walk (z:=v);refine⟨⟨G,λ u hu y A=>?_⟩,?_⟩
   ·rw[D u,h.flow.kept u hu y A];omega
   ·simp only;rw[D N.snk,h.worth,if_neg c,if_neg d];omega
 ·unfold Wk.size;simp only
  rcases Cl w.left W (je w k W) with L|⟨e,he,L⟩
  ·rw[<- hm] at L;by_cases K:k=99
   ·subst K;have:=q _ l (by rw[L];unfold je;rw[if_pos rfl]);rw[if_neg c,if_neg d];omega
   ·have hi:je w k W=max w.val (-w.val):=by unfold je;rw[if_neg K]
    rcases hP with ⟨rfl,B,_⟩|⟨rfl,B,_⟩|⟨h,_⟩
    ·rw[if_pos C,if_pos (show w.val-m=0 by omega),if_neg (show ¬ w.val=0 by omega)];omega
    ·rw[if_neg E,if_pos H,if_pos (show w.val+m=0 by omega),if_neg (show ¬ w.val=0 by omega)];omega
    ·exact absurd h K
  ·rw[<- hm] at L;have:=q e he L
   rcases hP with ⟨rfl,B,_⟩|⟨rfl,B,_⟩|⟨rfl,_⟩
   ·rw[if_pos C,if_neg (show ¬ w.val=0 by omega)];split<;>omega
   ·rw[if_neg E,if_pos H,if_neg (show ¬ w.val=0 by omega)];split<;>omega
   ·rw[if_neg c,if_neg d];omega
def kW(N:aR):Nat->Wk->List (Int×LN_×Int)
 |0,_=>[]
 |n+1,w=>if bW w.left<w.left.length then hQ N w::kW N n (z7 N w) else []
theorem CM{l:LI_}(h:bW l<l.length):0<qr l:=by
 unfold qr;exact List.countP_pos_iff.2 ⟨l[bW l],Ox h,List.findIdx_getElem (w:=h)⟩
theorem ul{N:aR}(a:N.Right):∀ (n m:Nat) (w:Wk),w.OK N->w.size<=n->w.size<=m->kW N n w=kW N m w
 |0,0,_,_,_,_=>rfl
 |0,m+1,w,_,h,_=>by
  have:¬ bW w.left<w.left.length:=λ hp=>by have:=CM hp;unfold Wk.size at h;omega
  show []=kW N (m+1) w;unfold kW;rw[if_neg this]
 |n+1,0,w,_,_,h=>by
  have:¬ bW w.left<w.left.length:=λ hp=>by have:=CM hp;unfold Wk.size at h;omega
  show kW N (n+1) w=[];unfold kW;rw[if_neg this]
 |n+1,m+1,w,hw,b,c=>by
  unfold kW;by_cases hp:bW w.left<w.left.length
  ·have:=pN a hw hp;rw[if_pos hp,if_pos hp,ul a n m _ this.1 aa aa]
  ·rw[if_neg hp,if_neg hp]
structure cO where
 N:aR
 f:LI_
 s:LI_
 a:Bool
 b:Bool
 d:Bool
 An:OA_
 cn:Nat
 Af:OA_
 cf:Nat
 As:OA_
 cs:Nat
def cO.cells(m:cO):LV_:=[.int .i64 m.N.nodes,.int .i64 m.N.src,.int .i64 m.N.snk,.slice m.An m.N.arcs.length m.cn,.slice m.Af m.f.length m.cf,.slice m.As m.s.length m.cs,.bool m.a,.bool m.b,.bool m.d]
def JM:cO:=⟨⟨0,0,0,[]⟩,[],[],false,false,false,none,0,none,0,none,0⟩
theorem JN:Fn 20 [] [] [] λ v H'=>∃ p:Nat,v=.pointer (some ⟨p,0,none⟩)/\H'=[blk p 97 JM.cells]:=by
 refine aT Tryz.func20 λ w0=>?_;refine mz ?_;refine fv ?_;refine dh (cs:=JM.cells) λ p=>?_;refine aN ?_;exact aL [0] ⟨_,rfl,p,rfl,rfl⟩
def B8(c:Bool):Value:=.func (.func (bif c then 128 else 127)) #[] #[]
def cO.has(m:cO)(c:Bool):Bool:=bif c then m.d else m.b
theorem Bo(m:cO)(p:Nat):Fn 127 [.pointer (some ⟨p,0,none⟩)] [] [.seg p 0 m.cells] λ v H'=>v=.bool m.b/\H'=[]:=by
 refine aT Tryz.func127 λ w0=>?_;refine cW ?_;refine aG (a7 (i:=7) (v:=.bool m.b) 0 rfl rfl rfl) ?_;exact mG
theorem Ee(m:cO)(p:Nat):Fn 128 [.pointer (some ⟨p,0,none⟩)] [] [.seg p 0 m.cells] λ v H'=>v=.bool m.d/\H'=[]:=by
 refine aT Tryz.func128 λ w0=>?_;refine cW ?_;refine aG (a7 (i:=8) (v:=.bool m.d) 0 rfl rfl rfl) ?_;exact mG
theorem G3(m:cO)(p q:Nat)(c:Bool):Fn 85 [B8 c,.pointer (some ⟨q,0,none⟩)] [] [.seg q 0 [.pointer (some ⟨p,0,none⟩)],.seg p 0 m.cells] λ v H'=>v=.bool (!m.has c)/\H'=[]:=by
 refine aT Tryz.func85 λ w0=>?_;refine cW ?_;refine rT ?_
 cases c with
 |false=>
  refine cH (fst:=[]) (cap:=[]) (Bo m p) rfl ⟨bx 1 rfl,be⟩ ?_;exact mG
 |true=>
  refine cH (fst:=[]) (cap:=[]) (Ee m p) rfl ⟨bx 1 rfl,be⟩ ?_;exact mG
theorem Hr{l:LB_}{i:Nat}{x:Bool}(h:l[i]?=some x):(l.map B8)[i]?=some (B8 x):=by simp[h]
theorem Ka(m:cO)(p q:Nat)(l:LB_)(hl:l.length<=10)(A:OA_)(n c b o:Nat)(g:l≠[]->A=some ⟨b,o,none⟩)(j:n=l.length):
 Fn 112 [.slice A n c,.func (.func 85) #[] #[.pointer (some ⟨q,0,none⟩)]] [] [.seg q 0 [.pointer (some ⟨p,0,none⟩)],.seg p 0 m.cells,.seg b o (l.map B8)] λ v H'=>(∃ x:Int,v=.int .i64 x/\(0<=x↔∃ c∈l,m.has c=false))/\H'=[]:=by
 subst j;refine aT Tryz.func112 λ w0=>?_;refine mI ?_
 refine bS (σ:=Nat) (λ k=>[(8,af k),(7,af l.length),(1,.func (.func 85) #[] #[ap q 0]),(0,.slice A l.length c)])
  (λ _=>[.seg q 0 [ap p 0],.seg p 0 m.cells,.seg b o (l.map B8)]) (λ k=>k<=l.length/\∀ c∈l.take k,m.has c=true) (λ k=>l.length-k)
  0 [0,1,2] a8 ab rfl ⟨Nk _,λ c h=>absurd h ai⟩ ?_
 rintro k ⟨u,a⟩;refine ao ?_;refine am (ak rfl (λ hlt=>ag ?_) (λ s=>aO ?_))
 ·have hlt:k<l.length:=by omega
  obtain⟨r,f⟩:∃ r,l[k]?=some r:=⟨l[k],an hlt⟩;obtain rfl:=g (by rintro rfl;simp at hlt);refine am (au ?_);refine ao ?_;refine jc ?_;refine aG (a7 (i:=k) 2 rfl rfl (Hr f)) ?_;refine cH (fst:=[]) (cap:=[ap q 0]) (G3 m p q r) rfl ⟨bx 0 rfl,bx 1 rfl,be⟩ ?_;refine ah<|nZ rfl (λ d=>?_) (λ d=>ag ?_)
  ·have d:m.has r=false:=by revert d;cases m.has r<;>simp
   refine ao ?_;exact aL [] ⟨_,rfl,⟨_,rfl,λ _=>⟨r,M9 f,d⟩,λ _=>by omega⟩,rfl⟩
  ·have d:m.has r=true:=by revert d;cases m.has r<;>simp
   refine ao ?_;refine⟨k+1,[0,1,2],⟨?_,rfl,rfl,rfl,be⟩,ab,rfl,⟨aa,λ x e=>?_⟩,aa⟩
   ·refine fJ ?_;rw[cv aa];rfl
   ·rw[Nv,f] at e
    rcases Nm.1 e with e|e
    ·exact a x e
    ·simp at e;rw[e];exact d
 ·obtain rfl:k=l.length:=by omega
  rw[NH] at a;refine ao ?_;refine aL [] ⟨_,rfl,⟨_,rfl,λ h=>absurd h ab,λ ⟨c,t,h⟩=>?_⟩,rfl⟩;rw[a c t] at h;exact Bool.noConfusion h
theorem HJ(m:cO)(p q:Nat)(l:LB_)(hl:l.length<=10)(A:OA_)(n c b o:Nat)(a:l≠[]->A=some ⟨b,o,none⟩)(d:n=l.length):
 Fn 84 [.slice A n c,.func (.func 85) #[] #[.pointer (some ⟨q,0,none⟩)]] [] [.seg q 0 [.pointer (some ⟨p,0,none⟩)],.seg p 0 m.cells,.seg b o (l.map B8)] λ v H'=>v=.bool (dU (∃ c∈l,m.has c=false))/\H'=[]:=by
 refine aT Tryz.func84 λ w0=>?_;refine cW ?_;refine fh (fst:=[]) (cap:=[]) (Ka m p q l hl A n c b o a d) rfl ⟨bx 0 rfl,bx 1 rfl,bx 2 rfl,be⟩ ?_;rintro v H' ⟨⟨x,rfl,e⟩,rfl⟩;refine aN ?_;refine aL [] ⟨_,rfl,?_,rfl⟩;exact M8 Value.bool (eB e)
def cO.lack(m:cO)(l:LB_):Int:=if m.a=false then 9 else if ∀ c∈l,m.has c=true then 0 else 8
theorem kC(m:cO)(p:Nat)(l:LB_)(hl:l.length<=10)(A:OA_)(n c b o:Nat)(f:l≠[]->A=some ⟨b,o,none⟩)(g:n=l.length):
 Fn 43 [.pointer (some ⟨p,0,none⟩),.slice A n c] [] [.seg p 0 m.cells,.seg b o (l.map B8)] λ v H'=>v=.int .i64 (m.lack l)/\H'=[]:=by
 refine aT Tryz.func43 λ w0=>?_;refine bA ?_;refine dh (cs:=[ap p 0]) λ q=>?_;refine ew ?_;refine bh (v:=ap p 0) 0 ?_;refine az ?_;refine aG (a7 (i:=6) (v:=.bool m.a) 1 rfl rfl rfl) ?_;refine aN ?_;refine nZ rfl (λ d=>?_) (λ d=>ag ?_)
 ·have d:m.a=false:=by simpa using d
  refine ao ?_;refine aL [] ⟨_,rfl,?_,rfl⟩;unfold cO.lack;rw[if_pos d];rfl
 have d:¬ m.a=false:=by simpa using d
 refine aI ?_;refine cH (fst:=[]) (cap:=[]) (HJ m p q l hl A n c b o f g) rfl ⟨en 0 rfl,bx 1 rfl,bx 2 rfl,be⟩ ?_;refine aN ?_;refine ak rfl (λ h=>?_) (λ h=>ag ?_)
 ·refine ao ?_;refine aL [] ⟨_,rfl,?_,rfl⟩;unfold cO.lack;obtain⟨x,j,e⟩:=h;rw[if_neg d,if_neg (λ k=>by have:=k x j;rw[e] at this;exact Bool.noConfusion this)];rfl
 ·refine ao ?_;refine aL [] ⟨_,rfl,?_,rfl⟩;unfold cO.lack
  rw[if_neg d,if_pos (λ c r=>by
   cases hm:m.has c with
   |true=>rfl
   |false=>exact absurd ⟨c,r,hm⟩ h)];rfl
def E5(left:LI_)(x:Int):Bool:=i5 (left.getD x.toNat 0)
theorem HY(x:Int):Fn 194 [.int .i64 x] [] [] λ v H'=>v=.bool (i5 x)/\H'=[]:=by
 refine aT Tryz.func194 λ w0=>?_;refine i6 ?_;exact aL [] ⟨_,rfl,M8 Value.bool (by unfold i5;unfold dU;by_cases h:0<x<;>simp[h]),rfl⟩
theorem GC(x a:Int)(q:Nat):Fn 203 [.int .i64 x,.pointer (some ⟨q,0,none⟩)] [] [.seg q 0 [.int .i64 a]] λ v H'=>v=.bool (x==a)/\H'=[]:=by
 refine aT Tryz.func203 λ w0=>?_;refine cW ?_;refine aG (a7 (i:=0) (v:=af a) 0 rfl rfl rfl) ?_;refine aN ?_;exact aL [] ⟨_,rfl,M8 Value.bool (by unfold dU;by_cases h:x=a<;>simp[h]),rfl⟩
def pz(N:aR)(A:OA_)(c:Nat)(Al:OA_)(nl cl:Nat)(val:Int)(Ao:OA_)(no co:Nat)(at_:Int):LV_:=
 [.int .i64 N.nodes,.int .i64 N.src,.int .i64 N.snk,.slice A N.arcs.length c,.slice Al nl cl,.int .i64 val,.slice Ao no co,.int .i64 at_]
theorem Hs(N:aR)(A:OA_)(c:Nat)(d:Nat)(val:Int)(Ao:OA_)(no co:Nat)(at_:Int)(left:LI_)(bl:Nat)(k:Nat)(e:k<left.length)(q a:Nat):
 Fn 204 [.int .i64 (k:Int),.pointer (some ⟨q,0,none⟩)] [] [.seg q 0 [.pointer (some ⟨a,0,none⟩)],.seg a 0 (pz N A c (some ⟨bl,0,none⟩) left.length d val Ao no co at_),.seg bl 0 (aj left)] λ v H'=>v=.bool (E5 left (k:Int))/\H'=[]:=by
 obtain⟨x,f⟩:∃ x,left[k]?=some x:=⟨_,an e⟩;have b:left.getD k 0=x:=by rw[Nc,f];rfl
 refine aT Tryz.func204 λ w0=>?_;refine cW ?_;refine aG (a7 (i:=0) (v:=ap a 0) 0 rfl rfl rfl) ?_;refine az ?_;refine aG (a7 (i:=4) (v:=ax bl 0 left.length d) 1 rfl rfl rfl) ?_;refine az ?_;refine aG (bG rfl e) ?_;refine aG (fA (i:=k) (v:=af x) 2 rfl rfl rfl (NO _).symm (b7 f)) ?_;refine aN ?_;refine aL [] ⟨_,rfl,M8 Value.bool ?_,rfl⟩;unfold E5 i5;rw[show ((k:Nat):Int).toNat=k by omega,b];unfold dU;by_cases h:0<x<;>simp[h]
theorem BQ(A:OA_)(c b o:Nat)(l:LI_)(i:l≠[]->A=some ⟨b,o,none⟩)(hl:l.length<=100000):
 Fn 193 [.slice A l.length c,.func (.func 194) #[] #[]] [] [.seg b o (aj l)] λ v H'=>v=.int .i64 ((l.findIdx (i5):Nat):Int)/\H'=[]:=by
 refine aT Tryz.func193 λ w0=>?_;refine mI ?_
 refine bS (σ:=Nat) (λ k=>[(9,af k),(8,af l.length),(7,.slice A l.length c),(1,.func (.func 194) #[] #[]),(0,.slice A l.length c)])
  (λ _=>[.seg b o (aj l)]) (λ k=>k<=l.length/\∀ j x,j<k->l[j]?=some x->(i5) x=false) (λ k=>l.length-k)
  0 [0] a8 ab rfl ⟨Nk _,λ j x h=>by omega⟩ ?_
 rintro k ⟨p,a⟩;refine ao ?_;refine am (ak rfl (λ hlt=>ag ?_) (λ m=>aO ?_))
 ·have hlt:k<l.length:=by omega
  obtain⟨r,f⟩:∃ r,l[k]?=some r:=⟨l[k],an hlt⟩;obtain rfl:=i (by rintro rfl;simp at hlt);refine am (au ?_);refine jc ?_;refine aG (a7 0 rfl rfl (bq f)) ?_;refine ew ?_;refine cH (fst:=[]) (cap:=[]) (HY r) rfl be ?_;refine ah<|nZ rfl (λ g=>?_) (λ g=>ag ?_)
  ·refine ao ?_;refine aL [] ⟨_,rfl,M8 (λ n:Nat=>af (n:Int)) ?_,rfl⟩;exact ((List.findIdx_eq hlt).2 ⟨by rw[(Nb.1 f).2];exact g,λ j d=>a j _ d (an aa)⟩).symm
  ·refine ao ?_;refine⟨k+1,[0],⟨?_,rfl,rfl,rfl,rfl,be⟩,ab,rfl,⟨aa,λ j x d e=>?_⟩,aa⟩
   ·refine fJ ?_;rw[cv aa];rfl
   ·rcases Pv (Nat.le_of_lt_succ d) with h|rfl
    ·exact a j x h e
    ·rw[f] at e;rw[<- NM e]
     simpa using g
 ·obtain rfl:k=l.length:=by omega
  refine ao ?_;refine aL [] ⟨_,rfl,M8 (λ n:Nat=>af (n:Int)) ?_,rfl⟩;refine (PA.2 λ x e=>?_).symm;obtain⟨j,d⟩:=Oo.1 e;exact a j x (Nb.1 d).1 d
theorem Fj(A:OA_)(c b o:Nat)(l:LI_)(m:l≠[]->A=some ⟨b,o,none⟩)(hl:l.length<=100000)(a:Int)(q:Nat):
 Fn 202 [.slice A l.length c,.func (.func 203) #[] #[.pointer (some ⟨q,0,none⟩)]] [] [.seg q 0 [.int .i64 a],.seg b o (aj l)] λ v H'=>v=.int .i64 ((l.findIdx (λ x=>x==a):Nat):Int)/\H'=[]:=by
 refine aT Tryz.func202 λ w0=>?_;refine mI ?_
 refine bS (σ:=Nat) (λ k=>[(9,af k),(8,af l.length),(7,.slice A l.length c),(1,.func (.func 203) #[] #[ap q 0]),(0,.slice A l.length c)])
  (λ _=>[.seg q 0 [af a],.seg b o (aj l)]) (λ k=>k<=l.length/\∀ j x,j<k->l[j]?=some x->(λ x=>x==a) x=false) (λ k=>l.length-k)
  0 [0,1] a8 ab rfl ⟨Nk _,λ j x h=>by omega⟩ ?_
 rintro k ⟨s,d⟩;refine ao ?_;refine am (ak rfl (λ hlt=>ag ?_) (λ p=>aO ?_))
 ·have hlt:k<l.length:=by omega
  obtain⟨r,g⟩:∃ r,l[k]?=some r:=⟨l[k],an hlt⟩;obtain rfl:=m (by rintro rfl;simp at hlt);refine am (au ?_);refine jc ?_;refine aG (a7 1 rfl rfl (bq g)) ?_;refine ew ?_;refine cH (fst:=[]) (cap:=[ap q 0]) (GC r a q) rfl ⟨bx 0 rfl,be⟩ ?_;refine ah<|nZ rfl (λ i=>?_) (λ i=>ag ?_)
  ·refine ao ?_;refine aL [] ⟨_,rfl,M8 (λ n:Nat=>af (n:Int)) ?_,rfl⟩;exact ((List.findIdx_eq hlt).2 ⟨by rw[(Nb.1 g).2];exact i,λ j e=>d j _ e (an aa)⟩).symm
  ·refine ao ?_;refine⟨k+1,[0,1],⟨?_,rfl,rfl,rfl,rfl,be⟩,ab,rfl,⟨aa,λ j x e f=>?_⟩,aa⟩
   ·refine fJ ?_;rw[cv aa];rfl
   ·rcases Pv (Nat.le_of_lt_succ e) with h|rfl
    ·exact d j x h f
    ·rw[g] at f;rw[<- NM f]
     simpa using i
 ·obtain rfl:k=l.length:=by omega
  refine ao ?_;refine aL [] ⟨_,rfl,M8 (λ n:Nat=>af (n:Int)) ?_,rfl⟩;refine (PA.2 λ x f=>?_).symm;obtain⟨j,e⟩:=Oo.1 f;exact d j x (Nb.1 e).1 e
theorem Ew(A:OA_)(c b o:Nat)(l:LI_)(u:l≠[]->A=some ⟨b,o,none⟩)(hl:l.length<=100000)(N:aR)(An:OA_)(cn m:Nat)(val:Int)(Ao:OA_)(no co:Nat)(at_:Int)(left:LI_)(bl q f:Nat)(p:∀ x∈l,0<=x/\x<left.length):
 Fn 202 [.slice A l.length c,.func (.func 204) #[] #[.pointer (some ⟨q,0,none⟩)]] [] [.seg q 0 [.pointer (some ⟨f,0,none⟩)],.seg f 0 (pz N An cn (some ⟨bl,0,none⟩) left.length m val Ao no co at_),.seg bl 0 (aj left),.seg b o (aj l)] λ v H'=>v=.int .i64 ((l.findIdx (E5 left):Nat):Int)/\H'=[]:=by
 refine aT Tryz.func202 λ w0=>?_;refine mI ?_
 refine bS (σ:=Nat) (λ k=>[(9,af k),(8,af l.length),(7,.slice A l.length c),(1,.func (.func 204) #[] #[ap q 0]),(0,.slice A l.length c)])
  (λ _=>[.seg q 0 [ap f 0],.seg f 0 (pz N An cn (aJ bl 0) left.length m val Ao no co at_),.seg bl 0 (aj left),.seg b o (aj l)]) (λ k=>k<=l.length/\∀ j x,j<k->l[j]?=some x->(E5 left) x=false) (λ k=>l.length-k)
  0 [0,1,2,3] a8 ab rfl ⟨Nk _,λ j x h=>by omega⟩ ?_
 rintro k ⟨y,a⟩;refine ao ?_;refine am (ak rfl (λ hlt=>ag ?_) (λ w=>aO ?_))
 ·have hlt:k<l.length:=by omega
  obtain⟨r,i⟩:∃ r,l[k]?=some r:=⟨l[k],an hlt⟩;obtain rfl:=u (by rintro rfl;simp at hlt);refine am (au ?_);refine jc ?_;refine aG (a7 3 rfl rfl (bq i)) ?_;refine ew ?_;have s:=p r (M9 i);obtain⟨e,rfl⟩:=O5 s.1;refine cH (fst:=[]) (cap:=[ap q 0]) (Hs N An cn m val Ao no co at_ left bl e aa q f) rfl ⟨bx 0 rfl,bx 1 rfl,bx 2 rfl,be⟩ ?_;refine ah<|nZ rfl (λ t=>?_) (λ t=>ag ?_)
  ·refine ao ?_;refine aL [] ⟨_,rfl,M8 (λ n:Nat=>af (n:Int)) ?_,rfl⟩;exact ((List.findIdx_eq hlt).2 ⟨by rw[(Nb.1 i).2];exact t,λ j d=>a j _ d (an aa)⟩).symm
  ·refine ao ?_;refine⟨k+1,[0,1,2,3],⟨?_,rfl,rfl,rfl,rfl,be⟩,ab,rfl,⟨aa,λ j x d g=>?_⟩,aa⟩
   ·refine fJ ?_;rw[cv aa];rfl
   ·rcases Pv (Nat.le_of_lt_succ d) with h|rfl
    ·exact a j x h g
    ·rw[i] at g;rw[<- NM g]
     simpa using t
 ·obtain rfl:k=l.length:=by omega
  refine ao ?_;refine aL [] ⟨_,rfl,M8 (λ n:Nat=>af (n:Int)) ?_,rfl⟩;refine (PA.2 λ x g=>?_).symm;obtain⟨j,d⟩:=Oo.1 g;exact a j x (Nb.1 d).1 d
end Go.Proofs.YtmcnpaelaieniaaGreatDoor
