import Derived.Test.YtmcnpaelaieniaaGreatDoorQX112
/- A part of the proof. -/
set_option linter.unusedVariables false
set_option linter.unusedSimpArgs false
namespace Go.Proofs.YtmcnpaelaieniaaGreatDoor
open Go.RowKit
theorem ry.rise{N:aV}(u:N.Right){least:Int}(hle:1<=least){f f':LI_}{ws:List (LN_×Int)}(q:aD N f)(h:ry N least f ws f'){lv a:LI_}(l:fw N (bc (N.arcs.zip f)) least lv)(e:fw N (bc (N.arcs.zip f')) least a)(K:0<=dL a N.snk.toNat):
 0<=dL lv N.snk.toNat/\dL lv N.snk.toNat<dL a N.snk.toNat:=by
 obtain⟨b,g,L,w⟩:=h;obtain rfl:=Lx g l;have x:=j3 g;obtain⟨f2,k1,M,_,y,_,z⟩:=w.keeps u x hle f q rfl PI.start;have A:=q.len
 have key:∀ (k v:Nat),dL a v=k->0<=dL b v/\dL b v<=k/\(dL b v=k->LP N (fF N (di N (bc (N.arcs.zip f)) least b (2*N.arcs.length))) least (bc (N.arcs.zip f')) v):=by
  intro k
  induction k with
  |zero=>
   intro v s;have:=e.zero v (by simpa using s);subst this;rw[g.src];exact⟨Ox _,Ox _,λ _=>.src⟩
  |succ k B=>
   intro v s;obtain⟨r,m,hl,c,C⟩:=e.back v aa;obtain⟨D,i2,i3⟩:=B (eN N r) aa;by_cases t:least<=(bc (N.arcs.zip f)).getD r 0
   ·have i:=g.step r m t D;rw[c] at i;refine⟨i.1,aa,fun he=>?_⟩;have n:dL b (eN N r)=k:=aa;have hp:=i3 n;have o:r∈di N (bc (N.arcs.zip f)) least b (2*N.arcs.length):=fI.2 ⟨m,t,aa,by rw[c];omega⟩;have:=LP.step (r:=r) hp (iU.2 ⟨o,rfl⟩) hl
    rwa [c] at this
   ·have p:=z r m aa;have j:=(fI.1 (iU.1 p).1);have n:=j.2.2.2;have E:=j.2.2.1;rw[ky,iK,c] at n;rw[iK,c] at E;have:=g.rng v;exact⟨aa,aa,λ he=>by omega⟩
 obtain⟨d,F⟩:∃ d:Nat,dL a N.snk.toNat=d:=⟨(dL a N.snk.toNat).toNat,aa⟩;obtain⟨G,H,I⟩:=key d _ F;refine⟨G,?_⟩
 rcases Int.lt_or_eq_of_le H with h|h
 ·omega
 ·exact absurd rfl (y _ (I h))
theorem nq:∀ (l:List ej) (v:Int),dH (l.zip (List.replicate l.length 0)) v=0
 |[],_=>rfl
 |a::l,v=>by
  have:=nq l v;unfold dH at this ⊢;simp only[Nh,Oo,Pt,Nv,ND,ite_self];omega
theorem CM{N:aV}(a:N.Right){f:LI_}(b:aD N f):dH (N.arcs.zip f) N.src=-dH (N.arcs.zip f) N.snk:=by
 have c:fm N [N.src]:=⟨OT _ _,λ x d=>by rw[Ni.1 d];exact a.src,ai,λ h=>a.diff (Ni.1 h).symm⟩;rw[Cn b c,oT a b c]
theorem kv:∀ (l m:LI_),l.Nodup->(∀ x∈l,x∈m)->l.length<=m.length
 |[],_,_,_=>Nl _
 |x::l,m,g,b=>by
  have c:=NJ.1 g;have d:=b x ai
  have h:=kv l (m.erase x) c.2 λ y f=>by
   have a:y≠x:=λ e=>c.1 (by rw[<- e];exact f);rw[List.mem_erase_of_ne a];exact b y (by simp[f])
  rw[Po d] at h;have:0<m.length:=Pz d;rw[Nh];omega
def pu(N:aV)(i:Nat):Int:=match N.arcs[i]? with|some a=>a.fr|none=>0
def jO(N:aV)(i:Nat):Int:=match N.arcs[i]? with|some a=>a.to|none=>0
theorem kI{N:aV}{i:Nat}{a:ej}(h:N.arcs[i]?=some a):pu N i=a.fr:=by unfold pu;rw[h]
theorem uX{N:aV}{i:Nat}{a:ej}(h:N.arcs[i]?=some a):jO N i=a.to:=by unfold jO;rw[h]
def nS(N:aV)(l:LI_)(v:Int)(i:Nat):Prop:=∃ a,N.arcs[i]?=some a/\a.fr=v/\0<l.getD i 0
def xJ(N:aV)(l:LI_)(v:Int)(i:Nat):Bool:=match N.arcs[i]? with|some a=>decide (a.fr=v/\0<l.getD i 0)|none=>false
theorem uP{N:aV}{l:LI_}{v:Int}{i:Nat}:xJ N l v i=true↔nS N l v i:=by
 unfold xJ nS
 cases h:N.arcs[i]? with
 |none=>simp
 |some a=>simp
def IP(N:aV)(l:LI_)(v:Int):Option Nat:=(List.range N.arcs.length).find? (xJ N l v)
theorem ym{N:aV}{l:LI_}{v:Int}{e:Nat}(h:IP N l v=some e):nS N l v e:=uP.1 (List.find?_some h)
theorem Hw{N:aV}{l:LI_}{v:Int}{i:Nat}(h:nS N l v i):∃ e,IP N l v=some e:=by
 cases b:IP N l v with
 |some e=>exact⟨e,rfl⟩
 |none=>
  have hi:i<N.arcs.length:=by obtain⟨a,c,_⟩:=h;exact (Ng.1 c).1
  exact absurd (uP.2 h) (List.find?_eq_none.1 b i (N8.2 hi))
theorem KQ{N:aV}{l:LI_}(q:Ranged N l){v:Int}(g:dH (N.arcs.zip l) v<=0){e:Nat}{a:ej}(k:N.arcs[e]?=some a)(s:a.to=v)(hp:0<l.getD e 0):∃ i,nS N l v i:=by
 refine NG λ m=>?_;have b:∀ i,¬ nS N l v i:=λ i h=>m ⟨i,h⟩
 have n:∀ x∈(N.arcs.zip l).map (λ p=>(if p.1.to=v then p.2 else 0)-(if p.1.fr=v then p.2 else 0)),0<=x:=by
  intro x g;obtain⟨p,hp,rfl⟩:=NF.1 g;have B:=q.all p hp
  have t:(if p.1.fr=v then p.2 else 0)=0:=by
   split
   ·rename_i c;obtain⟨j,u⟩:=On.1 hp;obtain⟨w,y⟩:=N0.1 u;refine NG λ z=>b j ⟨p.1,w,c,?_⟩;rw[Nf,y];show 0<p.2;omega
   ·rfl
  rw[t];split<;>omega
 have o:e<l.length:=by have:=(Ng.1 k).1;have:=q.len;omega
 have hle:l[e]?=some (l.getD e 0):=by rw[Nf,be o];rfl
 have A:(N.arcs.zip l)[e]?=some (a,l.getD e 0):=N0.2 ⟨k,hle⟩;have d:=OM (f:=λ p:ej×Int=>(if p.1.to=v then p.2 else 0)-(if p.1.fr=v then p.2 else 0)) (Nb A);have r:=mD n d;simp only at r;have c:a.fr≠v:=λ h=>b e ⟨a,k,h,hp⟩;rw[if_pos s,if_neg c] at r;unfold dH at g;omega
theorem CJ{N:aV}{l:LI_}(f:Ranged N l){v:Int}(a:dH (N.arcs.zip l) v<0):∃ i,nS N l v i:=by
 refine NG λ c=>?_;have b:∀ i,¬ nS N l v i:=λ i h=>c ⟨i,h⟩
 have d:∀ x∈(N.arcs.zip l).map (λ p=>(if p.1.to=v then p.2 else 0)-(if p.1.fr=v then p.2 else 0)),0<=x:=by
  intro x a;obtain⟨p,hp,rfl⟩:=NF.1 a;have r:=f.all p hp
  have g:(if p.1.fr=v then p.2 else 0)=0:=by
   split
   ·rename_i e;obtain⟨j,k⟩:=On.1 hp;obtain⟨m,n⟩:=N0.1 k;refine NG λ o=>b j ⟨p.1,m,e,?_⟩;rw[Nf,n];show 0<p.2;omega
   ·rfl
  rw[g];split<;>omega
 have key:∀ L:LI_,(∀ x∈L,0<=x)->0<=L.sum:=λ L=>by
  induction L with
  |nil=>intro _;simp
  |cons y L q=>intro h;have:=h y ai;have:=q λ x a=>h x (by simp[a]);rw[ND];omega
 have:=key _ d;unfold dH at a;omega
theorem s6{N:aV}:∀ {W:LN_} {a z:Int} {k e:Nat},ks N a W z->W[k]?=some e->ks N (pu N e) (W.drop k) z
 |[],_,_,_,_,_,h=>by simp at h
 |i::W,a,z,0,e,⟨r,b,d,c⟩,h=>by
  simp only[Ok,Nc] at h;subst h;exact⟨r,b,(kI b).symm,c⟩
 |i::W,a,z,k+1,e,⟨r,b,d,c⟩,h=>s6 (W:=W) c (by simpa using h)
def tl(N:aV)(l:LI_)(kd to_:Int):Nat->LI_->LN_->Int->Int×LN_
 |0,_,arcs,_=>(kd,arcs)
 |n+1,seen,arcs,at_=>match IP N l at_ with
  |none=>(kd,arcs)
  |some e=>if jO N e=to_ then (kd,arcs++[e]) else if jO N e∈seen then (99,(arcs++[e]).drop (seen.idxOf (jO N e))) else tl N l kd to_ n (seen++[jO N e]) (arcs++[e]) (jO N e)
structure mT (N:aV) (l:LI_) (W:LN_) (a z:Int):Prop where
 walk:ks N a W z
 nodup:W.Nodup
 room:∀ i∈W,∃ r:ej,N.arcs[i]?=some r/\0<l.getD i 0
 ne:W≠[]
theorem rB{β α:Type}{g:β->α}:∀ {l:List β},(l.map g).Nodup->l.Nodup
 |[],_=>PH
 |x::l,h=>by
  rw[Nv,NJ] at h;exact NJ.2 ⟨λ a=>h.1 (OM a),rB h.2⟩
theorem mr{N:aV}(D:N.Right){l:LI_}(H:Ranged N l){kd to_ s0:Int}(p:∀ v:Int,1<=v/\v<=N.nodes->v≠to_->dH (N.arcs.zip l) v<=0):∀ (n:Nat) (seen:LI_) (arcs:LN_) (at_:Int),N.nodes.toNat+1<=n+seen.length->
 seen=arcs.map (pu N)++[at_]->seen.Nodup->(∀ v∈seen,1<=v/\v<=N.nodes)->ks N s0 arcs at_->(∀ i∈arcs,∃ r:ej,N.arcs[i]?=some r/\0<l.getD i 0)->(∃ i,nS N l at_ i)->
 (∃ W,tl N l kd to_ n seen arcs at_=(kd,W)/\mT N l W s0 to_)\/(∃ W v,tl N l kd to_ n seen arcs at_=(99,W)/\mT N l W v v)
 |0,seen,arcs,at_,L,I,A,d,_,_,_=>by
  exfalso;have M:=D.nodes
  have:=kv seen ((List.range N.nodes.toNat).map λ (i:Nat)=>(i:Int)+1) A λ x p=>by
   have:=d x p;exact NF.2 ⟨(x-1).toNat,N8.2 aa,aa⟩
  simp only[Nm,Ot] at this;omega
 |n+1,seen,arcs,at_,L,I,A,d,hw,O,E=>by
  obtain⟨i,hi⟩:=E;obtain⟨e,he⟩:=Hw hi;obtain⟨a,q,s,hp⟩:=ym he;have b:=uX q;have t:=D.arc a (Nb q);have f:ks N s0 (arcs++[e]) (jO N e):=by rw[b];exact qh q (by rw[s];exact hw)
  have m:∀ i∈arcs++[e],∃ r:ej,N.arcs[i]?=some r/\0<l.getD i 0:=λ i hi=>by
   rcases Np.1 hi with h|h
   ·exact O i h
   ·rw[Ni.1 h];exact⟨a,q,hp⟩
  have c:seen=(arcs++[e]).map (pu N):=by rw[I,NI];simp[kI q,s]
  have u:(arcs++[e]).Nodup:=rB (g:=pu N) (by rw[<- c];exact A);unfold tl;rw[he];simp only;by_cases B:jO N e=to_
  ·rw[if_pos B];exact .inl ⟨_,rfl,by rw[<- B];exact f,u,m,ai⟩
  ·rw[if_neg B];by_cases C:jO N e∈seen
   ·rw[if_pos C];have w:=List.idxOf_lt_length_of_mem C;have o:seen[seen.idxOf (jO N e)]?=some (jO N e):=by rw[List.getElem?_eq_getElem w,List.getElem_idxOf w]
    generalize seen.idxOf (jO N e)=k at w o ⊢
    have F:k<(arcs++[e]).length:=by rw[c,Nm] at w;exact w
    obtain⟨j,K⟩:∃ j,(arcs++[e])[k]?=some j:=⟨_,be F⟩
    have G:pu N j=jO N e:=by
     rw[c,Nk,K] at o;exact NK o
    have z:=s6 f K;rw[G] at z;refine .inr ⟨_,jO N e,rfl,z,(List.drop_sublist k _).nodup u,λ i hi=>m i (PN hi),λ P=>?_⟩;have:=Na List.length P;rw[Oe] at this;simp only[NC] at this;omega
   ·rw[if_neg C];refine mr D H p n (seen++[jO N e]) (arcs++[e]) (jO N e) (by rw[List.length_append];simp only[List.length_cons,List.length_nil];omega) (by rw[c]) ?_ ?_ f m ?_
    ·rw[Nz];refine⟨A,ai,λ x p y Q=>?_⟩;rw[Ni.1 Q];rintro rfl;exact C p
    ·intro v R
     rcases Np.1 R with h|h
     ·exact d v h
     ·rw[Ni.1 h,b];exact t.2.1
    ·exact KQ H (p _ (by rw[b];exact t.2.1) B) q b.symm hp
structure Wk where
 left:LI_
 val:Int
structure Wk.OK (N:aV) (w:Wk):Prop where
 flow:aD N w.left
 worth:dH (N.arcs.zip w.left) N.snk=w.val
def i6(x:Int):Bool:=decide (0<x)
def b5(l:LI_):Nat:=l.findIdx i6
theorem vp{l:LI_}(h:b5 l<l.length):0<l.getD (b5 l) 0:=by
 have:=List.findIdx_getElem (w:=h);rw[Nf,be h];exact of_decide_eq_true this
def xS(N:aV)(w:Wk):Int×LN_:=
 if 0<w.val then tl N w.left 112 N.snk (N.nodes.toNat+1) [N.src] [] N.src
 else if w.val<0 then tl N w.left 98 N.src (N.nodes.toNat+1) [N.snk] [] N.snk
 else tl N w.left 99 0 (N.nodes.toNat+1) [pu N (b5 w.left)] [] (pu N (b5 w.left))
theorem Cv{N:aV}(c:N.Right):∀ {W:LN_} {a z:Int},ks N a W z->W≠[]->1<=z
 |[],_,_,_,h=>absurd rfl h
 |[i],a,z,⟨r,d,_,b⟩,_=>by
  have e:r.to=z:=b;have:=(c.arc r (Nb d)).2.1.1;omega
 |i::j::W,a,z,⟨r,_,_,b⟩,_=>Cv c (W:=j::W) b ai
def C1(N:aV)(w:Wk)(k:Int)(W:LN_):Prop:=(k=112/\0<w.val/\mT N w.left W N.src N.snk)\/(k=98/\w.val<0/\mT N w.left W N.snk N.src)\/(k=99/\∃ v,mT N w.left W v v)
theorem Ei{N:aV}(f:N.Right){w:Wk}(h:w.OK N)(hp:b5 w.left<w.left.length):C1 N w (xS N w).1 (xS N w).2:=by
 have l:=h.flow.toRanged;have b:=CM f h.flow;rw[h.worth] at b;have u:=f.src;have x:=f.snk;have z:=f.diff;have g:∀ v:Int,1<=v/\v<=N.nodes->v≠N.src->v≠N.snk->dH (N.arcs.zip w.left) v=0:=h.flow.kept;have j:=h.worth;unfold xS C1;by_cases n:0<w.val
 ·rw[if_pos n]
  rcases mr f l (kd:=112) (to_:=N.snk) (s0:=N.src) (λ v d k=>by
   by_cases e:v=N.src
   ·rw[e,b];omega
   ·rw[g v d e k];omega) (N.nodes.toNat+1) [N.src] [] N.src (by simp only[Nh,NC];omega) rfl ai (λ v d=>by rw[Ni.1 d];exact u) rfl (λ i hi=>absurd hi Nt) (CJ l (by rw[b];omega)) with ⟨W,e,c⟩|⟨W,v,e,c⟩
  ·rw[e];exact .inl ⟨rfl,n,c⟩
  ·rw[e];exact .inr (.inr ⟨rfl,v,c⟩)
 ·rw[if_neg n];by_cases c2:w.val<0
  ·rw[if_pos c2]
   rcases mr f l (kd:=98) (to_:=N.src) (s0:=N.snk) (λ v d k=>by
    by_cases e:v=N.snk
    ·rw[e,j];omega
    ·rw[g v d k e];omega) (N.nodes.toNat+1) [N.snk] [] N.snk (by simp only[Nh,NC];omega) rfl ai (λ v d=>by rw[Ni.1 d];exact x) rfl (λ i hi=>absurd hi Nt) (CJ l (by rw[j];omega)) with ⟨W,e,c⟩|⟨W,v,e,c⟩
   ·rw[e];exact .inr (.inl ⟨rfl,c2,c⟩)
   ·rw[e];exact .inr (.inr ⟨rfl,v,c⟩)
  ·rw[if_neg c2];have y:=h.flow.len
   have o:∀ v:Int,1<=v/\v<=N.nodes->v≠0->dH (N.arcs.zip w.left) v<=0:=λ v d _=>by
    by_cases s:v=N.src
    ·rw[s,b];omega
    ·by_cases t:v=N.snk
     ·rw[t,j];omega
     ·rw[g v d s t];omega
   have p:=vp hp;obtain⟨a,q⟩:∃ a,N.arcs[b5 w.left]?=some a:=⟨_,be aa⟩;have r:=f.arc a (Nb q);have m:=kI q
   rcases mr f l (kd:=99) (to_:=0) (s0:=pu N (b5 w.left)) o (N.nodes.toNat+1) [pu N (b5 w.left)] [] (pu N (b5 w.left)) (by simp only[Nh,NC];omega) rfl ai (λ v d=>by rw[Ni.1 d,m];exact r.1) rfl (λ i hi=>absurd hi Nt) ⟨b5 w.left,a,q,m.symm,p⟩ with ⟨W,e,c⟩|⟨W,v,e,c⟩
   ·exact absurd (Cv f c.walk c.ne) ab
   ·rw[e];exact .inr (.inr ⟨rfl,v,c⟩)
def pq(l:LI_)(m:Int)(W:LN_):Int:=W.foldl (λ m e=>min m (l.getD e 0)) m
theorem Ge(l:LI_):∀ (W:LN_) (m:Int),pq l m W<=m/\∀ e∈W,pq l m W<=l.getD e 0
 |[],m=>⟨Ox _,λ e he=>absurd he Nt⟩
 |x::W,m=>by
  have a:=Ge l W (min m (l.getD x 0));show pq l (min m (l.getD x 0)) W<=m/\_;refine⟨aa,λ e he=>?_⟩
  rcases Nn.1 he with rfl|he
  ·show pq l (min m (l.getD e 0)) W<=_;omega
  ·exact a.2 e he
theorem B7{l:LI_}:∀ {W:LN_} {m:Int},0<m->(∀ e∈W,0<l.getD e 0)->0<pq l m W
 |[],_,h,_=>h
 |x::W,m,h,a=>B7 (W:=W) (m:=min m (l.getD x 0)) (by have:=a x ai;omega) λ e he=>a e (by simp[he])
theorem Cc(l:LI_):∀ (W:LN_) (m:Int),pq l m W=m\/∃ e∈W,pq l m W=l.getD e 0
 |[],m=>.inl rfl
 |x::W,m=>by
  rcases Cc l W (min m (l.getD x 0)) with h|⟨e,he,h⟩
  ·rcases Int.le_total m (l.getD x 0) with hle|hle
   ·exact .inl (h.trans aa)
   ·exact .inr ⟨x,ai,h.trans aa⟩
  ·exact .inr ⟨e,by simp[he],h⟩
def jb(w:Wk)(k:Int)(W:LN_):Int:=if k=99 then w.left.getD (W.headD 0) 0 else max w.val (-w.val)
def hO(N:aV)(w:Wk):Int×LN_×Int:=((xS N w).1,(xS N w).2,pq w.left (jb w (xS N w).1 (xS N w).2) (xS N w).2)
def zX(N:aV)(w:Wk):Wk:=⟨jC (-(hO N w).2.2) (hO N w).2.1 w.left,if (hO N w).1=112 then w.val-(hO N w).2.2 else if (hO N w).1=98 then w.val+(hO N w).2.2 else w.val⟩
def ql(l:LI_):Nat:=l.countP i6
theorem AK:∀ (l m:LI_),m.length=l.length->(∀ i,0<m.getD i 0->0<l.getD i 0)->ql m<=ql l
 |[],[],_,_=>Nr _
 |[],_::_,h,_=>by simp at h
 |_::_,[],h,_=>by simp at h
 |x::l,y::m,hl,h=>by
  have a:=AK l m (by simpa using hl) λ i hi=>by have:=h (i+1);simpa using this (by simpa using hi)
  have b:0<y->0<x:=by have:=h 0;simpa using this
  unfold ql i6 at*;simp only[List.countP_cons,NX];split<;>split<;>omega
theorem FI:∀ (l m:LI_),m.length=l.length->(∀ i,0<m.getD i 0->0<l.getD i 0)->∀ k,0<l.getD k 0->¬ 0<m.getD k 0->ql m<ql l
 |[],_,_,_,k,h,_=>by simp at h
 |_::_,[],h,_,_,_,_=>by simp at h
 |x::l,y::m,hl,h,0,a,b=>by
  have e:=AK l m (by simpa using hl) λ i hi=>by have:=h (i+1);simpa using this (by simpa using hi)
  have c:0<x:=by simpa using a
  have d:¬ 0<y:=by simpa using b
  unfold ql i6 at*;simp only[List.countP_cons,NX];rw[if_pos c,if_neg d];omega
 |x::l,y::m,hl,h,k+1,a,b=>by
  have e:=FI l m (by simpa using hl) (λ i hi=>by have:=h (i+1);simpa using this (by simpa using hi)) k (by simpa using a) (by simpa using b);have f:0<y->0<x:=by have:=h 0;simpa using this
  unfold ql i6 at*;simp only[List.countP_cons,NX];split<;>split<;>omega
def Wk.size(w:Wk):Nat:=ql w.left+if w.val=0 then 0 else 1
theorem sA{m:Int}{W:LN_}{f:LI_}(a:W.Nodup)(hi:∀ i∈W,i<f.length)(j:Nat):(jC m W f).getD j 0=if j∈W then f.getD j 0+m else f.getD j 0:=by
 rw[Nf,ys m W f j a hi];split
 ·rfl
 ·rw[<- Nf]
theorem pY{N:aV}(M:N.Right){w:Wk}(h:w.OK N)(hp:b5 w.left<w.left.length):(zX N w).OK N/\(zX N w).size<w.size/\0<(hO N w).2.2/\C1 N w (hO N w).1 (hO N w).2.1/\(∀ e∈(hO N w).2.1,(hO N w).2.2<=w.left.getD e 0):=by
 have c:¬ (99:Int)=112:=ab;have d:¬ (99:Int)=98:=ab;have E:¬ (98:Int)=112:=ab;have C:(112:Int)=112:=rfl;have H:(98:Int)=98:=rfl;have hP:C1 N w (hO N w).1 (hO N w).2.1:=Ei M h hp;have hm:(hO N w).2.2=pq w.left (jb w (hO N w).1 (hO N w).2.1) (hO N w).2.1:=rfl;unfold zX
 generalize hO N w=t at*
 obtain⟨k,W,m⟩:=t;simp only at hP hm ⊢
 obtain⟨a,z,I⟩:∃ a z,mT N w.left W a z:=by
  rcases hP with ⟨_,_,h⟩|⟨_,_,h⟩|⟨_,v,h⟩
  ·exact⟨_,_,h⟩
  ·exact⟨_,_,h⟩
  ·exact⟨_,_,h⟩
 have f:=h.flow.len;have O:∀ i∈W,i<w.left.length:=λ i hi=>by obtain⟨r,P,_⟩:=I.room i hi;have:=(Ng.1 P).1;omega
 have g:∀ i∈W,0<w.left.getD i 0:=λ i hi=>by obtain⟨r,_,P⟩:=I.room i hi;exact P
 have l:W.headD 0∈W:=by
  cases Z:W with
  |nil=>exact absurd Z I.ne
  |cons x X=>simp
 have F:0<jb w k W:=by
  unfold jb;split
  ·exact g _ l
  ·rename_i K
   rcases hP with ⟨_,h,_⟩|⟨_,h,_⟩|⟨h,_⟩
   ·omega
   ·omega
   ·exact absurd h K
 have Q:0<m:=by rw[hm];exact B7 F g
 obtain⟨hle,n⟩:=Ge w.left W (jb w k W);rw[<- hm] at hle n;have b:=sA (m:=-m) I.nodup O;have hlen:=kY (-m) W w.left
 have G:Ranged N (jC (-m) W w.left):=by
  refine⟨by rw[hlen];exact f,λ p hp=>?_⟩;obtain⟨j,hj⟩:=On.1 hp;obtain⟨y,A⟩:=N0.1 hj;have R:j<w.left.length:=by have:=(Ng.1 y).1;omega
  have h3:w.left[j]?=some (w.left.getD j 0):=by rw[Nf,be R];rfl
  have U:=h.flow.all (p.1,w.left.getD j 0) (Nb (N0.2 ⟨y,h3⟩));have V:=b j;rw[Nf,A,NL] at V;rw[V];simp only at U;split
  ·rename_i S;have:=n j S;omega
  ·exact U
 have hex:=λ v=>qG (N:=N) (m:=-m) (v:=v) W a w.left f I.walk (z:=z)
 have o:∀ i,0<(jC (-m) W w.left).getD i 0->0<w.left.getD i 0:=λ i hi=>by
  rw[b i] at hi;split at hi<;>omega
 have Y:=AK w.left _ hlen o;have q:∀ e∈W,m=w.left.getD e 0->ql (jC (-m) W w.left)<ql w.left:=λ e he hy=>FI w.left _ hlen o e (g e he) (by rw[b e,if_pos he];omega);refine⟨?_,?_,Q,hP,n⟩
 ·rcases hP with ⟨rfl,B,s⟩|⟨rfl,B,s⟩|⟨rfl,v,s⟩
  ·have D:=λ v=>qG (N:=N) (m:=-m) (v:=v) W N.src w.left f s.walk (z:=N.snk);refine⟨⟨G,λ v B y A=>?_⟩,?_⟩
   ·rw[D v,h.flow.kept v B y A,if_neg (λ e=>A e.symm),if_neg (λ e=>y e.symm)];rfl
   ·simp only;rw[D N.snk,h.worth,if_pos rfl,if_neg M.diff,if_pos an];omega
  ·have D:=λ v=>qG (N:=N) (m:=-m) (v:=v) W N.snk w.left f s.walk (z:=N.src);refine⟨⟨G,λ v B y A=>?_⟩,?_⟩
   ·rw[D v,h.flow.kept v B y A,if_neg (λ e=>y e.symm),if_neg (λ e=>A e.symm)];rfl
   ·simp only;rw[D N.snk,h.worth,if_neg M.diff,if_pos rfl,if_neg E,if_pos an];omega
  ·have D:=λ u=>qG (N:=N) (m:=-m) (v:=u) W v w.left f s.walk (z:=v);refine⟨⟨G,λ u hu y A=>?_⟩,?_⟩
   ·rw[D u,h.flow.kept u hu y A];omega
   ·simp only;rw[D N.snk,h.worth,if_neg c,if_neg d];omega
 ·unfold Wk.size;simp only
  rcases Cc w.left W (jb w k W) with L|⟨e,he,L⟩
  ·rw[<- hm] at L;by_cases K:k=99
   ·subst K;have:=q _ l (by rw[L];unfold jb;rw[if_pos rfl]);rw[if_neg c,if_neg d];omega
   ·have hi:jb w k W=max w.val (-w.val):=by unfold jb;rw[if_neg K]
    rcases hP with ⟨rfl,B,_⟩|⟨rfl,B,_⟩|⟨h,_⟩
    ·rw[if_pos C,if_pos (show w.val-m=0 by omega),if_neg (show ¬ w.val=0 by omega)];omega
    ·rw[if_neg E,if_pos H,if_pos (show w.val+m=0 by omega),if_neg (show ¬ w.val=0 by omega)];omega
    ·exact absurd h K
  ·rw[<- hm] at L;have:=q e he L
   rcases hP with ⟨rfl,B,_⟩|⟨rfl,B,_⟩|⟨rfl,_⟩
   ·rw[if_pos C,if_neg (show ¬ w.val=0 by omega)];split<;>omega
   ·rw[if_neg E,if_pos H,if_neg (show ¬ w.val=0 by omega)];split<;>omega
   ·rw[if_neg c,if_neg d];omega
def lj(N:aV):Nat->Wk->List (Int×LN_×Int)
 |0,_=>[]
 |n+1,w=>if b5 w.left<w.left.length then hO N w::lj N n (zX N w) else []
theorem Cw{l:LI_}(h:b5 l<l.length):0<ql l:=by
 unfold ql;exact List.countP_pos_iff.2 ⟨l[b5 l],Oz h,List.findIdx_getElem (w:=h)⟩
theorem uW{N:aV}(a:N.Right):∀ (n m:Nat) (w:Wk),w.OK N->w.size<=n->w.size<=m->lj N n w=lj N m w
 |0,0,_,_,_,_=>rfl
 |0,m+1,w,_,h,_=>by
  have:¬ b5 w.left<w.left.length:=λ hp=>by have:=Cw hp;unfold Wk.size at h;omega
  show []=lj N (m+1) w;unfold lj;rw[if_neg this]
 |n+1,0,w,_,_,h=>by
  have:¬ b5 w.left<w.left.length:=λ hp=>by have:=Cw hp;unfold Wk.size at h;omega
  show lj N (n+1) w=[];unfold lj;rw[if_neg this]
 |n+1,m+1,w,hw,b,c=>by
  unfold lj;by_cases hp:b5 w.left<w.left.length
  ·have:=pY a hw hp;rw[if_pos hp,if_pos hp,uW a n m _ this.1 aa aa]
  ·rw[if_neg hp,if_neg hp]
structure cO where
 N:aV
 f:LI_
 s:LI_
 a:Bool
 b:Bool
 d:Bool
 An:OA_
 cn:Nat
 Af:OA_
 cf:Nat
 As:OA_
 cs:Nat
def cO.cells(m:cO):LV_:=[.int .i64 m.N.nodes,.int .i64 m.N.src,.int .i64 m.N.snk,.slice m.An m.N.arcs.length m.cn,.slice m.Af m.f.length m.cf,.slice m.As m.s.length m.cs,.bool m.a,.bool m.b,.bool m.d]
def I6:cO:=⟨⟨0,0,0,[]⟩,[],[],false,false,false,none,0,none,0,none,0⟩
theorem JH:Fn 20 [] [] [] λ v H'=>∃ p:Nat,v=.pointer (some ⟨p,0,none⟩)/\H'=[blk p 97 I6.cells]:=by
 refine aT Tryz.func20 λ w0=>?_;refine mM ?_;refine fv ?_;refine cY (cs:=I6.cells) λ p=>?_;refine aN ?_;exact aM [0] ⟨_,rfl,p,rfl,rfl⟩
def BW(c:Bool):Value:=.func (.func (bif c then 128 else 127)) #[] #[]
def cO.has(m:cO)(c:Bool):Bool:=bif c then m.d else m.b
theorem AZ(m:cO)(p:Nat):Fn 127 [.pointer (some ⟨p,0,none⟩)] [] [.seg p 0 m.cells] λ v H'=>v=.bool m.b/\H'=[]:=by
 refine aT Tryz.func127 λ w0=>?_;refine c9 ?_;refine aF (aZ (i:=7) (v:=.bool m.b) 0 rfl rfl rfl) ?_;exact lG
theorem Ds(m:cO)(p:Nat):Fn 128 [.pointer (some ⟨p,0,none⟩)] [] [.seg p 0 m.cells] λ v H'=>v=.bool m.d/\H'=[]:=by
 refine aT Tryz.func128 λ w0=>?_;refine c9 ?_;refine aF (aZ (i:=8) (v:=.bool m.d) 0 rfl rfl rfl) ?_;exact lG
theorem Fz(m:cO)(p q:Nat)(c:Bool):Fn 85 [BW c,.pointer (some ⟨q,0,none⟩)] [] [.seg q 0 [.pointer (some ⟨p,0,none⟩)],.seg p 0 m.cells] λ v H'=>v=.bool (!m.has c)/\H'=[]:=by
 refine aT Tryz.func85 λ w0=>?_;refine c9 ?_;refine sf ?_
 cases c with
 |false=>
  refine cj (fst:=[]) (cap:=[]) (AZ m p) rfl ⟨bz 1 rfl,an⟩ ?_;exact lG
 |true=>
  refine cj (fst:=[]) (cap:=[]) (Ds m p) rfl ⟨bz 1 rfl,an⟩ ?_;exact lG
theorem Hl{l:LB_}{i:Nat}{x:Bool}(h:l[i]?=some x):(l.map BW)[i]?=some (BW x):=by simp[h]
theorem Jo(m:cO)(p q:Nat)(l:LB_)(hl:l.length<=10)(A:OA_)(n c b o:Nat)(g:l≠[]->A=some ⟨b,o,none⟩)(j:n=l.length):
 Fn 112 [.slice A n c,.func (.func 85) #[] #[.pointer (some ⟨q,0,none⟩)]] [] [.seg q 0 [.pointer (some ⟨p,0,none⟩)],.seg p 0 m.cells,.seg b o (l.map BW)] λ v H'=>(∃ x:Int,v=.int .i64 x/\(0<=x↔∃ c∈l,m.has c=false))/\H'=[]:=by
 subst j;refine aT Tryz.func112 λ w0=>?_;refine mG ?_
 refine bP (σ:=Nat) (λ k=>[(8,af k),(7,af l.length),(1,.func (.func 85) #[] #[ap q 0]),(0,.slice A l.length c)])
  (λ _=>[.seg q 0 [ap p 0],.seg p 0 m.cells,.seg b o (l.map BW)]) (λ k=>k<=l.length/\∀ c∈l.take k,m.has c=true) (λ k=>l.length-k)
  0 [0,1,2] a7 ab rfl ⟨Nl _,λ c h=>absurd h ai⟩ ?_
 rintro k ⟨u,a⟩;refine ao ?_;refine am (ak rfl (λ hlt=>ag ?_) (λ s=>aO ?_))
 ·have hlt:k<l.length:=by omega
  obtain⟨r,f⟩:∃ r,l[k]?=some r:=⟨l[k],be hlt⟩;obtain rfl:=g (by rintro rfl;simp at hlt);refine am (aq ?_);refine ao ?_;refine iz ?_;refine aF (aZ (i:=k) 2 rfl rfl (Hl f)) ?_;refine cj (fst:=[]) (cap:=[ap q 0]) (Fz m p q r) rfl ⟨bz 0 rfl,bz 1 rfl,an⟩ ?_;refine ah<|nW rfl (λ d=>?_) (λ d=>ag ?_)
  ·have d:m.has r=false:=by revert d;cases m.has r<;>simp
   refine ao ?_;exact aM [] ⟨_,rfl,⟨_,rfl,λ _=>⟨r,Nb f,d⟩,λ _=>by omega⟩,rfl⟩
  ·have d:m.has r=true:=by revert d;cases m.has r<;>simp
   refine ao ?_;refine⟨k+1,[0,1,2],⟨?_,rfl,rfl,rfl,an⟩,ab,rfl,⟨aa,λ x e=>?_⟩,aa⟩
   ·refine fy ?_;rw[cp aa];rfl
   ·rw[Nu,f] at e
    rcases Np.1 e with e|e
    ·exact a x e
    ·simp at e;rw[e];exact d
 ·obtain rfl:k=l.length:=by omega
  rw[NH] at a;refine ao ?_;refine aM [] ⟨_,rfl,⟨_,rfl,λ h=>absurd h ab,λ ⟨c,t,h⟩=>?_⟩,rfl⟩;rw[a c t] at h;exact Bool.noConfusion h
theorem Hy(m:cO)(p q:Nat)(l:LB_)(hl:l.length<=10)(A:OA_)(n c b o:Nat)(a:l≠[]->A=some ⟨b,o,none⟩)(d:n=l.length):
 Fn 84 [.slice A n c,.func (.func 85) #[] #[.pointer (some ⟨q,0,none⟩)]] [] [.seg q 0 [.pointer (some ⟨p,0,none⟩)],.seg p 0 m.cells,.seg b o (l.map BW)] λ v H'=>v=.bool (dR (∃ c∈l,m.has c=false))/\H'=[]:=by
 refine aT Tryz.func84 λ w0=>?_;refine c9 ?_;refine eW (fst:=[]) (cap:=[]) (Jo m p q l hl A n c b o a d) rfl ⟨bz 0 rfl,bz 1 rfl,bz 2 rfl,an⟩ ?_;rintro v H' ⟨⟨x,rfl,e⟩,rfl⟩;refine aN ?_;refine aM [] ⟨_,rfl,?_,rfl⟩;exact Na Value.bool (ey e)
def cO.lack(m:cO)(l:LB_):Int:=if m.a=false then 9 else if ∀ c∈l,m.has c=true then 0 else 8
theorem kt(m:cO)(p:Nat)(l:LB_)(hl:l.length<=10)(A:OA_)(n c b o:Nat)(f:l≠[]->A=some ⟨b,o,none⟩)(g:n=l.length):
 Fn 43 [.pointer (some ⟨p,0,none⟩),.slice A n c] [] [.seg p 0 m.cells,.seg b o (l.map BW)] λ v H'=>v=.int .i64 (m.lack l)/\H'=[]:=by
 refine aT Tryz.func43 λ w0=>?_;refine bu ?_;refine cY (cs:=[ap p 0]) λ q=>?_;refine dQ ?_;refine bj (v:=ap p 0) 0 ?_;refine az ?_;refine aF (aZ (i:=6) (v:=.bool m.a) 1 rfl rfl rfl) ?_;refine aN ?_;refine nW rfl (λ d=>?_) (λ d=>ag ?_)
 ·have d:m.a=false:=by simpa using d
  refine ao ?_;refine aM [] ⟨_,rfl,?_,rfl⟩;unfold cO.lack;rw[if_pos d];rfl
 have d:¬ m.a=false:=by simpa using d
 refine aI ?_;refine cj (fst:=[]) (cap:=[]) (Hy m p q l hl A n c b o f g) rfl ⟨ew 0 rfl,bz 1 rfl,bz 2 rfl,an⟩ ?_;refine aN ?_;refine ak rfl (λ h=>?_) (λ h=>ag ?_)
 ·refine ao ?_;refine aM [] ⟨_,rfl,?_,rfl⟩;unfold cO.lack;obtain⟨x,j,e⟩:=h;rw[if_neg d,if_neg (λ k=>by have:=k x j;rw[e] at this;exact Bool.noConfusion this)];rfl
 ·refine ao ?_;refine aM [] ⟨_,rfl,?_,rfl⟩;unfold cO.lack
  rw[if_neg d,if_pos (λ c r=>by
   cases hm:m.has c with
   |true=>rfl
   |false=>exact absurd ⟨c,r,hm⟩ h)];rfl
def C9(left:LI_)(x:Int):Bool:=i6 (left.getD x.toNat 0)
theorem G0(x:Int):Fn 194 [.int .i64 x] [] [] λ v H'=>v=.bool (i6 x)/\H'=[]:=by
 refine aT Tryz.func194 λ w0=>?_;refine ja ?_;exact aM [] ⟨_,rfl,Na Value.bool (by unfold i6;unfold dR;by_cases h:0<x<;>simp[h]),rfl⟩
theorem HD(x a:Int)(q:Nat):Fn 203 [.int .i64 x,.pointer (some ⟨q,0,none⟩)] [] [.seg q 0 [.int .i64 a]] λ v H'=>v=.bool (x==a)/\H'=[]:=by
 refine aT Tryz.func203 λ w0=>?_;refine c9 ?_;refine aF (aZ (i:=0) (v:=af a) 0 rfl rfl rfl) ?_;refine aN ?_;exact aM [] ⟨_,rfl,Na Value.bool (by unfold dR;by_cases h:x=a<;>simp[h]),rfl⟩
def pH(N:aV)(A:OA_)(c:Nat)(Al:OA_)(nl cl:Nat)(val:Int)(Ao:OA_)(no co:Nat)(at_:Int):LV_:=
 [.int .i64 N.nodes,.int .i64 N.src,.int .i64 N.snk,.slice A N.arcs.length c,.slice Al nl cl,.int .i64 val,.slice Ao no co,.int .i64 at_]
theorem HX(N:aV)(A:OA_)(c:Nat)(d:Nat)(val:Int)(Ao:OA_)(no co:Nat)(at_:Int)(left:LI_)(bl:Nat)(k:Nat)(e:k<left.length)(q a:Nat):
 Fn 204 [.int .i64 (k:Int),.pointer (some ⟨q,0,none⟩)] [] [.seg q 0 [.pointer (some ⟨a,0,none⟩)],.seg a 0 (pH N A c (some ⟨bl,0,none⟩) left.length d val Ao no co at_),.seg bl 0 (aj left)] λ v H'=>v=.bool (C9 left (k:Int))/\H'=[]:=by
 obtain⟨x,f⟩:∃ x,left[k]?=some x:=⟨_,be e⟩;have b:left.getD k 0=x:=by rw[Nf,f];rfl
 refine aT Tryz.func204 λ w0=>?_;refine c9 ?_;refine aF (aZ (i:=0) (v:=ap a 0) 0 rfl rfl rfl) ?_;refine az ?_;refine aF (aZ (i:=4) (v:=ax bl 0 left.length d) 1 rfl rfl rfl) ?_;refine az ?_;refine aF (bn rfl e) ?_;refine aF (fJ (i:=k) (v:=af x) 2 rfl rfl rfl (NR _).symm (bQ f)) ?_;refine aN ?_;refine aM [] ⟨_,rfl,Na Value.bool ?_,rfl⟩;unfold C9 i6;rw[show ((k:Nat):Int).toNat=k by omega,b];unfold dR;by_cases h:0<x<;>simp[h]
theorem A9(A:OA_)(c b o:Nat)(l:LI_)(i:l≠[]->A=some ⟨b,o,none⟩)(hl:l.length<=100000):
 Fn 193 [.slice A l.length c,.func (.func 194) #[] #[]] [] [.seg b o (aj l)] λ v H'=>v=.int .i64 ((l.findIdx (i6):Nat):Int)/\H'=[]:=by
 refine aT Tryz.func193 λ w0=>?_;refine mG ?_
 refine bP (σ:=Nat) (λ k=>[(9,af k),(8,af l.length),(7,.slice A l.length c),(1,.func (.func 194) #[] #[]),(0,.slice A l.length c)])
  (λ _=>[.seg b o (aj l)]) (λ k=>k<=l.length/\∀ j x,j<k->l[j]?=some x->(i6) x=false) (λ k=>l.length-k)
  0 [0] a7 ab rfl ⟨Nl _,λ j x h=>by omega⟩ ?_
 rintro k ⟨p,a⟩;refine ao ?_;refine am (ak rfl (λ hlt=>ag ?_) (λ m=>aO ?_))
 ·have hlt:k<l.length:=by omega
  obtain⟨r,f⟩:∃ r,l[k]?=some r:=⟨l[k],be hlt⟩;obtain rfl:=i (by rintro rfl;simp at hlt);refine am (aq ?_);refine iz ?_;refine aF (aZ 0 rfl rfl (bI f)) ?_;refine dQ ?_;refine cj (fst:=[]) (cap:=[]) (G0 r) rfl an ?_;refine ah<|nW rfl (λ g=>?_) (λ g=>ag ?_)
  ·refine ao ?_;refine aM [] ⟨_,rfl,Na (λ n:Nat=>af (n:Int)) ?_,rfl⟩;exact ((List.findIdx_eq hlt).2 ⟨by rw[(Ng.1 f).2];exact g,λ j d=>a j _ d (be aa)⟩).symm
  ·refine ao ?_;refine⟨k+1,[0],⟨?_,rfl,rfl,rfl,rfl,an⟩,ab,rfl,⟨aa,λ j x d e=>?_⟩,aa⟩
   ·refine fy ?_;rw[cp aa];rfl
   ·rcases Pb (Nat.le_of_lt_succ d) with h|rfl
    ·exact a j x h e
    ·rw[f] at e;rw[<- NK e]
     simpa using g
 ·obtain rfl:k=l.length:=by omega
  refine ao ?_;refine aM [] ⟨_,rfl,Na (λ n:Nat=>af (n:Int)) ?_,rfl⟩;refine (PA.2 λ x e=>?_).symm;obtain⟨j,d⟩:=On.1 e;exact a j x (Ng.1 d).1 d
theorem DI(A:OA_)(c b o:Nat)(l:LI_)(m:l≠[]->A=some ⟨b,o,none⟩)(hl:l.length<=100000)(a:Int)(q:Nat):
 Fn 202 [.slice A l.length c,.func (.func 203) #[] #[.pointer (some ⟨q,0,none⟩)]] [] [.seg q 0 [.int .i64 a],.seg b o (aj l)] λ v H'=>v=.int .i64 ((l.findIdx (λ x=>x==a):Nat):Int)/\H'=[]:=by
 refine aT Tryz.func202 λ w0=>?_;refine mG ?_
 refine bP (σ:=Nat) (λ k=>[(9,af k),(8,af l.length),(7,.slice A l.length c),(1,.func (.func 203) #[] #[ap q 0]),(0,.slice A l.length c)])
  (λ _=>[.seg q 0 [af a],.seg b o (aj l)]) (λ k=>k<=l.length/\∀ j x,j<k->l[j]?=some x->(λ x=>x==a) x=false) (λ k=>l.length-k)
  0 [0,1] a7 ab rfl ⟨Nl _,λ j x h=>by omega⟩ ?_
 rintro k ⟨s,d⟩;refine ao ?_;refine am (ak rfl (λ hlt=>ag ?_) (λ p=>aO ?_))
 ·have hlt:k<l.length:=by omega
  obtain⟨r,g⟩:∃ r,l[k]?=some r:=⟨l[k],be hlt⟩;obtain rfl:=m (by rintro rfl;simp at hlt);refine am (aq ?_);refine iz ?_;refine aF (aZ 1 rfl rfl (bI g)) ?_;refine dQ ?_;refine cj (fst:=[]) (cap:=[ap q 0]) (HD r a q) rfl ⟨bz 0 rfl,an⟩ ?_;refine ah<|nW rfl (λ i=>?_) (λ i=>ag ?_)
  ·refine ao ?_;refine aM [] ⟨_,rfl,Na (λ n:Nat=>af (n:Int)) ?_,rfl⟩;exact ((List.findIdx_eq hlt).2 ⟨by rw[(Ng.1 g).2];exact i,λ j e=>d j _ e (be aa)⟩).symm
  ·refine ao ?_;refine⟨k+1,[0,1],⟨?_,rfl,rfl,rfl,rfl,an⟩,ab,rfl,⟨aa,λ j x e f=>?_⟩,aa⟩
   ·refine fy ?_;rw[cp aa];rfl
   ·rcases Pb (Nat.le_of_lt_succ e) with h|rfl
    ·exact d j x h f
    ·rw[g] at f;rw[<- NK f]
     simpa using i
 ·obtain rfl:k=l.length:=by omega
  refine ao ?_;refine aM [] ⟨_,rfl,Na (λ n:Nat=>af (n:Int)) ?_,rfl⟩;refine (PA.2 λ x f=>?_).symm;obtain⟨j,e⟩:=On.1 f;exact d j x (Ng.1 e).1 e
theorem Fe(A:OA_)(c b o:Nat)(l:LI_)(u:l≠[]->A=some ⟨b,o,none⟩)(hl:l.length<=100000)(N:aV)(An:OA_)(cn m:Nat)(val:Int)(Ao:OA_)(no co:Nat)(at_:Int)(left:LI_)(bl q f:Nat)(p:∀ x∈l,0<=x/\x<left.length):
 Fn 202 [.slice A l.length c,.func (.func 204) #[] #[.pointer (some ⟨q,0,none⟩)]] [] [.seg q 0 [.pointer (some ⟨f,0,none⟩)],.seg f 0 (pH N An cn (some ⟨bl,0,none⟩) left.length m val Ao no co at_),.seg bl 0 (aj left),.seg b o (aj l)] λ v H'=>v=.int .i64 ((l.findIdx (C9 left):Nat):Int)/\H'=[]:=by
 refine aT Tryz.func202 λ w0=>?_;refine mG ?_
 refine bP (σ:=Nat) (λ k=>[(9,af k),(8,af l.length),(7,.slice A l.length c),(1,.func (.func 204) #[] #[ap q 0]),(0,.slice A l.length c)])
  (λ _=>[.seg q 0 [ap f 0],.seg f 0 (pH N An cn (aL bl 0) left.length m val Ao no co at_),.seg bl 0 (aj left),.seg b o (aj l)]) (λ k=>k<=l.length/\∀ j x,j<k->l[j]?=some x->(C9 left) x=false) (λ k=>l.length-k)
  0 [0,1,2,3] a7 ab rfl ⟨Nl _,λ j x h=>by omega⟩ ?_
 rintro k ⟨y,a⟩;refine ao ?_;refine am (ak rfl (λ hlt=>ag ?_) (λ w=>aO ?_))
 ·have hlt:k<l.length:=by omega
  obtain⟨r,i⟩:∃ r,l[k]?=some r:=⟨l[k],be hlt⟩;obtain rfl:=u (by rintro rfl;simp at hlt);refine am (aq ?_);refine iz ?_;refine aF (aZ 3 rfl rfl (bI i)) ?_;refine dQ ?_;have s:=p r (Nb i);obtain⟨e,rfl⟩:=O4 s.1;refine cj (fst:=[]) (cap:=[ap q 0]) (HX N An cn m val Ao no co at_ left bl e aa q f) rfl ⟨bz 0 rfl,bz 1 rfl,bz 2 rfl,an⟩ ?_;refine ah<|nW rfl (λ t=>?_) (λ t=>ag ?_)
  ·refine ao ?_;refine aM [] ⟨_,rfl,Na (λ n:Nat=>af (n:Int)) ?_,rfl⟩;exact ((List.findIdx_eq hlt).2 ⟨by rw[(Ng.1 i).2];exact t,λ j d=>a j _ d (be aa)⟩).symm
  ·refine ao ?_;refine⟨k+1,[0,1,2,3],⟨?_,rfl,rfl,rfl,rfl,an⟩,ab,rfl,⟨aa,λ j x d g=>?_⟩,aa⟩
   ·refine fy ?_;rw[cp aa];rfl
   ·rcases Pb (Nat.le_of_lt_succ d) with h|rfl
    ·exact a j x h g
    ·rw[i] at g;rw[<- NK g]
     simpa using t
 ·obtain rfl:k=l.length:=by omega
  refine ao ?_;refine aM [] ⟨_,rfl,Na (λ n:Nat=>af (n:Int)) ?_,rfl⟩;refine (PA.2 λ x g=>?_).symm;obtain⟨j,d⟩:=On.1 g;exact a j x (Ng.1 d).1 d
end Go.Proofs.YtmcnpaelaieniaaGreatDoor
