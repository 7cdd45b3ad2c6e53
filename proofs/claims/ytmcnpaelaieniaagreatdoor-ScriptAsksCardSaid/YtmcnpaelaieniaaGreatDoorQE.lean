import Derived.Test.YtmcnpaelaieniaaGreatDoorQD
/- A part of the proof. -/
set_option linter.unusedVariables false
set_option linter.unusedSimpArgs false
namespace Go.Proofs.YtmcnpaelaieniaaGreatDoor
open Go.RowKit
theorem ki(a b:Int):ei (ei a+ei b)=ei (a+b):=by unfold ei;simp only[IntKind.wrap_i64];omega
theorem lA{n:Int}(h:-9223372036854775808<=n/\n<=9223372036854775807):ei n=n:=by unfold ei;rw[IntKind.wrap_i64];omega
abbrev mn:=List (Nat×Int)
def sh(a:Int)(t:Bool)(L:mn):mn:=(if t then L.reverse else L).map λ e=>(e.1,e.2+a)
theorem iT(L:mn):sh 0 false L=L:=by
 unfold sh;rw[if_neg ab];rw[show (λ e:Nat×Int=>(e.1,e.2+0))=id by funext e;simp,List.map_id]
theorem vY(a:Int)(t:Bool)(L:mn):(sh a t L).length=L.length:=by unfold sh;cases t<;>simp
theorem xO{a:Int}{t:Bool}{L:mn}{e:Nat×Int}:e∈sh a t L↔(e.1,e.2-a)∈L:=by
 unfold sh;rw[NB]
 constructor
 ·rintro⟨d,b,rfl⟩;have:(d.1,d.2+a-a)=d:=by ext<;>simp
  rw[this]
  cases t<;>simpa using b
 ·intro h;refine⟨(e.1,e.2-a),?_,by ext<;>simp⟩
  cases t<;>simpa using h
theorem HH(a:Int)(t:Bool)(L:mn):((sh a t L).map Prod.fst).Perm (L.map Prod.fst):=by
 unfold sh
 cases t
 ·simp[PE]
 ·simp only[O8,OD,PE];rw[List.map_reverse];exact List.reverse_perm _
def j6(L:mn)(m:Int):Prop:=(∃ e∈L,e.2=m)/\∀ e∈L,m<=e.2
def ln(L:mn)(m:Int):Prop:=(∃ e∈L,e.2=m)/\∀ e∈L,e.2<=m
theorem j6.sh{L:mn}{m:Int}(h:j6 L m)(a:Int)(t:Bool):j6 (sh a t L) (m+a):=by
 obtain⟨⟨e,he,hm⟩,b⟩:=h;refine⟨⟨(e.1,e.2+a),xO.2 (by simpa using he),by simp[hm]⟩,λ d c=>?_⟩;have:=b _ (xO.1 c);simp only at this;omega
theorem ln.sh{L:mn}{m:Int}(h:ln L m)(a:Int)(t:Bool):ln (sh a t L) (m+a):=by
 obtain⟨⟨e,he,hm⟩,b⟩:=h;refine⟨⟨(e.1,e.2+a),xO.2 (by simpa using he),by simp[hm]⟩,λ d c=>?_⟩;have:=b _ (xO.1 c);simp only at this;omega
inductive T where
 |nil
 |node (l:T) (x:Nat) (v a:Int) (t:Bool) (r:T)
def T.root:T->Option Nat
 |.nil=>none
 |.node _ x _ _ _ _=>some x
def T.flat:T->mn
 |.nil=>[]
 |.node l x v a t r=>sh a t l.flat++(x,v)::sh a t r.flat
def T.nodes:T->LN_
 |.nil=>[]
 |.node l x _ _ _ r=>l.nodes++x::r.nodes
theorem T.perm:∀ t:T,(t.flat.map Prod.fst).Perm t.nodes
 |.nil=>.nil
 |.node l x v a t r=>by
  simp only[flat,nodes,NJ,Ns];exact ((HH a t l.flat).trans l.perm).append (((HH a t r.flat).trans r.perm).cons x)
theorem T.mem_nodes{t:T}{y:Nat}:y∈t.nodes↔∃ v,(y,v)∈t.flat:=by
 rw[<- t.perm.mem_iff,NB]
 constructor
 ·rintro⟨e,he,rfl⟩;exact⟨e.2,he⟩
 ·rintro⟨v,a⟩;exact⟨_,a,rfl⟩
theorem T.len(t:T):t.flat.length=t.nodes.length:=by have:=t.perm.length_eq;rwa [Nj] at this
theorem T.root_mem{t:T}{x:Nat}(h:t.root=some x):x∈t.nodes:=by
 cases t with
 |nil=>cases h
 |node l y v a t r=>simp only[T.root,Na] at h;subst h;simp[T.nodes]
structure EC (d:Nd) (p l r:Option Nat) (v a:Int) (t:Bool) (L:mn):Prop where
 up:d.up=p
 l:d.l=l
 r:d.r=r
 value:d.value=ei v
 add:d.add=ei a
 turned:d.turned=t
 size:d.size=ei L.length
 least:∃ m,j6 L m/\d.least=ei m
 most:∃ m,ln L m/\d.most=ei m
def fx(ns:cG):T->Option Nat->Prop
 |.nil,_=>True
 |.node l x v a t r,p=>EC (ns x) p l.root r.root v a t (T.node l x v a t r).flat/\fx ns l (some x)/\fx ns r (some x)
theorem fx.congr{ns b:cG}:∀ {t:T} {p:Option Nat},fx ns t p->(∀ y∈t.nodes,b y=ns y)->fx b t p
 |.nil,_,_,_=>trivial
 |.node l x v a t r,p,⟨d,e,f⟩,h=>⟨by rw[h x (by simp[T.nodes])];exact d,e.congr λ y c=>h y (by simp[T.nodes,c]),f.congr λ y c=>h y (by simp[T.nodes,c])⟩
theorem fx.hung{ns c:cG}{q:Option Nat}:∀ {t:T} {p:Option Nat},fx ns t p->(∀ y∈t.nodes,some y≠t.root->c y=ns y)->(∀ x,t.root=some x->c x={ ns x with up:=q })->t.nodes.Nodup->fx c t q
 |.nil,_,_,_,_,_=>trivial
 |.node l x v a t r,p,⟨b,g,i⟩,h,j,f=>by
  simp only[T.nodes,Ny,NG] at f;have e:=j x rfl;refine⟨?_,g.congr λ y d=>h y (by simp[T.nodes,d]) (λ he=>?_),i.congr λ y d=>h y (by simp[T.nodes,d]) (λ he=>?_)⟩
  ·rw[e];exact⟨rfl,b.l,b.r,b.value,b.add,b.turned,b.size,b.least,b.most⟩
  ·simp only[T.root,Na] at he;subst he;exact f.2.2 y d y ai rfl
  ·simp only[T.root,Na] at he;subst he;exact f.2.1.1 d
def T.lay(b:Int)(s:Bool):T->T
 |.nil=>.nil
 |.node l x v a t r=>if s then .node r x (v+b) (a+b) (!t) l else .node l x (v+b) (a+b) t r
theorem T.lay_root(b:Int)(s:Bool)(t:T):(t.lay b s).root=t.root:=by
 cases t with
 |nil=>rfl
 |node l x v a t r=>cases s<;>rfl
theorem T.lay_nodes(b:Int)(s:Bool)(t:T):(t.lay b s).nodes.Perm t.nodes:=by
 cases t with
 |nil=>exact .refl _
 |node l x v a t r=>
  cases s
  ·exact .refl _
  ·show (r.nodes++x::l.nodes).Perm (l.nodes++x::r.nodes);have c:(r.nodes++x::l.nodes).Perm (x::(r.nodes++l.nodes)):=PK;have d:(l.nodes++x::r.nodes).Perm (x::(l.nodes++r.nodes)):=PK;exact c.trans ((List.perm_append_comm.cons x).trans d.symm)
theorem T.lay_flat(b:Int)(s:Bool)(t:T):(t.lay b s).flat=sh b s t.flat:=by
 cases t with
 |nil=>cases s<;>rfl
 |node l x v a t r=>
  cases s
  ·show sh (a+b) t l.flat++(x,v+b)::sh (a+b) t r.flat=sh b false (sh a t l.flat++(x,v)::sh a t r.flat);unfold sh;cases t<;>simp[Int.add_assoc,PE]
  ·show sh (a+b) (!t) r.flat++(x,v+b)::sh (a+b) (!t) l.flat=sh b true (sh a t l.flat++(x,v)::sh a t r.flat);unfold sh;cases t<;>simp[Int.add_assoc,PE]
theorem T.lay_size(b:Int)(s:Bool)(t:T):(t.lay b s).nodes.length=t.nodes.length:=(T.lay_nodes b s t).length_eq
theorem ft{ns:cG}{c:Option Nat}{a:Int}{s:Bool}{y:Nat}(h:c≠some y):iZ ns c a s y=ns y:=by
 cases c with
 |none=>rfl
 |some x=>exact gg _ _ (λ e=>h (by rw[e]))
theorem fx.lay{ns:cG}{b:Int}{s:Bool}{t:T}{p:Option Nat}(h:fx ns t p)(j:t.nodes.Nodup):fx (iZ ns t.root (ei b) s) (t.lay b s) p:=by
 cases t with
 |nil=>trivial
 |node l x v a t r=>
  obtain⟨c,n,o⟩:=h;simp only[T.nodes,Ny,NG] at j
  have hl:∀ y∈l.nodes,iZ ns (some x) (ei b) s y=ns y:=λ y k=>ft (λ e=>by
   simp only[Na] at e;subst e;exact j.2.2 _ k _ ai rfl)
  have q:∀ y∈r.nodes,iZ ns (some x) (ei b) s y=ns y:=λ y k=>ft (λ e=>by
   simp only[Na] at e;subst e;exact j.2.1.1 k)
  have u:iZ ns (some x) (ei b) s x=tV (ns x) (ei b) s:=eo _ _ _;have w:=T.lay_flat b s (.node l x v a t r);obtain⟨m,d,f⟩:=c.least;obtain⟨z,g,i⟩:=c.most
  cases s with
  |false=>
   refine⟨?_,n.congr hl,o.congr q⟩;show EC (iZ ns (some x) (ei b) false x) _ _ _ _ _ _ ((T.node l x v a t r).lay b false).flat;rw[u,w]
   exact⟨c.up,c.l,c.r,by simp only[tV];rw[c.value,ki],by simp only[tV];rw[c.add,ki],c.turned,by rw[vY];exact c.size,
    ⟨_,d.sh b false,by simp only[tV];rw[f,ki]⟩,⟨_,g.sh b false,by simp only[tV];rw[i,ki]⟩⟩
  |true=>
   refine⟨?_,o.congr q,n.congr hl⟩;show EC (iZ ns (some x) (ei b) true x) _ _ _ _ _ _ ((T.node l x v a t r).lay b true).flat;rw[u,w]
   exact⟨c.up,c.r,c.l,by simp only[tV];rw[c.value,ki],by simp only[tV];rw[c.add,ki],by simp only[tV,if_true];rw[c.turned],by rw[vY];exact c.size,
    ⟨_,d.sh b true,by simp only[tV];rw[f,ki]⟩,⟨_,g.sh b true,by simp only[tV];rw[i,ki]⟩⟩
theorem yq(ns:cG)(x y:Nat):(fg ns x y).up=(ns y).up:=by
 have hl:∀ (m:cG) (c:Option Nat) (a:Int) (s:Bool) (y:Nat),(iZ m c a s y).up=(m y).up:=λ m c a s y=>by
  cases c with
  |none=>rfl
  |some z=>
   unfold iZ jv;simp only;split
   ·rename_i e;subst e;rfl
   ·rfl
 unfold fg;simp only[jv];split
 ·rename_i e;subst e;rw[hl,hl]
 ·rw[hl,hl]
theorem fx.push{ns:cG}{l r:T}{x:Nat}{v a:Int}{t:Bool}{p:Option Nat}(h:fx ns (.node l x v a t r) p)(w:(T.node l x v a t r).nodes.Nodup):
 fx (fg ns x) (.node (l.lay a t) x v 0 false (r.lay a t)) p/\(∀ y,y∉(T.node l x v a t r).nodes->fg ns x y=ns y)/\(T.node (l.lay a t) x v 0 false (r.lay a t)).flat=(T.node l x v a t r).flat:=by
 have m:(T.node (l.lay a t) x v 0 false (r.lay a t)).flat=(T.node l x v a t r).flat:=by
  simp only[T.flat,iT,T.lay_flat]
 have F:=w;simp only[T.nodes,Ny,NG] at w;obtain⟨z,⟨n,A⟩,D⟩:=w;obtain⟨d,G,H⟩:=h;have o:x∉l.nodes:=λ B=>D x B x ai rfl;have q:∀ y∈l.nodes,y∉r.nodes:=λ y c f=>D y c y (by simp[f]) rfl;have nl:∀ y,y∉l.nodes->l.root≠some y:=λ y c e=>c (T.root_mem e);have nr:∀ y,y∉r.nodes->r.root≠some y:=λ y c e=>c (T.root_mem e);obtain⟨u,g⟩:∃ u,u=iZ ns l.root (ei a) t:=⟨_,rfl⟩;have E:u x=ns x:=by rw[g];exact ft (nl x o)
 obtain⟨k,i⟩:∃ k,k=iZ u r.root (ei a) t:=⟨_,rfl⟩;have I:k x=ns x:=by rw[i,ft (nr x n),E]
 have hp:fg ns x=jv k x { k x with add:=0,turned:=false }:=by
  unfold fg;simp only;rw[d.l,d.r,d.add,d.turned,<- g,E,d.add,d.turned,<- i]
 have j:∀ y,y≠x->fg ns x y=k y:=λ y c=>by rw[hp,gg _ _ c]
 have B:fg ns x x={ ns x with add:=0,turned:=false }:=by rw[hp,eo,I]
 refine⟨⟨?_,?_,?_⟩,λ y c=>?_,m⟩
 ·rw[B,m,T.lay_root,T.lay_root];exact⟨d.up,d.l,d.r,d.value,rfl,rfl,d.size,d.least,d.most⟩
 ·refine (fx.lay (b:=a) (s:=t) G z).congr λ y c=>?_;have f:=(T.lay_nodes a t l).mem_iff.1 c;rw[j y (λ e=>o (e▸f)),i,ft (nr y (q y f)),g]
 ·have C:fx u r (some x):=H.congr fun y c=>by rw[g];exact ft (nl y (fun h=>q y h c))
  refine (fx.lay (b:=a) (s:=t) C A).congr λ y c=>?_;have f:=(T.lay_nodes a t r).mem_iff.1 c;rw[j y (λ e=>n (e▸f)),i]
 ·simp only[T.nodes,Nm,Nl,not_or] at c;rw[j y c.2.1,i,ft (nr y c.2.2),g,ft (nl y c.1)]
def hO(L:mn):Prop:=∀ e∈L,-4611686018427387904<=e.2/\e.2<=4611686018427387904
theorem j6.small{L:mn}{m:Int}(h:j6 L m)(a:hO L):ei m=m:=by
 obtain⟨⟨e,he,rfl⟩,_⟩:=h;have:=a e he;exact lA aa
theorem ln.small{L:mn}{m:Int}(h:ln L m)(a:hO L):ei m=m:=by
 obtain⟨⟨e,he,rfl⟩,_⟩:=h;have:=a e he;exact lA aa
theorem j6.app{L K:mn}{m n:Int}(h:j6 L m)(k:j6 K n):j6 (L++K) (zD m n):=by
 obtain⟨⟨e,he,rfl⟩,b⟩:=h;obtain⟨⟨d,f,rfl⟩,c⟩:=k;unfold zD;split
 ·refine⟨⟨d,by simp[f],rfl⟩,fun z a=>?_⟩
  rcases Nm.1 a with a|a
  ·have:=b z a;omega
  ·exact c z a
 ·refine⟨⟨e,by simp[he],rfl⟩,fun z a=>?_⟩
  rcases Nm.1 a with a|a
  ·exact b z a
  ·have:=c z a;omega
theorem ln.app{L K:mn}{m n:Int}(h:ln L m)(k:ln K n):ln (L++K) (Fg m n):=by
 obtain⟨⟨e,he,rfl⟩,b⟩:=h;obtain⟨⟨d,f,rfl⟩,c⟩:=k;unfold Fg;split
 ·refine⟨⟨d,by simp[f],rfl⟩,fun z a=>?_⟩
  rcases Nm.1 a with a|a
  ·have:=b z a;omega
  ·exact c z a
 ·refine⟨⟨e,by simp[he],rfl⟩,fun z a=>?_⟩
  rcases Nm.1 a with a|a
  ·exact b z a
  ·have:=c z a;omega
theorem j6.perm{L K:mn}{m:Int}(h:j6 L m)(hp:L.Perm K):j6 K m:=by
 obtain⟨⟨e,he,hm⟩,a⟩:=h;exact⟨⟨e,hp.mem_iff.1 he,hm⟩,λ d b=>a d (hp.mem_iff.2 b)⟩
theorem ln.perm{L K:mn}{m:Int}(h:ln L m)(hp:L.Perm K):ln K m:=by
 obtain⟨⟨e,he,hm⟩,a⟩:=h;exact⟨⟨e,hp.mem_iff.1 he,hm⟩,λ d b=>a d (hp.mem_iff.2 b)⟩
structure Cj (d:Nd) (K:mn):Prop where
 size:d.size=ei K.length
 least:j6 K d.least
 most:ln K d.most
theorem uP{ns:cG}{x:Nat}{t:T}{K:mn}{q:Option Nat}(h:fx ns t q)(g:hO t.flat)(hp:Cj (ns x) K)(i:x∉t.nodes):
 Cj (iJ ns x t.root x) (K++t.flat)/\(∀ y,y≠x->iJ ns x t.root y=ns y)/\(iJ ns x t.root x).up=(ns x).up/\(iJ ns x t.root x).l=(ns x).l/\(iJ ns x t.root x).r=(ns x).r/\(iJ ns x t.root x).value=(ns x).value/\(iJ ns x t.root x).add=(ns x).add/\(iJ ns x t.root x).turned=(ns x).turned:=by
 cases t with
 |nil=>exact⟨by simpa [T.flat,T.root,iJ] using hp,λ _ _=>rfl,rfl,rfl,rfl,rfl,rfl,rfl⟩
 |node l y v a t r=>
  obtain⟨f,_,_⟩:=h;obtain⟨m,hm,c⟩:=f.least;obtain⟨k,d,b⟩:=f.most;rw[hm.small g] at c;rw[d.small g] at b;have e:iJ ns x (some y) x={ ns x with size:=ei ((ns x).size+(ns y).size),least:=zD (ns x).least (ns y).least,most:=Fg (ns x).most (ns y).most }:=eo _ _ _;refine⟨?_,λ z j=>gg _ _ j,?_⟩
  ·show Cj (iJ ns x (some y) x) _;rw[e];refine⟨?_,?_,?_⟩
   ·simp only;rw[hp.size,f.size,ki,Ng,Pu]
   ·simp only;rw[c];exact hp.least.app hm
   ·simp only;rw[b];exact hp.most.app d
  ·show (iJ ns x (some y) x).up=_/\_;rw[show T.root (.node l y v a t r)=some y from rfl,e];exact gY
theorem fx.pull{ns:cG}{l r:T}{x:Nat}{v:Int}{p:Option Nat}(hl:fx ns l (some x))(G:fx ns r (some x))(f:x∉l.nodes)(g:x∉r.nodes)(S:(ns x).up=p)(H:(ns x).l=l.root)(I:(ns x).r=r.root)
 (s:(ns x).value=ei v) (U:(ns x).add=ei 0) (V:(ns x).turned=false) (j:hO (T.node l x v 0 false r).flat):
 fx (iq ns x) (.node l x v 0 false r) p/\∀ y,y≠x->iq ns x y=ns y:=by
 have k:(T.node l x v 0 false r).flat=l.flat++(x,v)::r.flat:=by simp only[T.flat,iT]
 rw[k] at j;have X:=j (x,v) ai;have m:ei v=v:=lA (by simp only at X;omega);obtain⟨n0,h⟩:∃ n0,n0=jv ns x { ns x with size:=1,least:=(ns x).value,most:=(ns x).value }:=⟨_,rfl⟩;have K:n0 x={ ns x with size:=1,least:=(ns x).value,most:=(ns x).value }:=by rw[h,eo]
 have t:∀ y,y≠x->n0 y=ns y:=λ y b=>by rw[h,gg _ _ b]
 have Y:Cj (n0 x) [(x,v)]:=by
  rw[K];refine⟨rfl,?_,?_⟩
  ·simp only;rw[s,m];exact⟨⟨(x,v),ai,rfl⟩,λ e he=>by rw[Nh.1 he];exact Ov _⟩
  ·simp only;rw[s,m];exact⟨⟨(x,v),ai,rfl⟩,λ e he=>by rw[Nh.1 he];exact Ov _⟩
 have u:fx n0 l (some x):=hl.congr λ y b=>t y (λ e=>f (e▸b));obtain⟨L,w,z,A,B,C,D,E⟩:=uP u (λ e he=>j e (by simp[he])) Y f;obtain⟨q,n⟩:∃ q,q=iJ n0 x l.root:=⟨_,rfl⟩;rw[<- n] at L w z A B C D E
 have F:fx q r (some x):=G.congr λ y b=>by
  have o:y≠x:=λ e=>g (e▸b);rw[w y o,t y o]
 obtain⟨s1,s2,M,N,O,P,Q,R⟩:=uP F (λ e he=>j e (by simp[he])) L g
 have hp:iq ns x=iJ q x r.root:=by
  unfold iq;rw[H,I,<- h,<- n]
 rw[<- hp] at s1 s2 M N O P Q R
 have a:([(x,v)]++l.flat++r.flat).Perm (l.flat++(x,v)::r.flat):=by
  rw[NI];show ((x,v)::(l.flat++r.flat)).Perm _;exact List.perm_middle.symm
 have i:∀ y,y≠x->iq ns x y=ns y:=λ y b=>by rw[s2 y b,w y b,t y b]
 rw[K] at z A B C D E;refine⟨⟨?_,hl.congr λ y b=>i y (λ e=>f (e▸b)),G.congr λ y b=>i y (λ e=>g (e▸b))⟩,i⟩;rw[k];have c:=s1.least.perm a;have d:=s1.most.perm a;refine⟨by rw[M,z];exact S,by rw[N,A];exact H,by rw[O,B];exact I,by rw[P,C];exact s,by rw[Q,D];exact U,by rw[R,E];exact V,?_,⟨_,c,?_⟩,⟨_,d,?_⟩⟩
 ·rw[s1.size,a.length_eq]
 ·exact (c.small j).symm
 ·exact (d.small j).symm
structure Fr where
 hl:Bool
 x:Nat
 v:Int
 sib:T
def Fr.fill(f:Fr)(t:T):T:=if f.hl then .node t f.x f.v 0 false f.sib else .node f.sib f.x f.v 0 false t
def Fr.fl(f:Fr)(L:mn):mn:=if f.hl then L++(f.x,f.v)::f.sib.flat else f.sib.flat++(f.x,f.v)::L
def eZ(t:T):List Fr->T
 |[]=>t
 |f::c=>eZ (f.fill t) c
def zh(L:mn):List Fr->mn
 |[]=>L
 |f::c=>zh (f.fl L) c
def nk(c:List Fr)(q:Option Nat):Option Nat:=match c with
 |[]=>q
 |f::_=>some f.x
def ey:List Fr->LN_
 |[]=>[]
 |f::c=>f.x::f.sib.nodes++ey c
theorem Fr.fill_flat(f:Fr)(t:T):(f.fill t).flat=f.fl t.flat:=by
 unfold fill fl;split<;>simp only[T.flat,iT]
theorem Fr.fill_root(f:Fr)(t:T):(f.fill t).root=some f.x:=by unfold fill;split<;>rfl
theorem Fr.fill_nodes(f:Fr)(t:T):(f.fill t).nodes.Perm (t.nodes++f.x::f.sib.nodes):=by
 unfold fill;split
 ·exact .refl _
 ·show (f.sib.nodes++f.x::t.nodes).Perm _;have a:(f.sib.nodes++f.x::t.nodes).Perm (f.x::(f.sib.nodes++t.nodes)):=PK;exact (a.trans (List.perm_append_comm.cons _)).trans List.perm_middle.symm
theorem oV:∀ (c:List Fr) (t:T),(eZ t c).flat=zh t.flat c
 |[],_=>rfl
 |f::c,t=>by rw[eZ,zh,oV c,f.fill_flat]
theorem mv:∀ (c:List Fr) (t:T),(eZ t c).nodes.Perm (t.nodes++ey c)
 |[],t=>by simp[eZ,ey]
 |f::c,t=>by
  rw[eZ,ey];refine (mv c _).trans (((f.fill_nodes t).append_right _).trans ?_);rw[NI]
def zu(ns:cG)(f:Fr)(p h:Option Nat)(L:mn):Prop:=
 EC (ns f.x) p (if f.hl then h else f.sib.root) (if f.hl then f.sib.root else h) f.v 0 false (f.fl L)/\fx ns f.sib (some f.x)
def ny(ns:cG)(q:Option Nat):List Fr->Option Nat->mn->Prop
 |[],_,_=>True
 |f::c,h,L=>zu ns f (nk c q) h L/\ny ns q c (some f.x) (f.fl L)
theorem jF{ns:cG}{f:Fr}{t:T}{p:Option Nat}:fx ns (f.fill t) p↔fx ns t (some f.x)/\zu ns f p t.root t.flat:=by
 unfold zu;rw[<- f.fill_flat];unfold Fr.fill
 cases f.hl
 ·simp only[P2,PH,fx];exact⟨λ ⟨a,b,c⟩=>⟨c,a,b⟩,λ ⟨c,a,b⟩=>⟨a,b,c⟩⟩
 ·simp only[O8,fx];exact⟨λ ⟨a,b,c⟩=>⟨b,a,c⟩,λ ⟨b,a,c⟩=>⟨a,b,c⟩⟩
theorem nO{ns:cG}{q:Option Nat}:∀ {c:List Fr} {t:T},fx ns (eZ t c) q↔fx ns t (nk c q)/\ny ns q c t.root t.flat
 |[],t=>by simp[eZ,nk,ny]
 |f::c,t=>by
  rw[eZ,nO (c:=c),jF,f.fill_root,f.fill_flat];simp only[ny,nk];exact⟨λ ⟨⟨a,b⟩,d⟩=>⟨a,b,d⟩,λ ⟨a,b,d⟩=>⟨⟨a,b⟩,d⟩⟩
theorem zu.congr{ns a:cG}{f:Fr}{p h:Option Nat}{L:mn}(k:zu ns f p h L)(b:a f.x=ns f.x)(c:∀ y∈f.sib.nodes,a y=ns y):zu a f p h L:=
 ⟨by rw[b];exact k.1,k.2.congr c⟩
theorem ny.congr{ns a:cG}{q:Option Nat}:∀ {c:List Fr} {h:Option Nat} {L:mn},ny ns q c h L->(∀ y∈ey c,a y=ns y)->ny a q c h L
 |[],_,_,_,_=>trivial
 |f::c,h,L,⟨e,g⟩,b=>⟨e.congr (b _ (by simp[ey])) λ y d=>b y (by simp[ey,d]),g.congr λ y d=>b y (by simp[ey,d])⟩
theorem ny.rehang{ns a:cG}{q:Option Nat}{c:List Fr}{h g:Option Nat}{L:mn}(k:ny ns q c h L)(i:(ey c).Nodup)(m:∀ f n,c=f::n->a f.x=dA (ns f.x) (if f.hl then 0 else 1) g)
 (o:∀ y∈ey c,some y≠nk c none->a y=ns y):ny a q c g L:=by
 cases c with
 |nil=>trivial
 |cons f c=>
  obtain⟨⟨k1,p⟩,s⟩:=k;have e:=m f c rfl;simp only[ey,NG,Ob] at i
  have d:∀ y∈f.sib.nodes++ey c,a y=ns y:=λ y b=>o y (by simp only[ey,Ob,Nl];exact .inr b) (λ e=>by
   simp only[nk,Na] at e;subst e;exact i.1 b)
  refine⟨⟨?_,p.congr λ y b=>d y (by simp[b])⟩,s.congr λ y b=>d y (by simp[b])⟩;rw[e];unfold dA
  cases j:f.hl
  ·rw[j] at k1;simp only[P2,PH] at k1 ⊢;exact⟨k1.up,k1.l,rfl,k1.value,k1.add,k1.turned,k1.size,k1.least,k1.most⟩
  ·rw[j] at k1;simp only[O8] at k1 ⊢;exact⟨k1.up,rfl,k1.r,k1.value,k1.add,k1.turned,k1.size,k1.least,k1.most⟩
theorem oF{ns:cG}{f:Fr}{p:Option Nat}{t:T}{x:Nat}(k:zu ns f p t.root t.flat)(b:t.root=some x)(a:x∉f.sib.nodes):eN ns x f.x=if f.hl then 0 else 1:=by
 unfold eN;rw[k.1.r]
 cases c:f.hl
 ·simp[b]
 ·simp only[O8];rw[if_neg (λ e=>a (T.root_mem e))]
def vC(f:Fr)(l:T)(x:Nat)(v:Int)(r:T):T:=if f.hl then .node l x v 0 false (.node r f.x f.v 0 false f.sib) else .node (.node f.sib f.x f.v 0 false l) x v 0 false r
theorem yl(f:Fr)(l:T)(x:Nat)(v:Int)(r:T):(vC f l x v r).flat=f.fl (T.node l x v 0 false r).flat:=by
 unfold vC Fr.fl;split<;>simp only[T.flat,iT]<;>simp
theorem qF(ns:cG)(g:Option Nat)(top x y:Nat):Gk ns g top x y=if g=some y then dA (ns y) top (some x) else ns y:=by
 cases g with
 |none=>rw[if_neg ai];rfl
 |some g=>
  show jv ns g (dA (ns g) top (some x)) y=_;by_cases e:y=g
  ·subst e;rw[eo,if_pos rfl]
  ·rw[gg _ _ e,if_neg (λ h=>e (by simpa using h.symm))]
theorem xy(ns:cG)(c:Option Nat)(b s y:Nat)(d:c≠some b):gp ns c b s y=if c=some y then { ns y with up:=some b } else if y=b then dA (ns b) s c else ns y:=by
 cases c with
 |none=>
  rw[if_neg ai];show jv ns b (dA (ns b) s none) y=_;by_cases e:y=b
  ·subst e;rw[eo,if_pos rfl]
  ·rw[gg _ _ e,if_neg e]
 |some z=>
  have f:z≠b:=λ e=>d (by rw[e]);show jv (jv ns b (dA (ns b) s (some z))) z { jv ns b (dA (ns b) s (some z)) z with up:=some b } y=_;by_cases e:y=z
  ·subst e;rw[eo,gg _ _ f,if_pos rfl]
  ·rw[gg _ _ e,if_neg (fun h=>e (by simpa using h.symm))];by_cases a:y=b
   ·subst a;rw[eo,if_pos rfl]
   ·rw[gg _ _ a,if_neg a]
def x6(ns:cG)(x p:Nat):cG:=Gk (jv (gp (gp ns (lV (ns x) (1-eN ns x p)) p (eN ns x p)) (some p) x (1-eN ns x p)) x
 { gp (gp ns (lV (ns x) (1-eN ns x p)) p (eN ns x p)) (some p) x (1-eN ns x p) x with up:=(ns p).up }) (ns p).up (rb ns p) x
theorem AJ(ns:cG)(x p:Nat):d9 ns x p=iq (iq (x6 ns x p) p) x:=rfl
theorem Kb{ns:cG}{x p s:Nat}{c0 g:Option Nat}(o:eN ns x p=s)(q:lV (ns x) (1-s)=c0)(r:(ns p).up=g)(b:x≠p)(h:c0≠some x)(d:c0≠some p)(i:g≠some x)(j:g≠some p)(k:∀ y,c0=some y->g≠some y):
 x6 ns x p x={ dA (ns x) (1-s) (some p) with up:=g }/\x6 ns x p p={ dA (ns p) s c0 with up:=some x }/\(∀ y,c0=some y->x6 ns x p y={ ns y with up:=some p })/\
  (∀ y,g=some y->x6 ns x p y=dA (ns y) (rb ns p) (some x))/\∀ y,y≠x->y≠p->c0≠some y->g≠some y->x6 ns x p y=ns y:=by
 unfold x6;rw[o,q,r];have l:=λ y=>xy ns c0 p s y d;have m:=λ y=>xy (gp ns c0 p s) (some p) x (1-s) y (λ e=>b (by simpa using e.symm));have t:gp ns c0 p s x=ns x:=by rw[l,if_neg h,if_neg b]
 have u:gp ns c0 p s p=dA (ns p) s c0:=by rw[l,if_neg d,if_pos rfl]
 have f1:gp (gp ns c0 p s) (some p) x (1-s) x=dA (ns x) (1-s) (some p):=by
  rw[m,if_neg (λ e=>b (by simpa using e.symm)),if_pos rfl,t]
 refine⟨?_,?_,λ y c=>?_,λ y c=>?_,λ y a hyp f n=>?_⟩
 ·rw[qF,if_neg i,eo,f1]
 ·rw[qF,if_neg j,gg _ _ (Ne.symm b),m,if_pos rfl,u]
 ·have a:y≠x:=λ e=>h (by rw[c,e]);have hyp:y≠p:=λ e=>d (by rw[c,e]);rw[qF,if_neg (k y c),gg _ _ a,m,if_neg (λ e=>hyp (by simpa using e.symm)),if_neg a,l,if_pos c]
 ·have a:y≠x:=λ e=>i (by rw[c,e]);have hyp:y≠p:=λ e=>j (by rw[c,e]);have f:c0≠some y:=λ e=>k y e c;rw[qF,if_pos c,gg _ _ a,m,if_neg (λ e=>hyp (by simpa using e.symm)),if_neg a,l,if_neg f,if_neg hyp]
 ·rw[qF,if_neg n,gg _ _ a,m,if_neg (λ e=>hyp (by simpa using e.symm)),if_neg a,l,if_neg f,if_neg hyp]
theorem vW{e:Nat×Int}:∀ {c:List Fr} {L:mn},e∈L->e∈zh L c
 |[],_,h=>h
 |f::c,L,h=>vW (c:=c) (by unfold Fr.fl;split<;>simp[h])
theorem hO.plug{c:List Fr}{L:mn}(h:hO (zh L c)):hO L:=λ e he=>h e (vW he)
theorem qE{c:List Fr}{g:Nat}(h:nk c none=some g):g∈ey c:=by
 cases c with
 |nil=>cases h
 |cons f c=>simp only[nk,Na] at h;subst h;simp[ey]
theorem mh{ns:cG}{f:Fr}{l r:T}{x:Nat}{v:Int}{c:List Fr}(hR:fx ns (eZ (f.fill (.node l x v 0 false r)) c) none)(hn:(eZ (f.fill (.node l x v 0 false r)) c).nodes.Nodup)
 (C:hO (eZ (f.fill (.node l x v 0 false r)) c).flat):
 fx (d9 ns x f.x) (eZ (vC f l x v r) c) none/\(∀ y,y∉(eZ (f.fill (.node l x v 0 false r)) c).nodes->d9 ns x f.x y=ns y)/\(eZ (vC f l x v r) c).flat=(eZ (f.fill (.node l x v 0 false r)) c).flat/\(ns x).up=some f.x/\(ns f.x).up=nk c none:=by
 have u:(eZ (f.fill (.node l x v 0 false r)) c).nodes.Perm (((l.nodes++x::r.nodes)++f.x::f.sib.nodes)++ey c):=(mv c _).trans ((f.fill_nodes _).append_right _);have hv:(eZ (vC f l x v r) c).flat=(eZ (f.fill (.node l x v 0 false r)) c).flat:=by rw[oV,oV,yl,f.fill_flat]
 have n:=u.nodup_iff.1 hn;have Q:=λ y=>(u.mem_iff (a:=y));rw[oV] at C;have C:=C.plug;rw[f.fill_flat] at C;obtain⟨hF,hC⟩:=nO.1 hR;rw[f.fill_root,f.fill_flat] at hC;obtain⟨⟨j,hl,hr⟩,D⟩:=jF.1 hF;obtain⟨p,hp⟩:∃ p,f.x=p:=⟨_,rfl⟩
 have b:∀ y,(y∈l.nodes->y≠x/\y∉r.nodes/\y≠p/\y∉f.sib.nodes/\y∉ey c)/\(y∈r.nodes->y≠x/\y∉l.nodes/\y≠p/\y∉f.sib.nodes/\y∉ey c)/\(y∈f.sib.nodes->y≠x/\y≠p/\y∉l.nodes/\y∉r.nodes/\y∉ey c)/\(y∈ey c->y≠x/\y≠p/\y∉l.nodes/\y∉r.nodes/\y∉f.sib.nodes)/\x≠p:=by
  rw[hp] at n;simp only[Ny,NG,Nm,Nl] at n;obtain⟨⟨⟨_,⟨h2,_⟩,h4⟩,⟨h5,_⟩,I⟩,_,K⟩:=n;intro y
  refine⟨λ h=>⟨h4 y h x (.inl rfl),λ k=>h4 y h y (.inr k) rfl,I y (.inl h) p (.inl rfl),λ k=>I y (.inl h) y (.inr k) rfl,λ k=>K y (.inl (.inl h)) y k rfl⟩,
   λ h=>⟨λ e=>h2 (e▸h),λ k=>h4 y k y (.inr h) rfl,I y (.inr (.inr h)) p (.inl rfl),λ k=>I y (.inr (.inr h)) y (.inr k) rfl,λ k=>K y (.inl (.inr (.inr h))) y k rfl⟩,
   λ h=>⟨λ e=>I x (.inr (.inl rfl)) y (.inr h) e.symm,λ e=>h5 (e▸h),λ k=>I y (.inl k) y (.inr h) rfl,λ k=>I y (.inr (.inr k)) y (.inr h) rfl,λ k=>K y (.inr (.inr h)) y k rfl⟩,
   λ h=>⟨λ e=>K x (.inl (.inr (.inl rfl))) y h e.symm,λ e=>K p (.inr (.inl rfl)) y h e.symm,λ k=>K y (.inl (.inl k)) y h rfl,λ k=>K y (.inl (.inr (.inr k))) y h rfl,λ k=>K y (.inr (.inr k)) y h rfl⟩,
   I x (.inr (.inl rfl)) p (.inl rfl)⟩
 have hz:(ey c).Nodup:=(Ny.1 n).2.1;have hq:l.nodes.Nodup:=by simp only[Ny] at n;exact n.1.1.1
 have hf:r.nodes.Nodup:=by simp only[Ny,NG] at n;exact n.1.1.2.1.2
 have w:x≠p:=(b 0).2.2.2.2;have L:eN ns x p=if f.hl then 0 else 1:=by rw[<- hp];exact oF (t:=.node l x v 0 false r) D rfl (λ h=>((b x).2.2.1 h).1 rfl)
 have hg:(ns p).up=nk c none:=by rw[<- hp];exact D.1.up
 obtain⟨c0,R⟩:∃ c0,lV (ns x) (1-(if f.hl then 0 else 1))=c0:=⟨_,rfl⟩
 have d:c0=if f.hl then r.root else l.root:=by
  rw[<- R]
  cases f.hl
  ·exact j.l
  ·exact j.r
 have m:∀ y,c0=some y->y∈l.nodes\/y∈r.nodes:=by
  intro y g;rw[d] at g;split at g
  ·exact .inr (T.root_mem g)
  ·exact .inl (T.root_mem g)
 have h0:c0≠some x:=λ e=>by rcases m _ e with h|h;exact ((b x).1 h).1 rfl;exact ((b x).2.1 h).1 rfl
 have ha:c0≠some p:=λ e=>by rcases m _ e with h|h;exact ((b p).1 h).2.2.1 rfl;exact ((b p).2.1 h).2.2.1 rfl
 have hH:nk c none≠some x:=λ e=>((b x).2.2.2.1 (qE e)).1 rfl;have ht:nk c none≠some p:=λ e=>((b p).2.2.2.1 (qE e)).2.1 rfl
 have hj:∀ y,c0=some y->nk c none≠some y:=λ y g e=>by
  have h2:=(b y).2.2.2.1 (qE e)
  rcases m y g with h|h
  ·exact h2.2.2.1 h
  ·exact h2.2.2.2.1 h
 obtain⟨o,a2,a3,a4,a5⟩:=Kb L R hg w h0 ha hH ht hj;have E:∀ y,y∉ey c->nk c none≠some y:=λ y g e=>g (qE e);obtain⟨q,S⟩:∃ q,q=x6 ns x p:=⟨_,rfl⟩;rw[<- S] at o a2 a3 a4 a5;have hN:d9 ns x p=iq (iq q p) x:=by rw[AJ,S]
 -- the hole's new content, once the twoD are reckoned
 have fin:∀ n6:cG,(∀ y,y≠x->y≠p->n6 y=q y)->ny n6 none c (some x) (f.fl (T.node l x v 0 false r).flat)/\∀ y,y∉(eZ (f.fill (.node l x v 0 false r)) c).nodes->n6 y=ns y:=by
  intro n6 h6;refine⟨hC.rehang hz (λ f2 c2 e2=>?_) (λ y g z=>?_),λ y g=>?_⟩
  ·subst e2;have hm:f2.x∈ey (f2::c2):=by simp[ey]
   have F:=(b f2.x).2.2.2.1 hm;rw[h6 _ F.1 F.2.1,a4 f2.x rfl]
   have U:rb ns p=if f2.hl then 0 else 1:=by
    unfold rb;rw[hg];have hk:zu ns f2 (nk c2 none) (f.fill (.node l x v 0 false r)).root (f.fill (.node l x v 0 false r)).flat:=by rw[f.fill_root,f.fill_flat];exact hC.1
    refine oF hk (by rw[f.fill_root,hp]) (λ h=>?_);exact ((b p).2.2.2.1 (by simp[ey,h])).2.1 rfl
   rw[U]
  ·have F:=(b y).2.2.2.1 g;rw[h6 y F.1 F.2.1,a5 y F.1 F.2.1 (λ e=>by rcases m y e with h|h;exact F.2.2.1 h;exact F.2.2.2.1 h) (λ e=>z e.symm)]
  ·have M:¬ (y∈((l.nodes++x::r.nodes)++f.x::f.sib.nodes)++ey c):=λ h=>g ((Q y).2 h);rw[hp] at M;simp only[Nm,Nl,not_or] at M;obtain⟨⟨⟨g1,g2,g3⟩,g4,g5⟩,g6⟩:=M;rw[h6 y g2 g4,a5 y g2 g4 (λ e=>by rcases m y e with h|h;exact g1 h;exact g3 h) (E y g6)]
 have N:∀ e∈l.flat,-4611686018427387904<=e.2/\e.2<=4611686018427387904:=λ e he=>C e (by unfold Fr.fl;split<;>simp[T.flat,iT,he]);have O:∀ e∈r.flat,-4611686018427387904<=e.2/\e.2<=4611686018427387904:=λ e he=>C e (by unfold Fr.fl;split<;>simp[T.flat,iT,he]);have G:∀ e∈f.sib.flat,-4611686018427387904<=e.2/\e.2<=4611686018427387904:=λ e he=>C e (by unfold Fr.fl;split<;>simp[he]);have H:-4611686018427387904<=f.v/\f.v<=4611686018427387904:=C (f.x,f.v) (by unfold Fr.fl;split<;>simp);have V:-4611686018427387904<=v/\v<=4611686018427387904:=C (x,v) (by unfold Fr.fl;split<;>simp[T.flat]);have l4:∀ y∈l.nodes,c0≠some y->q y=ns y:=λ y g hc=>by have:=(b y).1 g;exact a5 y this.1 this.2.2.1 hc (E y this.2.2.2.2)
 have r4:∀ y∈r.nodes,c0≠some y->q y=ns y:=λ y g hc=>by have:=(b y).2.1 g;exact a5 y this.1 this.2.2.1 hc (E y this.2.2.2.2)
 have s4:∀ y∈f.sib.nodes,q y=ns y:=λ y g=>by
  have:=(b y).2.2.1 g;exact a5 y this.1 this.2.1 (λ e=>by rcases m y e with h|h;exact this.2.2.1 h;exact this.2.2.2.1 h) (E y this.2.2.2.2)
 have A:fx q f.sib (some p):=by rw[<- hp];exact D.2.congr s4
 have X:p∉l.nodes:=λ h=>((b p).1 h).2.2.1 rfl;have Y:p∉r.nodes:=λ h=>((b p).2.1 h).2.2.1 rfl;have Z:p∉f.sib.nodes:=λ h=>((b p).2.2.1 h).2.1 rfl;have hx:x∉l.nodes:=λ h=>((b x).1 h).1 rfl;have h3:x∉r.nodes:=λ h=>((b x).2.1 h).1 rfl;have hA:x∉f.sib.nodes:=λ h=>((b x).2.2.1 h).1 rfl;rw[hp]
 suffices B:fx (d9 ns x p) (vC f l x v r) (nk c none)/\∀ y,y≠x->y≠p->d9 ns x p y=q y by
  obtain⟨k1,k2⟩:=fin _ B.2;refine⟨nO.2 ⟨B.1,?_⟩,k2,hv,by rw[<- hp];exact j.up,hg⟩;rw[yl];have:(vC f l x v r).root=some x:=by unfold vC;split<;>rfl
  rw[this];exact k1
 rw[hN];have i:=D.1;rw[hp] at i
 cases hb:f.hl
 ·rw[hb] at d i o a2;simp only[Bool.false_eq_true,if_false] at d i o a2;have e1:fx q l (some p):=hl.hung (fun y g z=>l4 y g (fun e=>z (by rw[← d,e]))) (fun y g=>a3 y (by rw[d,g])) hq
  obtain⟨q1,P⟩:=fx.pull (x:=p) (v:=f.v) (p:=some x) A e1 Z X (by rw[a2]) (by rw[a2];exact i.l) (by rw[a2,d];rfl) (by rw[a2];exact i.value) (by rw[a2];exact i.add) (by rw[a2];exact i.turned) (λ e he=>by
   simp only[T.flat,iT,Nm,Nl] at he
   rcases he with he|rfl|he
   ·exact G e he
   ·exact H
   ·exact N e he)
  have s:iq q p x=q x:=P x w
  have hW:fx (iq q p) r (some x):=hr.congr λ y g=>by
   rw[P y (λ e=>Y (e▸g)),r4 y g (λ e=>by
    have h1:=T.root_mem (t:=l) (by rw[<- d,e]);exact ((b y).1 h1).2.1 g)]
  obtain⟨u1,u2⟩:=fx.pull (x:=x) (v:=v) (p:=nk c none) q1 hW (by
   simp only[T.nodes,Nm,Nl,not_or];exact⟨hA,w,hx⟩) h3 (by rw[s,o]) (by rw[s,o];rfl) (by rw[s,o];exact j.r) (by rw[s,o];exact j.value) (by rw[s,o];exact j.add) (by rw[s,o];exact j.turned) (λ e he=>by
   simp only[T.flat,iT,Nm,Nl] at he
   rcases he with (he|rfl|he)|rfl|he
   ·exact G e he
   ·exact H
   ·exact N e he
   ·exact V
   ·exact O e he)
  refine⟨?_,λ y g hyp=>by rw[u2 y g,P y hyp]⟩;unfold vC;rw[hb,hp];exact u1
 ·rw[hb] at d i o a2;simp only[if_true] at d i o a2;have ho:fx q r (some p):=hr.hung (fun y g z=>r4 y g (fun e=>z (by rw[← d,e]))) (fun y g=>a3 y (by rw[d,g])) hf
  obtain⟨q1,P⟩:=fx.pull (x:=p) (v:=f.v) (p:=some x) ho A Y Z (by rw[a2]) (by rw[a2,d];rfl) (by rw[a2];exact i.r) (by rw[a2];exact i.value) (by rw[a2];exact i.add) (by rw[a2];exact i.turned) (λ e he=>by
   simp only[T.flat,iT,Nm,Nl] at he
   rcases he with he|rfl|he
   ·exact O e he
   ·exact H
   ·exact G e he)
  have s:iq q p x=q x:=P x w
  have c1:fx (iq q p) l (some x):=hl.congr λ y g=>by
   rw[P y (λ e=>X (e▸g)),l4 y g (λ e=>by
    have h1:=T.root_mem (t:=r) (by rw[<- d,e]);exact ((b y).2.1 h1).2.1 g)]
  obtain⟨u1,u2⟩:=fx.pull (x:=x) (v:=v) (p:=nk c none) c1 q1 hx (by
   simp only[T.nodes,Nm,Nl,not_or];exact⟨h3,w,hA⟩) (by rw[s,o]) (by rw[s,o];exact j.l) (by rw[s,o];rfl) (by rw[s,o];exact j.value) (by rw[s,o];exact j.add) (by rw[s,o];exact j.turned) (λ e he=>by
   simp only[T.flat,iT,Nm,Nl] at he
   rcases he with he|rfl|he|rfl|he
   ·exact N e he
   ·exact V
   ·exact O e he
   ·exact H
   ·exact G e he)
  refine⟨?_,λ y g hyp=>by rw[u2 y g,P y hyp]⟩;unfold vC;rw[hb,hp];exact u1
theorem LN:∀ (n:Nat) (c:List Fr),c.length<=n->∀ (ns:cG) (l r:T) (x:Nat) (v:Int),fx ns (eZ (.node l x v 0 false r) c) none->(eZ (.node l x v 0 false r) c).nodes.Nodup->hO (eZ (.node l x v 0 false r) c).flat->
 ∃ g d e,Fw ns x g c.length/\fx g (.node d x v 0 false e) none/\(T.node d x v 0 false e).flat=(eZ (.node l x v 0 false r) c).flat/\∀ y,y∉(eZ (.node l x v 0 false r) c).nodes->g y=ns y:=by
 intro n
 induction n with
 |zero=>
  intro c hc ns l r x v k w z;obtain rfl:c=[]:=Nw.1 aa;exact⟨ns,l,r,.done k.1.up,k,rfl,λ _ _=>rfl⟩
 |succ n ih=>
  intro c hc ns l r x v k w z;have a:∀ {t1 t2:T},t1.flat=t2.flat->t1.nodes.Perm t2.nodes:=λ {t1 t2} h=>(t1.perm.symm.trans (by rw[h])).trans t2.perm
  match c with
  |[]=>exact⟨ns,l,r,.done k.1.up,k,rfl,λ _ _=>rfl⟩
  |[f]=>
   obtain⟨k1,H,i,N,U⟩:=mh (c:=[]) k w z;have b:∃ d e,vC f l x v r=.node d x v 0 false e:=by unfold vC;split<;>exact⟨_,_,rfl⟩
   obtain⟨d,e,he⟩:=b;simp only[eZ] at k1 H i;rw[he] at k1 i;exact⟨_,d,e,.one N U (.done k1.1.up),k1,i,H⟩
  |f::f2::c=>
   have hlen:c.length<=n:=by simp at hc;omega
   by_cases V:f.hl=f2.hl
   · -- in line
     have A:∃ O P,f.fill (.node l x v 0 false r)=.node O f.x f.v 0 false P/\∃ f':Fr,vC f2 O f.x f.v P=f'.fill (.node l x v 0 false r)/\f'.x=f.x:=by
      cases K:f.hl
      ·refine⟨f.sib,.node l x v 0 false r,by unfold Fr.fill;rw[K];rfl,⟨false,f.x,f.v,.node f2.sib f2.x f2.v 0 false f.sib⟩,?_,rfl⟩;unfold vC Fr.fill;rw[<- V,K];rfl
      ·refine⟨.node l x v 0 false r,f.sib,by unfold Fr.fill;rw[K];rfl,⟨true,f.x,f.v,.node f.sib f2.x f2.v 0 false f2.sib⟩,?_,rfl⟩;unfold vC Fr.fill;rw[<- V,K];rfl
     obtain⟨O,P,X,f',Y,Z⟩:=A;have B:fx ns (eZ (f2.fill (f.fill (.node l x v 0 false r))) c) none:=k;obtain⟨m,hx⟩:=nO.1 B;have j:=jF.1 (jF.1 m).1;have C:(ns x).up=some f.x:=j.1.1.up;have D:(eZ (f2.fill (f.fill (.node l x v 0 false r))) c).nodes.Nodup:=w
     have o:x∉f.sib.nodes/\f.x∉f2.sib.nodes:=by
      have hp:=(mv c (f2.fill (f.fill (.node l x v 0 false r)))).nodup_iff.1 D;have Q:=(Ny.1 hp).1;have h3:=(f2.fill_nodes _).nodup_iff.1 Q;obtain⟨h4,h5,h6⟩:=Ny.1 h3;have h7:=(f.fill_nodes _).nodup_iff.1 h4;obtain⟨_,_,h8⟩:=Ny.1 h7;refine⟨λ h=>h8 x (by simp[T.nodes]) x (by simp[h]) rfl,λ h=>h6 f.x ?_ f.x (by simp[h]) rfl⟩;exact (f.fill_nodes _).mem_iff.2 ai
     have E:eN ns x f.x=if f.hl then 0 else 1:=oF (t:=.node l x v 0 false r) j.2 rfl o.1
     have F:eN ns f.x f2.x=if f2.hl then 0 else 1:=oF (t:=f.fill (.node l x v 0 false r)) (jF.1 m).2 (f.fill_root _) o.2
     rw[show eZ (.node l x v 0 false r) (f::f2::c)=eZ (f2.fill (.node O f.x f.v 0 false P)) c by rw[<- X];rfl] at k w z ⊢;obtain⟨k1,H,i,N,U⟩:=mh k w z;rw[Y] at k1 i;have p:=(a i).nodup_iff.2 w;have q:=i.symm▸z;obtain⟨I,R,s,S,j5⟩:=mh k1 p q;rw[Z] at I R S;have b:∃ d e,vC f' l x v r=.node d x v 0 false e:=by unfold vC;split<;>exact⟨_,_,rfl⟩
     obtain⟨d,e,he⟩:=b;rw[he] at I s;obtain⟨g,l2,r2,m1,m2,m3,m4⟩:=ih c hlen _ d e x v I ((a s).nodup_iff.2 p) (s.symm▸q);refine⟨g,l2,r2,.line C N (by rw[E,F,V]) S m1,m2,by rw[m3,s,i],λ y L=>?_⟩;have u:=λ h=>L ((a i).mem_iff.1 h);rw[m4 y (λ h=>u ((a s).mem_iff.1 h)),R y u,H y L]
   ·have B:fx ns (eZ (f2.fill (f.fill (.node l x v 0 false r))) c) none:=k;obtain⟨m,hx⟩:=nO.1 B;have j:=jF.1 (jF.1 m).1;have C:(ns x).up=some f.x:=j.1.1.up;have M:(ns f.x).up=some f2.x:=j.2.1.up;have D:(eZ (f2.fill (f.fill (.node l x v 0 false r))) c).nodes.Nodup:=w
    have o:x∉f.sib.nodes/\f.x∉f2.sib.nodes:=by
     have hp:=(mv c (f2.fill (f.fill (.node l x v 0 false r)))).nodup_iff.1 D;have Q:=(Ny.1 hp).1;have h3:=(f2.fill_nodes _).nodup_iff.1 Q;obtain⟨h4,h5,h6⟩:=Ny.1 h3;have h7:=(f.fill_nodes _).nodup_iff.1 h4;obtain⟨_,_,h8⟩:=Ny.1 h7;refine⟨λ h=>h8 x (by simp[T.nodes]) x (by simp[h]) rfl,λ h=>h6 f.x ?_ f.x (by simp[h]) rfl⟩;exact (f.fill_nodes _).mem_iff.2 ai
    have E:eN ns x f.x=if f.hl then 0 else 1:=oF (t:=.node l x v 0 false r) j.2 rfl o.1
    have F:eN ns f.x f2.x=if f2.hl then 0 else 1:=oF (t:=f.fill (.node l x v 0 false r)) (jF.1 m).2 (f.fill_root _) o.2
    rw[show eZ (.node l x v 0 false r) (f::f2::c)=eZ (f.fill (.node l x v 0 false r)) (f2::c) from rfl] at k w z ⊢;obtain⟨k1,H,i,N,U⟩:=mh k w z;have b:∃ d e,vC f l x v r=.node d x v 0 false e:=by unfold vC;split<;>exact⟨_,_,rfl⟩
    obtain⟨l1,r1,he⟩:=b;rw[he] at k1 i;have p:=(a i).nodup_iff.2 w;have q:=i.symm▸z;obtain⟨I,R,s,S,j5⟩:=mh (c:=c) k1 p q;have G:∃ d e,vC f2 l1 x v r1=.node d x v 0 false e:=by unfold vC;split<;>exact⟨_,_,rfl⟩
    obtain⟨d,e,hA⟩:=G;rw[hA] at I s;obtain⟨g,l2,r2,m1,m2,m3,m4⟩:=ih c hlen _ d e x v I ((a s).nodup_iff.2 p) (s.symm▸q);refine⟨g,l2,r2,.bent C M (by rw[E,F];cases K:f.hl<;>cases Q:f2.hl<;>simp_all) S m1,m2,by rw[m3,s];exact i,λ y L=>?_⟩;have u:=λ h=>L ((a i).mem_iff.1 h);rw[m4 y (λ h=>u ((a s).mem_iff.1 h)),R y u,H y L]
theorem cq{t1 t2:T}(h:t1.flat=t2.flat):t1.nodes.Perm t2.nodes:=(t1.perm.symm.trans (by rw[h])).trans t2.perm
def Fl(ns:cG)(q:Option Nat):Nat->LN_->Prop
 |_,[]=>False
 |x,[y]=>x=y/\(ns x).up=q
 |x,y::z::l=>x=y/\(ns x).up=some z/\Fl ns q z (z::l)
theorem Fl.up{ns:cG}:∀ {path:LN_} {x:Nat},Fl ns none x path->Up ns x path
 |[],_,h=>h
 |[y],_,h=>h
 |y::z::l,_,⟨a,b,c⟩=>⟨a,b,Fl.up c⟩
theorem Fl.snoc{ns:cG}{q:Option Nat}{y:Nat}(c:(ns y).up=q):∀ {path:LN_} {x:Nat},Fl ns (some y) x path->Fl ns q x (path++[y])
 |[],_,h=>h.elim
 |[z],_,⟨a,b⟩=>⟨a,b,rfl,c⟩
 |z::e::l,_,⟨a,b,d⟩=>⟨a,b,Fl.snoc c d⟩
theorem Fl.same{ns a:cG}{q:Option Nat}(h:∀ y,(a y).up=(ns y).up):∀ {path:LN_} {x:Nat},Fl a q x path->Fl ns q x path
 |[],_,h=>h
 |[y],x,⟨b,c⟩=>⟨b,by rw[<- h];exact c⟩
 |y::z::l,x,⟨b,c,d⟩=>⟨b,by rw[<- h];exact c,Fl.same h d⟩
theorem jl:∀ (c:List Fr) (f:Fr) (t:T),eZ t (c++[f])=f.fill (eZ t c)
 |[],_,_=>rfl
 |g::c,f,t=>jl c f (g.fill t)
theorem Kv:∀ (n:Nat) (t:T),t.nodes.length<=n->∀ (ns:cG) (p:Option Nat) (x:Nat),fx ns t p->t.nodes.Nodup->x∈t.nodes->
 ∃ path l v r c,Fl ns p x path/\path.length=List.length c+1/\path.length<=t.nodes.length/\fx (fY ns path.reverse) (eZ (.node l x v 0 false r) c) p/\(eZ (.node l x v 0 false r) c).flat=t.flat/\(∀ y,y∉t.nodes->fY ns path.reverse y=ns y)/\(eZ (.node l x v 0 false r) c).root=t.root:=by
 intro n
 induction n with
 |zero=>
  intro t Q ns p x _ _ f;have:t.nodes=[]:=Nw.1 aa;rw[this] at f;cases f
 |succ n L=>
  intro t Q ns p x M N f
  cases t with
  |nil=>cases f
  |node l y v a b r=>
   obtain⟨O,E,u⟩:=M.push N;have k:=M.1.up;have hlen:(T.node l y v a b r).nodes.length=l.nodes.length+r.nodes.length+1:=by simp[T.nodes];omega
   have d:(T.node (l.lay a b) y v 0 false (r.lay a b)).nodes.Nodup:=(cq u).nodup_iff.2 N;simp only[T.nodes,Ny,NG] at d;have w:∀ z,z∈(T.node (l.lay a b) y v 0 false (r.lay a b)).nodes↔z∈(T.node l y v a b r).nodes:=λ z=>(cq u).mem_iff;by_cases A:x=y
   ·subst A;exact⟨[x],_,v,_,[],⟨rfl,k⟩,rfl,by rw[hlen];simp,O,u,λ z g=>E z g,rfl⟩
   ·have F:x∈(l.lay a b).nodes\/x∈(r.lay a b).nodes:=by
     simp only[T.nodes,Nm,Nl] at f
     rcases f with f|f|f
     ·exact .inl ((T.lay_nodes a b l).mem_iff.2 f)
     ·exact absurd f A
     ·exact .inr ((T.lay_nodes a b r).mem_iff.2 f)
    obtain⟨P,B,C⟩:=O
    rcases F with m|m
    ·obtain⟨path,i,v2,j,c,k1,G,H,I,D,o,K⟩:=L (l.lay a b) (by rw[T.lay_size];omega) (fg ns y) (some y) x B d.1 m;have q:y∉(l.lay a b).nodes:=fun h=>d.2.2 y h y ai rfl;refine⟨path++[y],i,v2,j,c++[⟨true,y,v,r.lay a b⟩],(k1.same fun z=>yq ns y z).snoc k,by simp[G],?_,?_,?_,fun z g=>?_,?_⟩
     ·rw[Ng,NF,hlen];rw[T.lay_size] at H;omega
     ·rw[List.reverse_append,jl];show fx (fY (fg ns y) path.reverse) _ p;refine⟨?_,I,C.congr fun z g=>o z (fun h=>d.2.2 z h z (by simp[g]) rfl)⟩;rw[o y q];have e:(T.node (eZ (.node i x v2 0 false j) c) y v 0 false (r.lay a b)).flat=(T.node (l.lay a b) y v 0 false (r.lay a b)).flat:=by simp only[T.flat,D]
      show EC _ _ (eZ (.node i x v2 0 false j) c).root _ _ _ _ (T.node (eZ (.node i x v2 0 false j) c) y v 0 false (r.lay a b)).flat;rw[e,K];exact P
     ·rw[jl];show (T.node (eZ (.node i x v2 0 false j) c) y v 0 false (r.lay a b)).flat=_;rw[<- u];simp only[T.flat,D]
     ·have s:=λ h=>g ((w z).1 h);rw[PQ];show fY (fg ns y) path.reverse z=_;rw[o z (λ h=>s (by simp[T.nodes,h])),E z g]
     ·rw[jl];rfl
    ·obtain⟨path,i,v2,j,c,k1,G,H,I,D,o,K⟩:=L (r.lay a b) (by rw[T.lay_size];omega) (fg ns y) (some y) x C d.2.1.2 m;have q:y∉(r.lay a b).nodes:=d.2.1.1;refine⟨path++[y],i,v2,j,c++[⟨false,y,v,l.lay a b⟩],(k1.same fun z=>yq ns y z).snoc k,by simp[G],?_,?_,?_,fun z g=>?_,?_⟩
     ·rw[Ng,NF,hlen];rw[T.lay_size] at H;omega
     ·rw[List.reverse_append,jl];show fx (fY (fg ns y) path.reverse) _ p;refine⟨?_,B.congr fun z g=>o z (fun h=>d.2.2 z g z (by simp[h]) rfl),I⟩;rw[o y q];have e:(T.node (l.lay a b) y v 0 false (eZ (.node i x v2 0 false j) c)).flat=(T.node (l.lay a b) y v 0 false (r.lay a b)).flat:=by simp only[T.flat,D]
      show EC _ _ _ (eZ (.node i x v2 0 false j) c).root _ _ _ (T.node (l.lay a b) y v 0 false (eZ (.node i x v2 0 false j) c)).flat;rw[e,K];exact P
     ·rw[jl];show (T.node (l.lay a b) y v 0 false (eZ (.node i x v2 0 false j) c)).flat=_;rw[<- u];simp only[T.flat,D]
     ·have s:=λ h=>g ((w z).1 h);rw[PQ];show fY (fg ns y) path.reverse z=_;rw[o z (λ h=>s (by simp[T.nodes,h])),E z g]
     ·rw[jl];rfl
theorem nV{ns:cG}{t:T}{x:Nat}(f:fx ns t none)(d:t.nodes.Nodup)(g:hO t.flat)(i:x∈t.nodes)(hl:t.nodes.length<=10000):
 ∃ a k l v r,gq ns x a k/\fx a (.node l x v 0 false r) none/\(T.node l x v 0 false r).flat=t.flat/\(∀ y,y∉t.nodes->a y=ns y)/\k<=2*t.nodes.length:=by
 obtain⟨path,l,v,r,c,k1,p,q,j,b,m,_⟩:=Kv _ t (Np _) ns none x f d i;have hp:=cq b;obtain⟨a,n,o,m1,m2,m3,m4⟩:=LN _ c (Np _) _ l r x v j (hp.nodup_iff.2 d) (b.symm▸g);refine⟨a,path.length+c.length,n,v,o,⟨path,c.length,k1.up,aa,m1,rfl⟩,m2,by rw[m3,b],λ y e=>?_,aa⟩;rw[m4 y (λ h=>e (hp.mem_iff.1 h)),m y e]
theorem cB(l:T)(x:Nat)(v:Int)(r:T):(T.node l x v 0 false r).flat=l.flat++(x,v)::r.flat:=by simp only[T.flat,iT]
theorem jt{t:T}{c:Nat}(h:t.root=some c):∃ l v a b r,t=.node l c v a b r:=by
 cases t with
 |nil=>cases h
 |node l x v a b r=>simp only[T.root,Na] at h;subst h;exact⟨_,_,_,_,_,rfl⟩
theorem kq{t:T}(h:t.root=none):t=.nil:=by
 cases t with
 |nil=>rfl
 |node l x v a b r=>cases h
theorem Av{ns:cG}{l r:T}{x:Nat}{v:Int}{p:Option Nat}(f:fx ns (.node l x v 0 false r) p)(c:(T.node l x v 0 false r).nodes.Nodup){a:cG}{b:T}(g:fx a b (some x))(i:b.flat=l.flat)(j:b.root=l.root)(d:∀ y,y∉l.nodes->a y=ns y):
 fx a (.node b x v 0 false r) p/\(T.node b x v 0 false r).flat=(T.node l x v 0 false r).flat/\∀ y,y∉(T.node l x v 0 false r).nodes->a y=ns y:=by
 simp only[T.nodes,Ny,NG] at c;have e:(T.node b x v 0 false r).flat=(T.node l x v 0 false r).flat:=by rw[cB,cB,i]
 refine⟨⟨?_,g,f.2.2.congr λ z k=>d z (λ h=>c.2.2 z h z (by simp[k]) rfl)⟩,e,λ y m=>d y (λ h=>m (by simp[T.nodes,h]))⟩;rw[d x (λ h=>c.2.2 x h x ai rfl),e,j];exact f.1
theorem B3{ns:cG}{l r:T}{x:Nat}{v:Int}{p:Option Nat}(f:fx ns (.node l x v 0 false r) p)(c:(T.node l x v 0 false r).nodes.Nodup){a:cG}{b:T}(g:fx a b (some x))(i:b.flat=r.flat)(j:b.root=r.root)(d:∀ y,y∉r.nodes->a y=ns y):
 fx a (.node l x v 0 false b) p/\(T.node l x v 0 false b).flat=(T.node l x v 0 false r).flat/\∀ y,y∉(T.node l x v 0 false r).nodes->a y=ns y:=by
 simp only[T.nodes,Ny,NG] at c;have e:(T.node l x v 0 false b).flat=(T.node l x v 0 false r).flat:=by rw[cB,cB,i]
 refine⟨⟨?_,f.2.1.congr λ z k=>d z (λ h=>c.2.2 z k z (by simp[h]) rfl),g⟩,e,λ y m=>d y (λ h=>m (by simp[T.nodes,h]))⟩;rw[d x c.2.1.1,e,j];exact f.1
theorem xx{l r:T}{x:Nat}{v a:Int}{b:Bool}(c:(T.node l x v a b r).nodes.Nodup):l.nodes.Nodup/\r.nodes.Nodup/\(T.node l x v a b r).nodes.length=l.nodes.length+r.nodes.length+1:=by
 simp only[T.nodes,Ny,NG] at c;exact⟨c.1,c.2.1.2,by simp[T.nodes];omega⟩
def CU(side:Nat)(L:mn)(y:Nat):Prop:=∃ v,(if side=0 then L.head? else L.getLast?)=some (y,v)
theorem K4(side:Nat)(o:side<2):∀ (n:Nat) (l r:T) (x:Nat) (v:Int) (ns:cG) (p:Option Nat),(T.node l x v 0 false r).nodes.length<=n->fx ns (.node l x v 0 false r) p->(T.node l x v 0 false r).nodes.Nodup->
 ∃ a y k g,Lh side ns x a y k/\fx a g p/\g.flat=(T.node l x v 0 false r).flat/\g.root=some x/\k+1<=(T.node l x v 0 false r).nodes.length/\(∀ z,z∉(T.node l x v 0 false r).nodes->a z=ns z)/\CU side (T.node l x v 0 false r).flat y:=by
 intro n
 induction n with
 |zero=>intro l r x v ns p h;simp[T.nodes] at h
 |succ n H=>
  intro l r x v ns p hlen d q;obtain⟨nl,nr,s⟩:=xx q;have m:=d.1;rw[cB];obtain rfl|rfl:side=0\/side=1:=aa
  ·cases hl:l.root with
   |none=>
    obtain rfl:=kq hl;exact⟨ns,x,0,_,.done m.l,d,cB _ _ _ _,rfl,aa,λ _ _=>rfl,v,rfl⟩
   |some c=>
    obtain⟨ll,i,ac,t,lr,rfl⟩:=jt hl;obtain⟨u,w,b⟩:=d.2.1.push nl;have e:=(cq b).nodup_iff.2 nl;have A:=(cq b).length_eq;obtain⟨a,y,k,g,k1,B,C,D,I,E,F⟩:=H _ _ c i _ _ aa u e;obtain⟨m1,m2,m3⟩:=Av d q B (C.trans b) D (λ z j=>by rw[E z (λ h=>j ((cq b).mem_iff.1 h)),w z j]);refine⟨a,y,k+1,_,.go (by unfold lV;rw[if_pos rfl];exact m.l.trans hl) k1,m1,by rw[m2,cB],rfl,aa,m3,?_⟩;obtain⟨G,f⟩:=F;rw[b] at f;refine⟨G,?_⟩;simp only[O8] at f ⊢;rw[List.head?_append,f];rfl
  ·cases hl:r.root with
   |none=>
    obtain rfl:=kq hl;refine⟨ns,x,0,_,.done (by unfold lV;rw[if_neg ab];exact m.r),d,cB _ _ _ _,rfl,aa,λ _ _=>rfl,v,?_⟩;rw[if_neg ab,N0];rfl
   |some c=>
    obtain⟨ll,i,ac,t,lr,rfl⟩:=jt hl;obtain⟨u,w,b⟩:=d.2.2.push nr;have e:=(cq b).nodup_iff.2 nr;have A:=(cq b).length_eq;obtain⟨a,y,k,g,k1,B,C,D,I,E,F⟩:=H _ _ c i _ _ aa u e;obtain⟨m1,m2,m3⟩:=B3 d q B (C.trans b) D (λ z j=>by rw[E z (λ h=>j ((cq b).mem_iff.1 h)),w z j]);refine⟨a,y,k+1,_,.go (by unfold lV;rw[if_neg ab];exact m.r.trans hl) k1,m1,by rw[m2,cB],rfl,aa,m3,?_⟩;obtain⟨G,f⟩:=F;rw[b] at f;refine⟨G,?_⟩;rw[if_neg ab] at f ⊢;rw[show (l.flat++(x,v)::(T.node ll c i ac t lr).flat)=(l.flat++[(x,v)])++(T.node ll c i ac t lr).flat by simp,N0,f];rfl
theorem GP{side:Nat}(a:side<2){ns:cG}{l r:T}{x:Nat}{v:Int}(n:fx ns (.node l x v 0 false r) none)(g:(T.node l x v 0 false r).nodes.Nodup)(o:hO (T.node l x v 0 false r).flat)(hl:(T.node l x v 0 false r).nodes.length<=10000):
 ∃ b y k d v' e,LI side ns x b y k/\fx b (.node d y v' 0 false e) none/\(T.node d y v' 0 false e).flat=(T.node l x v 0 false r).flat/\(∀ z,z∉(T.node l x v 0 false r).nodes->b z=ns z)/\k<=3*(T.node l x v 0 false r).nodes.length/\CU side (T.node l x v 0 false r).flat y:=by
 obtain⟨p,y,k,q,k1,s,f,A,B,t,i⟩:=K4 side a _ l r x v ns none (Np _) n g;have hp:=cq f
 have c:y∈q.nodes:=by
  obtain⟨u,c⟩:=i;refine T.mem_nodes.2 ⟨u,?_⟩;rw[f];split at c
  ·exact List.mem_of_mem_head? (by rw[c];rfl)
  ·exact Oz c
 obtain⟨w,j,d,v',e,m1,m2,m3,m4,m5⟩:=nV s (hp.nodup_iff.2 g) (f.symm▸o) c (by have:=hp.length_eq;omega);refine⟨w,y,k+j,d,v',e,⟨p,k,j,k1,m1,rfl⟩,m2,by rw[m3,f],λ z m=>?_,by have:=hp.length_eq;omega,i⟩;rw[m4 z (λ h=>m (hp.mem_iff.1 h)),t z m]
theorem Ko{side:Nat}(a:side<2){ns:cG}{t:T}{x:Nat}(m:fx ns t none)(f:t.nodes.Nodup)(g:hO t.flat)(n:x∈t.nodes)(hl:t.nodes.length<=10000):
 ∃ b y k c v' d,Edge side ns x b y k/\fx b (.node c y v' 0 false d) none/\(T.node c y v' 0 false d).flat=t.flat/\(∀ z,z∉t.nodes->b z=ns z)/\k<=5*t.nodes.length/\CU side t.flat y:=by
 obtain⟨o,k,l,v,r,k1,p,e,q,w⟩:=nV m f g n hl;have hp:=cq e;have s:=hp.length_eq;obtain⟨u,y,j,c,v',d,m1,m2,m3,m4,m5,m6⟩:=GP a p (hp.nodup_iff.2 f) (e.symm▸g) aa;refine⟨u,y,k+j,c,v',d,⟨o,k,j,k1,m1,rfl⟩,m2,by rw[m3,e],λ z i=>?_,aa,by rw[<- e];exact m6⟩;rw[m4 z (λ h=>i (hp.mem_iff.1 h)),q z i]
theorem vx{n:Nat}(h:n<=10000):ei (n:Int)=n:=lA aa
theorem Gg{ns:cG}{l r:T}{x:Nat}{v:Int}{p:Option Nat}(a:fx ns (.node l x v 0 false r) p)(hl:(T.node l x v 0 false r).nodes.length<=10000):ahead ns x=(l.flat.length:Nat):=by
 unfold ahead;rw[a.1.l]
 cases l with
 |nil=>rfl
 |node ll c b ac d lr=>
  show (ns c).size=_;rw[a.2.1.1.size,vx];rw[T.len];simp only[T.nodes,Ng,Nf] at hl ⊢;omega
theorem Lx:∀ (n:Nat) (l r:T) (x:Nat) (v:Int) (ns:cG) (q:Option Nat) (p:Int),(T.node l x v 0 false r).nodes.length<=n->n<=10000->fx ns (.node l x v 0 false r) q->(T.node l x v 0 false r).nodes.Nodup->0<=p->p<(T.node l x v 0 false r).flat.length->
 ∃ d y k i,(∀ a j,gq d y a j->HZ ns x p a y (k+j))/\fx d i q/\i.flat=(T.node l x v 0 false r).flat/\i.root=some x/\k+1<=(T.node l x v 0 false r).nodes.length/\(∀ z,z∉(T.node l x v 0 false r).nodes->d z=ns z)/\∃ m,(T.node l x v 0 false r).flat[p.toNat]?=some (y,m):=by
 intro n
 induction n with
 |zero=>intro l r x v ns q p h;simp[T.nodes] at h
 |succ n N=>
  intro l r x v ns q p hlen V e w A f;obtain⟨nl,nr,B⟩:=xx w;have O:=e.1;have C:=Gg e aa;rw[cB] at f ⊢;simp only[Ng,Nf] at f;have P:=T.len l;have Q:=T.len r;by_cases D:p<ahead ns x
  ·cases hl:l.root with
   |none=>
    obtain rfl:=kq hl;rw[C] at D;simp[T.flat] at D;omega
   |some c=>
    obtain⟨ll,E,ac,R,lr,rfl⟩:=jt hl;obtain⟨F,G,b⟩:=e.2.1.push nl;have g:=(cq b).nodup_iff.2 nl;have H:=(cq b).length_eq;obtain⟨a,y,k,i,k1,I,K,L,S,M,m,o⟩:=N _ _ c E _ _ p aa aa F g A (by rw[b];omega);obtain⟨m1,m2,m3⟩:=Av e w I (K.trans b) L (λ z s=>by rw[M z (λ h=>s ((cq b).mem_iff.1 h)),G z s]);refine⟨a,y,k+1,_,λ u j t=>?_,m1,by rw[m2,cB],rfl,aa,m3,m,?_⟩
    ·have:=HZ.left D (O.l.trans hl) (k1 u j t)
     rwa [show k+j+1=k+1+j by omega] at this
    ·rw[b] at o;rw[NY aa];exact o
  ·by_cases c2:p=ahead ns x
   ·refine⟨ns,x,0,_,λ u j t=>by rw[NO];exact .here c2 t,e,cB _ _ _ _,rfl,aa,λ _ _=>rfl,v,?_⟩;rw[C] at c2;rw[Nu aa,show p.toNat-l.flat.length=0 by omega];rfl
   ·have U:ei (ei (p-ahead ns x)-1)=p-l.flat.length-1:=by rw[C,lA (n:=p-_) aa,lA aa]
    cases hl:r.root with
    |none=>
     obtain rfl:=kq hl;simp[T.flat] at f;omega
    |some c=>
     obtain⟨ll,E,ac,R,lr,rfl⟩:=jt hl;obtain⟨F,G,b⟩:=e.2.2.push nr;have g:=(cq b).nodup_iff.2 nr;have H:=(cq b).length_eq;obtain⟨a,y,k,i,k1,I,K,L,S,M,m,o⟩:=N _ _ c E _ _ (p-l.flat.length-1) aa aa F g aa (by rw[b];omega);obtain⟨m1,m2,m3⟩:=B3 e w I (K.trans b) L (λ z s=>by rw[M z (λ h=>s ((cq b).mem_iff.1 h)),G z s]);refine⟨a,y,k+1,_,λ u j t=>?_,m1,by rw[m2,cB],rfl,aa,m3,m,?_⟩
     ·have:=HZ.right (p:=p) aa (O.r.trans hl) (by rw[U];exact k1 u j t)
      rwa [show k+j+1=k+1+j by omega] at this
     ·rw[b] at o;rw[Nu aa,show p.toNat-l.flat.length=(p-l.flat.length-1).toNat+1 by omega,N8];exact o
def jQ(L:mn)(y:Nat)(m:Int):Prop:=∃ A B,L=A++(y,m)::B/\(∀ e∈A,m<e.2)/\∀ e∈B,m<=e.2
theorem LQ:∀ (n:Nat) (l r:T) (x:Nat) (v:Int) (ns:cG) (q:Option Nat) (m:Int),(T.node l x v 0 false r).nodes.length<=n->fx ns (.node l x v 0 false r) q->(T.node l x v 0 false r).nodes.Nodup->hO (T.node l x v 0 false r).flat->j6 (T.node l x v 0 false r).flat m->
 ∃ o y k C,(∀ f j,gq o y f j->F4 m ns x f y (k+j))/\fx o C q/\C.flat=(T.node l x v 0 false r).flat/\C.root=some x/\k+1<=(T.node l x v 0 false r).nodes.length/\(∀ z,z∉(T.node l x v 0 false r).nodes->o z=ns z)/\jQ (T.node l x v 0 false r).flat y m:=by
 intro n
 induction n with
 |zero=>intro l r x v ns q m h;simp[T.nodes] at h
 |succ n ih=>
  intro l r x v ns q m hlen i R O hm;obtain⟨nl,nr,S⟩:=xx R;have D:=i.1;rw[cB] at O hm ⊢;have p:hO l.flat:=λ e he=>O e (by simp[he]);have U:hO r.flat:=λ e he=>O e (by simp[he]);have hv:ei v=v:=lA (by have:=O (x,v) ai;simp only at this;omega);by_cases c1:∃ c,(ns x).l=some c/\(ns c).least=m
  ·obtain⟨c,E,F⟩:=c1;obtain⟨ll,P,ac,tc,lr,rfl⟩:=jt (D.l.symm.trans E);obtain⟨w,G,b⟩:=i.2.1.push nl;have s:=(cq b).nodup_iff.2 nl;have V:=(cq b).length_eq;obtain⟨ml,g,a⟩:=i.2.1.1.least;rw[g.small p] at a;have X:ml=m:=by rw[← a,F]
   obtain⟨f,y,k,C,k1,Y,Z,k4,k5,k6,A,B,H,k8,k9⟩:=ih _ _ c P _ _ m aa w s (b.symm▸p) (by rw[b,<- X];exact g);obtain⟨m1,m2,m3⟩:=Av i R Y (Z.trans b) k4 (λ z I=>by rw[k6 z (λ h=>I ((cq b).mem_iff.1 h)),G z I]);rw[b] at H;refine⟨f,y,k+1,_,λ Q j K=>?_,m1,by rw[m2,cB],rfl,aa,m3,A,B++(x,v)::r.flat,by rw[H];simp,k8,λ e he=>?_⟩
   ·have:=F4.left E F (k1 Q j K)
    rwa [show k+j+1=k+1+j by omega] at this
   ·rcases Nm.1 he with he|he
    ·exact k9 e he
    ·exact hm.2 e (by simp at he ⊢;rcases he with he|he;exact .inr (.inl he);exact .inr (.inr he))
  ·have t:∀ c,(ns x).l=some c->(ns c).least≠m:=λ c w G=>c1 ⟨c,w,G⟩
   have u:∀ e∈l.flat,m<e.2:=by
    intro e he;have h0:=hm.2 e (by simp[he]);by_cases w:m=e.2
    ·exfalso
     cases l with
     |nil=>cases he
     |node ll c P ac tc lr=>
      obtain⟨ml,g,a⟩:=i.2.1.1.least;rw[g.small p] at a;refine t c D.l (a.trans ?_);have:=g.2 e he;obtain⟨d,hd,rfl⟩:=g.1;have:=hm.2 d (by simp[hd]);omega
    ·omega
   by_cases c2:(ns x).value=m
   ·refine⟨ns,x,0,_,λ Q j K=>by rw[NO];exact .here t c2 K,i,cB _ _ _ _,rfl,aa,λ _ _=>rfl,l.flat,r.flat,?_,u,λ e he=>hm.2 e (by simp[he])⟩;rw[D.value,hv] at c2;rw[c2]
   ·have hx:v≠m:=fun e=>c2 (by rw[D.value,hv,e]);have L:m<v:=by have:=hm.2 (x,v) ai;simp only at this;omega
    have M:j6 r.flat m:=by
     refine⟨?_,λ e he=>hm.2 e (by simp[he])⟩;obtain⟨e,he,N⟩:=hm.1;simp only[Nm,Nl] at he
     rcases he with he|rfl|he
     ·have:=u e he;omega
     ·simp only at N;omega
     ·exact⟨e,he,N⟩
    cases hl:r.root with
    |none=>
     obtain rfl:=kq hl;obtain⟨⟨e,he,_⟩,_⟩:=M
     cases he
    |some c=>
     obtain⟨ll,P,ac,tc,lr,rfl⟩:=jt hl;obtain⟨w,G,b⟩:=i.2.2.push nr;have s:=(cq b).nodup_iff.2 nr;have V:=(cq b).length_eq;obtain⟨f,y,k,C,k1,Y,Z,k4,k5,k6,A,B,H,k8,k9⟩:=ih _ _ c P _ _ m aa w s (b.symm▸U) (b.symm▸M);obtain⟨m1,m2,m3⟩:=B3 i R Y (Z.trans b) k4 (λ z I=>by rw[k6 z (λ h=>I ((cq b).mem_iff.1 h)),G z I]);rw[b] at H;refine⟨f,y,k+1,_,λ Q j K=>?_,m1,by rw[m2,cB],rfl,aa,m3,l.flat++(x,v)::A,B,by rw[H];simp,λ e he=>?_,k9⟩
     ·have:=F4.right t c2 (D.r.trans hl) (k1 Q j K)
      rwa [show k+j+1=k+1+j by omega] at this
     ·simp only[Nm,Nl] at he
      rcases he with he|rfl|he
      ·exact u e he
      ·exact L
      ·exact k8 e he
def dR(row:LN_)(val:Nat->Int):mn:=row.map λ y=>(y,val y)
theorem f7(row:LN_)(val:Nat->Int):(dR row val).map Prod.fst=row:=by unfold dR;rw[OD];simp[PE]
theorem eX{row:LN_}{val:Nat->Int}{y:Nat}{v:Int}:(y,v)∈dR row val↔y∈row/\v=val y:=by
 unfold dR;rw[NB]
 constructor
 ·rintro⟨z,a,h⟩;simp only[N1] at h;obtain⟨rfl,rfl⟩:=h;exact⟨a,rfl⟩
 ·rintro⟨b,rfl⟩;exact⟨y,b,rfl⟩
structure lO (N:Nat) (ns:cG) (row:Nat->LN_) (val:Nat->Int):Prop where
 tree:∀ x,x<N->∃ t,fx ns t none/\t.flat=dR (row x) val
 mem:∀ x,x<N->x∈row x
 lt:∀ x,x<N->∀ y∈row x,y<N
 same:∀ x,x<N->∀ y∈row x,row y=row x
 nodup:∀ x,x<N->(row x).Nodup
 small:∀ x,x<N→-4611686018427387904<=val x/\val x<=4611686018427387904
theorem qV:∀ {N:Nat} {l:LN_},l.Nodup->(∀ y∈l,y<N)->l.length<=N
 |0,l,_,h=>by
  cases l with
  |nil=>exact Np _
  |cons y l=>exact absurd (h y ai) aa
 |N+1,l,b,h=>by
  by_cases c:N∈l
  ·have d:=qV (N:=N) (l:=l.erase N) (b.erase N) λ y a=>by
    have f:=h y (List.mem_of_mem_erase a);have g:y≠N:=λ e=>by subst e;exact b.not_mem_erase a
    omega
   rw[Pn c] at d;omega
  ·have:=qV (N:=N) b λ y a=>by
    have f:=h y a;have g:y≠N:=λ e=>c (e▸a);omega
   omega
section
variable {N:Nat} {ns:cG} {row:Nat->LN_} {val:Nat->Int}
theorem lO.len(h:lO N ns row val){x:Nat}(a:x<N):(row x).length<=N:=qV (h.nodup x a) (h.lt x a)
theorem lO.get(h:lO N ns row val){x:Nat}(a:x<N):∃ t,fx ns t none/\t.flat=dR (row x) val/\(∀ y,y∈t.nodes↔y∈row x)/\t.nodes.Nodup/\hO t.flat/\t.nodes.length=(row x).length:=by
 obtain⟨t,c,b⟩:=h.tree x a;have hp:(row x).Perm t.nodes:=by have:=t.perm;rwa [b,f7] at this
 refine⟨t,c,b,λ y=>hp.mem_iff.symm,hp.nodup_iff.1 (h.nodup x a),λ e he=>?_,hp.length_eq.symm⟩;rw[b] at he;obtain⟨d,f⟩:=eX.1 (show (e.1,e.2)∈_ from he);rw[f];exact h.small _ (h.lt x a _ d)
theorem lO.change{f:cG}{a:Nat->LN_}{c:Nat->Int}(h:lO N ns row val)(S:Nat->Prop)(l:∀ z,z<N->¬ S z->a z=row z/\∀ y∈row z,¬ S y)(m:∀ y,y<N->¬ S y->c y=val y)(n:∀ y,¬ S y->f y=ns y)
 (g:∀ z,z<N->S z->(∃ t,fx f t none/\t.flat=dR (a z) c)/\z∈a z/\(∀ y∈a z,y<N/\a y=a z)/\(a z).Nodup∧-4611686018427387904<=c z/\c z<=4611686018427387904):lO N f a c:=by
 have key:∀ x,x<N->¬ S x->a x=row x/\(∀ y∈row x,¬ S y/\c y=val y/\a y=row y):=λ x b e=>by
  obtain⟨k,i⟩:=l x b e;exact⟨k,λ y d=>⟨i y d,m y (h.lt x b y d) (i y d),(l y (h.lt x b y d) (i y d)).1⟩⟩
 refine⟨λ x b=>?_,λ x b=>?_,λ x b y d=>?_,λ x b y d=>?_,λ x b=>?_,λ x b=>?_⟩<;>by_cases e:S x
 ·exact (g x b e).1
 ·obtain⟨k1,j⟩:=key x b e;obtain⟨t,k,i,o,_⟩:=h.get b;refine⟨t,k.congr λ y d=>n y (j y ((o y).1 d)).1,?_⟩;rw[i,k1];unfold dR;exact Oq λ y d=>by rw[(j y d).2.1]
 ·exact (g x b e).2.1
 ·rw[(key x b e).1];exact h.mem x b
 ·exact ((g x b e).2.2.1 y d).1
 ·rw[(key x b e).1] at d;exact h.lt x b y d
 ·exact ((g x b e).2.2.1 y d).2
 ·obtain⟨k1,j⟩:=key x b e;rw[k1] at d ⊢;rw[(j y d).2.2];exact h.same x b y d
 ·exact (g x b e).2.2.2.1
 ·rw[(key x b e).1];exact h.nodup x b
 ·exact (g x b e).2.2.2.2
 ·rw[m x b e];exact h.small x b
theorem lO.retree(h:lO N ns row val){a:cG}{x:Nat}(b:x<N){t:T}(i:fx a t none)(j:t.flat=dR (row x) val)(k:∀ y,y∉row x->a y=ns y):lO N a row val:=by
 refine h.change (λ z=>z∈row x) (λ z d f=>⟨rfl,λ y e g=>f ?_⟩) (λ _ _ _=>rfl) k (λ z d c=>?_)
 ·rw[<- h.same x b y g,h.same z d y e];exact h.mem z d
 ·rw[h.same x b z c];exact⟨⟨t,i,j⟩,c,λ y e=>⟨h.lt x b y e,h.same x b y e⟩,h.nodup x b,h.small z d⟩
def Ec(ns:cG)(x:Nat)(L:mn):Prop:=∃ l v r,fx ns (.node l x v 0 false r) none/\(T.node l x v 0 false r).flat=L
theorem lO.splay(h:lO N ns row val)(q:N<=10000){x:Nat}(b:x<N):∃ a k,gq ns x a k/\lO N a row val/\Ec a x (dR (row x) val)/\k<=2*(row x).length/\∀ y,y∉row x->a y=ns y:=by
 obtain⟨t,j,c,d,m,n,s⟩:=h.get b;obtain⟨a,k,l,v,r,k1,f,g,o,u⟩:=nV j m n ((d x).2 (h.mem x b)) (by have:=h.len b;omega);have i:∀ y,y∉row x->a y=ns y:=λ y p=>o y (λ e=>p ((d y).1 e));exact⟨a,k,k1,h.retree b f (g.trans c) i,⟨l,v,r,f,g.trans c⟩,aa,i⟩
theorem vI{side y:Nat}{row:LN_}{val:Nat->Int}(h:CU side (dR row val) y):(if side=0 then row.head? else row.getLast?)=some y:=by
 obtain⟨v,a⟩:=h;unfold dR at a;split at a
 ·rename_i c;rw[if_pos c];rw[List.head?_map] at a
  cases b:row.head? with
  |none=>rw[b] at a;cases a
  |some z=>rw[b] at a;simp at a;rw[a.1]
 ·rename_i c;rw[if_neg c];rw[List.getLast?_map] at a
  cases b:row.getLast? with
  |none=>rw[b] at a;cases a
  |some z=>rw[b] at a;simp at a;rw[a.1]
theorem lO.edge(h:lO N ns row val)(s:N<=10000){side:Nat}(b:side<2){x:Nat}(c:x<N):∃ a y k,Edge side ns x a y k/\lO N a row val/\k<=5*(row x).length/\(if side=0 then (row x).head? else (row x).getLast?)=some y:=by
 obtain⟨t,i,d,f,j,m,u⟩:=h.get c;obtain⟨a,y,k,l,v,r,k1,n,o,p,w,g⟩:=Ko b i j m ((f x).2 (h.mem x c)) (by have:=h.len c;omega);rw[d] at g;exact⟨a,y,k,k1,h.retree c n (o.trans d) (λ y q=>p y (λ e=>q ((f y).1 e))),aa,vI g⟩
theorem lO.end_(h:lO N ns row val)(A:N<=10000){side:Nat}(b:side<2){x:Nat}(d:x<N)(m:Ec ns x (dR (row x) val)):∃ a y k,LI side ns x a y k/\lO N a row val/\Ec a y (dR (row x) val)/\k<=3*(row x).length/\
 (if side=0 then (row x).head? else (row x).getLast?)=some y/\∀ z,z∉row x->a z=ns z:=by
 obtain⟨l,v,r,n,c⟩:=m;have hp:(row x).Perm (T.node l x v 0 false r).nodes:=by have:=(T.node l x v 0 false r).perm;rwa [c,f7] at this
 have o:hO (T.node l x v 0 false r).flat:=λ e he=>by
  rw[c] at he;obtain⟨p,q⟩:=eX.1 (show (e.1,e.2)∈_ from he);rw[q];exact h.small _ (h.lt x d _ p)
 have hl:=hp.length_eq;have B:=h.len d;obtain⟨a,y,k,s,v',t,k1,f,g,u,C,i⟩:=GP b n (hp.nodup_iff.1 (h.nodup x d)) o aa;rw[c] at i;have j:∀ z,z∉row x->a z=ns z:=λ z w=>u z (λ e=>w (hp.mem_iff.2 e));exact⟨a,y,k,k1,h.retree d f (g.trans c) j,⟨s,v',t,f,g.trans c⟩,aa,vI i,j⟩
theorem tq{L K:mn}{x:Nat}{v:Int}{row:LN_}{val:Nat->Int}(h:L++(x,v)::K=dR row val):row=L.map Prod.fst++x::K.map Prod.fst/\v=val x/\L=dR (L.map Prod.fst) val/\K=dR (K.map Prod.fst) val:=by
 have a:row=L.map Prod.fst++x::K.map Prod.fst:=by
  have:=M8 (List.map Prod.fst) h;rw[f7] at this;rw[<- this];simp
 have hm:∀ e∈L++(x,v)::K,e.2=val e.1:=λ e he=>by
  rw[h] at he;exact (eX.1 (show (e.1,e.2)∈_ from he)).2
 have hid:∀ M:mn,(∀ e∈M,e.2=val e.1)->M=dR (M.map Prod.fst) val:=λ M hM=>by
  unfold dR;rw[OD]
  have:M.map id=M.map ((λ y=>(y,val y)) ∘ Prod.fst):=Oq λ e he=>by
   show e=(e.1,val e.1);rw[<- hM e he]
  rwa [List.map_id] at this
 exact⟨a,hm (x,v) ai,hid L λ e he=>hm e (by simp[he]),hid K λ e he=>hm e (by simp[he])⟩
theorem Ec.value{x:Nat}{L:LN_}(h:Ec ns x (dR L val))(c:-4611686018427387904<=val x/\val x<=4611686018427387904):(ns x).value=val x:=by
 obtain⟨l,v,r,b,a⟩:=h;rw[cB] at a;rw[b.1.value,(tq a).2.1];exact lA aa
theorem Ec.up{x:Nat}{L:mn}(h:Ec ns x L):(ns x).up=none:=by
 obtain⟨l,v,r,a,_⟩:=h;exact a.1.up
theorem lO.split(h:lO N ns row val){x:Nat}(q:x<N)(ht:Ec ns x (dR (row x) val)):∃ A B,row x=A++x::B/\(∀ y,y∉row x->jS ns x y=ns y)/\
 lO N (jS ns x) (λ z=>if z∈A then A else if z∈x::B then x::B else row z) val:=by
 obtain⟨l,v,r,d,I⟩:=ht;have hp:(row x).Perm (T.node l x v 0 false r).nodes:=by have:=(T.node l x v 0 false r).perm;rwa [I,f7] at this
 have s:=hp.nodup_iff.1 (h.nodup x q)
 have t:hO (T.node l x v 0 false r).flat:=λ e he=>by
  rw[I] at he;obtain⟨K,L⟩:=eX.1 (show (e.1,e.2)∈_ from he);rw[L];exact h.small _ (h.lt x q _ K)
 rw[cB] at I t;obtain⟨i,e2,X,Y⟩:=tq I;simp only[T.nodes,Ny,NG] at s;obtain⟨nl,⟨M,nr⟩,n⟩:=s;have u:=l.perm;have j:=r.perm
 -- the twoD trees behind the split
 have O:fx (jS ns x) l none/\fx (jS ns x) (.node .nil x v 0 false r) none/\∀ y,y∉(T.node l x v 0 false r).nodes->jS ns x y=ns y:=by
  unfold jS;rw[d.1.l]
  cases hl:l.root with
  |none=>
   obtain rfl:=kq hl;exact⟨be,d,λ _ _=>rfl⟩
  |some c=>
   obtain⟨ll,Z,ac,tc,lr,rfl⟩:=jt hl;have w:c∈(T.node ll c Z ac tc lr).nodes:=T.root_mem hl;have C:c≠x:=n c w x ai;obtain⟨k,f⟩:∃ k,k=jv (jv ns c { ns c with up:=none }) x (dA (jv ns c { ns c with up:=none } x) 0 none):=⟨_,rfl⟩;have o:k x=dA (ns x) 0 none:=by rw[f,eo,gg _ _ (Ne.symm C)]
   have a2:k c={ ns c with up:=none }:=by rw[f,gg _ _ C,eo]
   have a3:∀ y,y≠x->y≠c->k y=ns y:=λ y a P=>by rw[f,gg _ _ a,gg _ _ P]
   have Q:fx k (T.node ll c Z ac tc lr) none:=d.2.1.hung (λ y a R=>a3 y (λ e=>n y a x ai e) (λ e=>R (by rw[e];rfl))) (λ y a=>by
    simp only[T.root,Na] at a;subst a;exact a2) nl
   have S:fx k r (some x):=d.2.2.congr λ y a=>a3 y (λ e=>M (e▸a)) (λ e=>n c w y (by simp[a]) e.symm)
   obtain⟨q1,q2⟩:=fx.pull (l:=.nil) (v:=v) (p:=none) trivial S (by simp[T.nodes]) M (by rw[o];exact d.1.up) (by rw[o];rfl) (by rw[o];exact d.1.r) (by rw[o];exact d.1.value) (by rw[o];exact d.1.add) (by rw[o];exact d.1.turned)
    (λ e he=>t e (by rw[cB] at he;simp only[T.flat,Oj] at he;simp only[Nm];exact .inr he))
   simp only[<- f];refine⟨Q.congr λ y a=>q2 y (λ e=>n y a x ai e),q1,λ y a=>?_⟩;simp only[T.nodes,Nm,Nl,not_or] at a;rw[q2 y a.2.1,a3 y a.2.1 (λ e=>a.1.2.1 e)]
 obtain⟨s1,s2,s3⟩:=O;have hf:∀ y,y∉row x->jS ns x y=ns y:=λ y a=>s3 y (λ e=>a (hp.mem_iff.2 e));have D:(l.flat.map Prod.fst).Nodup:=u.nodup_iff.2 nl;have E:(x::r.flat.map Prod.fst).Nodup:=NG.2 ⟨λ e=>M (j.mem_iff.1 e),j.nodup_iff.2 nr⟩
 have m:∀ y∈l.flat.map Prod.fst,y∉x::r.flat.map Prod.fst:=λ y a U=>by
  have K:=u.mem_iff.1 a
  rcases Nl.1 U with rfl|L
  ·exact n y K y ai rfl
  ·exact n y K y (by simp[j.mem_iff.1 L]) rfl
 refine⟨l.flat.map Prod.fst,r.flat.map Prod.fst,i,hf,?_⟩;obtain⟨A,hA⟩:∃ A,l.flat.map Prod.fst=A:=⟨_,rfl⟩;obtain⟨B,hB⟩:∃ B,r.flat.map Prod.fst=B:=⟨_,rfl⟩;rw[hA] at i X D m ⊢;rw[hB] at i Y E m ⊢;refine h.change (λ z=>z∈row x) (λ z F b=>⟨?_,λ y a V=>b ?_⟩) (λ _ _ _=>rfl) hf (λ z F G=>?_)
 ·rw[i] at b;simp only[Nm,not_or] at b;show (if z∈A then A else if z∈x::B then x::B else row z)=row z;rw[if_neg b.1,if_neg b.2]
 ·rw[<- h.same x q y V,h.same z F y a];exact h.mem z F
 ·by_cases g:z∈A
  ·simp only[if_pos g];exact⟨⟨l,s1,X⟩,g,λ y a=>⟨h.lt x q y (by rw[i];simp[a]),by rw[if_pos a]⟩,D,h.small z F⟩
  ·have H:z∈x::B:=by rw[i] at G;exact (List.mem_append.1 G).resolve_left g
   simp only[if_neg g,if_pos H];refine⟨⟨_,s2,?_⟩,H,λ y a=>⟨h.lt x q y (by rw[i];exact Ph _ a),?_⟩,E,h.small z F⟩
   ·rw[cB,Y,e2];rfl
   ·rw[if_neg (λ e=>m y e a),if_pos a]
end
section
variable {N:Nat} {ns:cG} {row:Nat->LN_} {val:Nat->Int}
theorem Ec.congr{a:cG}{x:Nat}{L:LN_}(h:Ec ns x (dR L val))(c:∀ y∈L,a y=ns y):Ec a x (dR L val):=by
 obtain⟨l,v,r,d,b⟩:=h;refine⟨l,v,r,d.congr λ y e=>c y ?_,b⟩;obtain⟨w,hw⟩:=T.mem_nodes.1 e;rw[b] at hw;exact (eX.1 hw).1
theorem lO.apart(h:lO N ns row val){a b:Nat}(f:a<N)(e:b<N)(c:b∉row a):∀ y∈row a,y∉row b:=λ y g d=>c (by
 rw[<- h.same a f y g,h.same b e y d];exact h.mem b e)
theorem Jo{L K:LN_}(v:Nat->Int):dR (L++K) v=dR L v++dR K v:=by simp[dR]
theorem lO.joined(h:lO N ns row val)(Y:N<=10000){a b:Nat}(w:a<N)(x:b<N)(hx:b∉row a):
 ∃ G k,u7 ns a b G k/\lO N G (λ z=>if z∈row a\/z∈row b then row a++row b else row z) val/\k<=5*((row a).length+(row b).length):=by
 have f:=h.apart w x hx;obtain⟨n1,k1,s1,h1,t1,b1,f1⟩:=h.splay Y w;obtain⟨n2,k2,s2,h2,t2,b2,f2⟩:=h1.splay Y x;have H:=t1.congr λ y c=>f2 y (f y c);obtain⟨n3,i,k3,s3,h3,t3,b3,e3,f3⟩:=h2.end_ Y (by decide:1<2) w H;have hR:=t2.congr λ y c=>f3 y (λ e=>f y e c);obtain⟨E,d,k4,s4,h4,t4,b4,Z,f4⟩:=h3.end_ Y (by decide:0<2) x hR;have hA:=t3.congr λ y c=>f4 y (f y c);refine⟨_,_,⟨n1,n2,n3,E,k1,k2,k3,k4,i,d,s1,s2,H.up,s3,s4,rfl,rfl⟩,?_,aa⟩;rw[if_neg ab] at e3;rw[if_pos rfl] at Z;obtain⟨I,K,M,hv,O⟩:=hA;obtain⟨lb,P,o,m,j⟩:=t4;have s:(row a).Perm (T.node I i K 0 false M).nodes:=by have:=(T.node I i K 0 false M).perm;rwa [O,f7] at this
 have B:(row b).Perm (T.node lb d P 0 false o).nodes:=by have:=(T.node lb d P 0 false o).perm;rwa [j,f7] at this
 have hr:=s.nodup_iff.1 (h.nodup a w);have t:=B.nodup_iff.1 (h.nodup b x)
 -- nothing hangs on the left of the first one
 have hf:lb=.nil:=by
  rw[cB] at j;obtain⟨g1,g2,g3,g4⟩:=tq j
  cases lb with
  |nil=>rfl
  |node l z v0 a0 t0 r=>
   exfalso;have u:(T.node l z v0 a0 t0 r).flat.map Prod.fst≠[]:=by simp[T.flat]
   obtain⟨q,Q,hq⟩:=List.exists_cons_of_ne_nil u;rw[g1,hq] at Z;simp only[Ob,PT,Na] at Z;subst Z;simp only[T.nodes,Ny,NG] at t;have hm:q∈(T.node l z v0 a0 t0 r).nodes:=(T.perm _).mem_iff.1 (by rw[hq];simp);exact t.2.2 q hm q ai rfl
 subst hf;rw[cB] at j;simp only[T.flat,Oj] at j;have R:d∉o.nodes:=by simp only[T.nodes,Oj,NG] at t;exact t.1
 have C:i∈row a:=s.mem_iff.2 (by simp[T.nodes]);have v:d∈row b:=B.mem_iff.2 (by simp[T.nodes]);have u:i≠d:=λ e=>f i C (e▸v);have hh:=λ y=>xy E (some i) d 0 y (λ e=>u (by simpa using e));obtain⟨D,hn⟩:∃ D,D=gp E (some i) d 0:=⟨_,rfl⟩;rw[<- hn] at hh ⊢;have F:D d=dA (E d) 0 (some i):=by rw[hh,if_neg (λ e=>u (by simpa using e)),if_pos rfl]
 have q2:D i={ E i with up:=some d }:=by rw[hh,if_pos rfl]
 have q3:∀ y,y≠i->y≠d->D y=E y:=λ y h1 h2=>by rw[hh,if_neg (λ e=>h1 (by simpa using e.symm)),if_neg h2]
 have h0:fx D (.node I i K 0 false M) (some d):=hv.hung (λ y c S=>q3 y (λ e=>S (by rw[e];rfl)) (λ e=>f y (s.mem_iff.2 c) (e▸v))) (λ y c=>by
  simp only[T.root,Na] at c;subst c;exact q2) hr
 have hc:fx D o (some d):=m.2.2.congr λ y c=>q3 y (λ e=>f i C (by rw[<- e];exact B.mem_iff.2 (by simp[T.nodes,c]))) (λ e=>R (e▸c))
 have hk:P=val d/\o.flat=dR (o.flat.map Prod.fst) val/\row b=d::o.flat.map Prod.fst:=by
  obtain⟨g1,g2,g3,g4⟩:=tq (L:=[]) j;exact⟨g2,g4,g1⟩
 have U:(T.node (.node I i K 0 false M) d P 0 false o).flat=dR (row a++row b) val:=by
  rw[cB,O,Jo,j]
 have hs:hO (T.node (.node I i K 0 false M) d P 0 false o).flat:=λ e he=>by
  rw[U] at he;obtain⟨g1,g2⟩:=eX.1 (show (e.1,e.2)∈_ from he);rw[g2]
  rcases Nm.1 g1 with g|g
  ·exact h.small _ (h.lt a w _ g)
  ·exact h.small _ (h.lt b x _ g)
 obtain⟨p1,p2⟩:=fx.pull (p:=none) h0 hc (λ e=>f d (s.mem_iff.2 e) v) R (by rw[F];exact m.1.up) (by rw[F];rfl) (by rw[F];exact m.1.r) (by rw[F];exact m.1.value) (by rw[F];exact m.1.add) (by rw[F];exact m.1.turned) hs;refine h4.change (λ z=>z∈row a\/z∈row b) (λ z A V=>⟨by rw[if_neg V],λ y c n=>V ?_⟩) (λ _ _ _=>rfl) (λ y c=>?_) (λ z A X=>?_)
 ·rcases n with n|n
  ·left;rw[<- h.same a w y n,h.same z A y c];exact h.mem z A
  ·right;rw[<- h.same b x y n,h.same z A y c];exact h.mem z A
 ·have g1:y≠i:=λ e=>c (.inl (e▸C));have g2:y≠d:=λ e=>c (.inr (e▸v));rw[p2 y g2,q3 y g1 g2]
 ·simp only[if_pos X];refine⟨⟨_,p1,U⟩,List.mem_append.2 X,fun y c=>⟨?_,by rw[if_pos (List.mem_append.1 c)]⟩,?_,h.small z A⟩
  ·rcases Nm.1 c with g|g
   ·exact h.lt a w y g
   ·exact h.lt b x y g
  ·exact Ny.2 ⟨h.nodup a w,h.nodup b x,λ y c z A e=>f y c (e▸A)⟩
theorem lO.turn(h:lO N ns row val){x:Nat}(c:x<N)(n:Ec ns x (dR (row x) val)):lO N (iZ ns (some x) 0 true) (λ z=>if z∈row x then (row x).reverse else row z) val:=by
 obtain⟨l,v,r,o,k⟩:=n;have hp:(row x).Perm (T.node l x v 0 false r).nodes:=by have:=(T.node l x v 0 false r).perm;rwa [k,f7] at this
 have m:=fx.lay (b:=0) (s:=true) o (hp.nodup_iff.1 (h.nodup x c));have p:ei 0=0:=lA ab;rw[p] at m
 have i:((T.node l x v 0 false r).lay 0 true).flat=dR (row x).reverse val:=by
  rw[T.lay_flat,k];unfold sh dR;rw[if_pos rfl,List.map_reverse,List.map_reverse,OD]
  congr 1
  exact Oq λ y _=>by simp
 refine h.change (λ z=>z∈row x) (λ z g d=>⟨by rw[if_neg d],λ y a j=>d ?_⟩) (λ _ _ _=>rfl) (λ y a=>ft (λ e=>a (by simp only[Na] at e;subst e;exact h.mem _ c))) (λ z g f=>?_)
 ·rw[<- h.same x c y j,h.same z g y a];exact h.mem z g
 ·simp only[if_pos f];exact⟨⟨_,m,i⟩,by simpa using f,λ y a=>⟨h.lt x c y (by simpa using a),by rw[if_pos (by simpa using a)]⟩,(List.reverse_perm _).nodup_iff.2 (h.nodup x c),h.small z g⟩
theorem lO.add(h:lO N ns row val){x:Nat}(f:x<N)(B:Ec ns x (dR (row x) val)){d:Int}(C:-9223372036854775808<=d/\d<=9223372036854775807)(o:∀ y∈row x,-4611686018427387904<=val y+d/\val y+d<=4611686018427387904):
 lO N (iZ ns (some x) d false) row (λ z=>if z∈row x then val z+d else val z)/\(0<=d->(ns x).most<=4611686018427387904-d)/\(d<0→-4611686018427387904-d<=(ns x).least):=by
 obtain⟨l,v,r,p,i⟩:=B;have hp:(row x).Perm (T.node l x v 0 false r).nodes:=by have:=(T.node l x v 0 false r).perm;rwa [i,f7] at this
 have A:=fx.lay (b:=d) (s:=false) p (hp.nodup_iff.1 (h.nodup x f));rw[lA C] at A
 have q:((T.node l x v 0 false r).lay d false).flat=dR (row x) (λ z=>if z∈row x then val z+d else val z):=by
  rw[T.lay_flat,i];unfold sh dR;rw[if_neg ab,OD];exact Oq λ y a=>by simp[a]
 have j:hO (T.node l x v 0 false r).flat:=λ e he=>by
  rw[i] at he;obtain⟨k,n⟩:=eX.1 (show (e.1,e.2)∈_ from he);rw[n];exact h.small _ (h.lt x f _ k)
 refine⟨h.change (λ z=>z∈row x) (λ z t u=>⟨rfl,λ y a w=>u ?_⟩) (λ y _ a=>by rw[if_neg a]) (λ y a=>ft (λ e=>a (by simp only[Na] at e;subst e;exact h.mem _ f))) (λ z t c=>?_),λ _=>?_,λ _=>?_⟩
 ·rw[<- h.same x f y w,h.same z t y a];exact h.mem z t
 ·rw[h.same x f z c];exact⟨⟨_,A,q⟩,c,λ y a=>⟨h.lt x f y a,h.same x f y a⟩,h.nodup x f,by rw[if_pos c];exact o z c⟩
 ·obtain⟨m,hm,g⟩:=p.1.most;rw[g,hm.small j];obtain⟨⟨e,he,rfl⟩,_⟩:=hm;rw[i] at he;obtain⟨k,n⟩:=eX.1 (show (e.1,e.2)∈_ from he);have:=o e.1 k;rw[n];omega
 ·obtain⟨m,hm,g⟩:=p.1.least;rw[g,hm.small j];obtain⟨⟨e,he,rfl⟩,_⟩:=hm;rw[i] at he;obtain⟨k,n⟩:=eX.1 (show (e.1,e.2)∈_ from he);have:=o e.1 k;rw[n];omega
theorem jQ.mem{L:mn}{y:Nat}{m:Int}(h:jQ L y m):(y,m)∈L:=by
 obtain⟨A,B,rfl,_⟩:=h;simp
theorem lO.at1(h:lO N ns row val)(w:N<=10000){x:Nat}(b:x<N):∃ c k,MN ns x 1 c (row x)[1]? k/\lO N c row val/\k<=5*(row x).length:=by
 obtain⟨d,k1,s1,p,⟨l,v,r,q,f⟩,O,f1⟩:=h.splay w b;have hp:(row x).Perm (T.node l x v 0 false r).nodes:=by have:=(T.node l x v 0 false r).perm;rwa [f,f7] at this
 have hl:=hp.length_eq;have A:=h.len b;have n:(T.node l x v 0 false r).flat.length=(row x).length:=by rw[f];simp[dR]
 have B:(d x).size=(row x).length:=by rw[q.1.size,n];exact vx aa
 have o:hO (T.node l x v 0 false r).flat:=λ e he=>by
  rw[f] at he;obtain⟨C,D⟩:=eX.1 (show (e.1,e.2)∈_ from he);rw[D];exact h.small _ (h.lt x b _ C)
 by_cases E:(row x).length<=1
 ·refine⟨d,k1,⟨d,k1,s1,.inl ⟨.inr aa,NX E,rfl,rfl⟩⟩,p,aa⟩
 ·obtain⟨P,y,k,F,G,H,m,Q,R,I,s,g⟩:=Lx _ l r x v d none 1 (Nat.le_refl _) aa q (hp.nodup_iff.1 (h.nodup x b)) ab aa;have a:=cq m;have K:y∈F.nodes:=T.mem_nodes.2 ⟨s,by rw[m];exact List.mem_of_getElem? g⟩;obtain⟨t,j,S,v',U,m1,m2,m3,m4,m5⟩:=nV H (a.nodup_iff.2 (hp.nodup_iff.1 (h.nodup x b))) (m.symm▸o) K (by have:=a.length_eq;omega)
  have L:(row x)[1]?=some y:=by
   rw[f] at g;have:((row x)[1]?).map (λ y=>(y,val y))=some (y,s):=by unfold dR at g;rw[Ni] at g;exact g
   cases u:(row x)[1]? with
   |none=>rw[u] at this;cases this
   |some z=>rw[u] at this;simp at this;rw[this.1]
  rw[L];refine⟨t,k1+(k+j),⟨d,k1,s1,.inr ⟨ab,aa,y,k+j,G t j m1,rfl,rfl⟩⟩,p.retree b m2 (by rw[m3,m,f]) (λ z M=>?_),by have:=a.length_eq;omega⟩;have i:z∉(T.node l x v 0 false r).nodes:=λ e=>M (hp.mem_iff.2 e);rw[m4 z (λ e=>i (a.mem_iff.1 e)),I z i]
theorem lO.least(h:lO N ns row val)(t:N<=10000){x:Nat}(c:x<N):∃ d y k,MW ns x d y k/\lO N d row val/\k<=5*(row x).length/\jQ (dR (row x) val) y (val y)/\y∈row x:=by
 obtain⟨p,k1,s1,u,⟨l,v,r,q,i⟩,I,f1⟩:=h.splay t c;have hp:(row x).Perm (T.node l x v 0 false r).nodes:=by have:=(T.node l x v 0 false r).perm;rwa [i,f7] at this
 have hl:=hp.length_eq;have w:=h.len c
 have b:hO (T.node l x v 0 false r).flat:=λ e he=>by
  rw[i] at he;obtain⟨A,B⟩:=eX.1 (show (e.1,e.2)∈_ from he);rw[B];exact h.small _ (h.lt x c _ A)
 obtain⟨m,hm,f⟩:=q.1.least;rw[hm.small b] at f;obtain⟨K,y,k,C,D,E,n,L,M,F,o⟩:=LQ _ l r x v p none m (Np _) q (hp.nodup_iff.1 (h.nodup x c)) b hm;have a:=cq n;have G:y∈C.nodes:=T.mem_nodes.2 ⟨m,by rw[n];exact o.mem⟩;obtain⟨s,j,O,v',P,m1,m2,m3,m4,m5⟩:=nV E (a.nodup_iff.2 (hp.nodup_iff.1 (h.nodup x c))) (n.symm▸b) G (by have:=a.length_eq;omega);rw[i] at o;obtain⟨g1,g2⟩:=eX.1 o.mem;refine⟨s,y,k1+(k+j),⟨p,k1,k+j,s1,by rw[f];exact D s j m1,rfl⟩,u.retree c m2 (by rw[m3,n,i]) (λ z H=>?_),by have:=a.length_eq;omega,by rw[<- g2];exact o,g1⟩;have g:z∉(T.node l x v 0 false r).nodes:=λ e=>H (hp.mem_iff.2 e);rw[m4 z (λ e=>g (a.mem_iff.1 e)),F z g]
end
def aX(par:OV):Nat->LN_->Prop
 |_,[]=>False
 |x,[y]=>x=y/\par x=none
 |x,y::z::l=>x=y/\par x=some z/\aX par z (z::l)
theorem aX.head{par:OV}:∀ {p:LN_} {x:Nat},aX par x p->∃ q,p=x::q
 |[],_,h=>h.elim
 |[y],_,⟨h,_⟩=>⟨[],by rw[h]⟩
 |y::z::l,_,⟨h,_⟩=>⟨z::l,by rw[h]⟩
theorem aX.uniq{par:OV}:∀ {p q:LN_} {x:Nat},aX par x p->aX par x q->p=q
 |[],_,_,h,_=>h.elim
 |_,[],_,_,h=>h.elim
 |[y],[z],x,⟨b,_⟩,⟨a,_⟩=>by rw[<- b,<- a]
 |[y],z::d::l,x,⟨_,b⟩,⟨_,a,_⟩=>by rw[b] at a;cases a
 |y::e::l,[z],x,⟨_,b,_⟩,⟨_,a⟩=>by rw[b] at a;cases a
 |y::e::l,z::d::m,x,⟨b,a,f⟩,⟨k1,c,g⟩=>by
  rw[a] at c;simp only[Na] at c;subst c;rw[<- b,<- k1,aX.uniq f g]
theorem aX.tail{par:OV}:∀ {A B:LN_} {x y:Nat},aX par x (A++y::B)->aX par y (y::B)
 |[],B,x,y,h=>by
  obtain⟨q,c⟩:=h.head;simp only[Oj,OG] at c;obtain⟨rfl,_⟩:=c;exact h
 |[a],B,x,y,⟨_,_,h⟩=>h
 |a::b::A,B,x,y,⟨_,_,h⟩=>aX.tail (A:=b::A) h
theorem aX.nodup{par:OV}:∀ {p:LN_} {x:Nat},aX par x p->p.Nodup
 |[],_,h=>h.elim
 |[y],_,_=>by simp
 |y::z::l,x,⟨c,d,b⟩=>by
  refine NG.2 ⟨λ hm=>?_,aX.nodup b⟩;obtain⟨A,B,a⟩:=Pb hm;have e:aX par y (y::B):=aX.tail (by rw[<- a];exact b);have f:aX par y (y::z::l):=by rw[<- c];exact⟨rfl,d,b⟩
  have g:=M8 List.length (e.uniq f);have i:=M8 List.length a;simp at g i;omega
theorem aX.next{par:OV}{A B:LN_}{x u w:Nat}(h:aX par x (A++u::w::B)):par u=some w:=(aX.tail h).2.1
theorem aX.last{par:OV}{A:LN_}{x u:Nat}(h:aX par x (A++[u])):par u=none:=(aX.tail h).2
theorem mY{par:OV}:∀ {L:LN_} {x:Nat} {p:LN_},(∀ A u w B,x::L=A++u::w::B->par u=some w)->aX par x p->(x::L)<+:p
 |[],x,p,_,h=>by obtain⟨q,rfl⟩:=h.head;exact⟨q,rfl⟩
 |y::L,x,p,c,h=>by
  have d:=c [] x y L rfl
  match p,h with
  |[z],⟨_,a⟩=>rw[d] at a;cases a
  |z::i::l,⟨a,b,f⟩=>
   rw[d] at b;simp only[Na] at b;subst b;have g:=mY (L:=L) (λ A u w B e=>c (x::A) u w B (by rw[e];rfl)) f;rw[<- a];exact (List.cons_prefix_cons).2 ⟨rfl,g⟩
structure iW (N:Nat) (s:iO) (par:OV) (val:Nat->Int) (row:Nat->LN_):Prop where
 so:lO N s.ns row val
 nok:eK N s.ns
 chain:∀ x,x<N->∀ A u w B,row x=A++u::w::B->par u=some w
 top:∀ x,x<N->∀ A u,row x=A++[u]->s.ov u=par u
 inner:∀ x,x<N->∀ A u w B,row x=A++u::w::B->s.ov u=none
 path:∀ x,x<N->∃ p,aX par x p
 lt:∀ x,x<N->xa N (par x)
section
variable {N:Nat} {s:iO} {par:OV} {val:Nat->Int} {row:Nat->LN_}
theorem iW.fok(h:iW N s par val row):py N s:=by
 refine⟨h.nok,λ x b=>?_⟩;obtain⟨A,B,a⟩:=Pb (h.so.mem x b)
 cases B with
 |nil=>rw[h.top x b A x a];exact h.lt x b
 |cons w B=>rw[h.inner x b A x w B a];trivial
theorem iW.retree(h:iW N s par val row){a:cG}{k:Nat}(b:eK N a)(c:lO N a row val):iW N ⟨a,s.ov,k⟩ par val row:=⟨c,b,h.chain,h.top,h.inner,h.path,h.lt⟩
theorem uK{A B C D:LN_}{x:Nat}(b:(A++x::B).Nodup)(h:A++x::B=C++x::D):A=C/\B=D:=by
 induction A generalizing C with
 |nil=>
  cases C with
  |nil=>simpa using h
  |cons c C=>
   exfalso;simp only[Oj,Ob,OG] at h b;obtain⟨rfl,rfl⟩:=h;simp at b
 |cons a A d=>
  cases C with
  |nil=>
   exfalso;simp only[Oj,Ob,OG] at h;obtain⟨rfl,_⟩:=h;simp at b
  |cons c C=>
   simp only[Ob,OG] at h;obtain⟨rfl,h⟩:=h;obtain⟨e,f⟩:=d (NG.1 b).2 h;exact⟨by rw[e],f⟩
theorem iW.part(h:iW N s par val row)(E:N<=10000){v:Nat}(f:v<N):∃ F i A B,DJ s v F/\iW N F par val i/\row v=A++v::B/\i v=v::B/\F.k<=s.k+12*(row v).length/\∀ z,z∉row v->i z=row z:=by
 obtain⟨V,deep,k1,G,X,b1,d1⟩:=h.so.edge E (by decide:0<2) f;rw[if_pos rfl] at d1;have H:deep∈row v:=List.mem_of_mem_head? (by rw[d1];rfl);have o:=(h.nok.edge f G).1;by_cases I:deep=v
 ·subst I
  obtain⟨B,Y⟩:∃ B,row deep=deep::B:=by
   cases Z:row deep with
   |nil=>rw[Z] at d1;cases d1
   |cons a l=>rw[Z] at d1;simp only[PT,Na] at d1;exact⟨l,by rw[d1]⟩
  exact⟨_,row,[],B,⟨V,deep,k1,G,.inl gY⟩,h.retree o X,Y,Y,by show s.k+k1<=_;omega,λ _ _=>rfl⟩
 ·obtain⟨n2,k2,e2,h2,t2,b2,f2⟩:=X.splay E f;obtain⟨A,B,b,f3,h3⟩:=h2.split f t2;have K:=o.splay f e2;have L:=K.split f;have d:=h.so.nodup v f
  have p:deep∈A:=by
   cases A with
   |nil=>rw[b] at d1;simp at d1;exact absurd d1.symm I
   |cons a A=>rw[b] at d1;simp at d1;rw[d1];simp
  have q:=h.so.lt v f deep H;obtain⟨n3,top,k3,e3,h4,b3,d3⟩:=h3.edge E (by decide:1<2) q;rw[if_neg ab] at d3;simp only[if_pos p] at d3 b3
  obtain⟨c,rfl⟩:∃ c,A=c++[top]:=by
   rcases N9 A with rfl|⟨c,t,rfl⟩
   ·cases p
   ·rw[Oa] at d3 ⊢;rw[N0] at d3;simp at d3;subst d3;exact⟨c,rfl⟩
  have M:=(L.edge q e3).1;have hlen:(c++[top]).length<=(row v).length:=by rw[b];simp
  have O:top∈row v:=by rw[b];simp
  have r:top∉v::B:=λ hm=>by
   rw[b] at d;exact (Ny.1 d).2.2 top ai top hm rfl
  have hR:top∉c:=λ hm=>by
   rw[b] at d;exact (Ny.1 (Ny.1 d).1).2.2 top hm top ai rfl
  have g:∀ z,(if z∈c++[top] then c++[top] else if z∈v::B then v::B else row z)=c++[top]\/(if z∈c++[top] then c++[top] else if z∈v::B then v::B else row z)=v::B\/((if z∈c++[top] then c++[top] else if z∈v::B then v::B else row z)=row z/\z∉row v):=by
   intro z;by_cases P:z∈c++[top]
   ·left;rw[if_pos P]
   ·rw[if_neg P];by_cases c2:z∈v::B
    ·right;left;rw[if_pos c2]
    ·right;right;rw[if_neg c2]
     exact⟨rfl,λ hm=>by rw[b] at hm;rcases Nm.1 hm with hm|hm;exact P hm;exact c2 hm⟩
  have j:∀ z,z<N->z∉row v->top∉row z:=λ z y Q R=>Q (by
   rw[<- h.so.same v f top O,h.so.same z y top R];exact h.so.mem z y)
  refine⟨_,_,c++[top],B,⟨V,deep,k1,G,.inr ⟨I,n2,k2,n3,top,k3,e2,e3,rfl⟩⟩,⟨h4,M,?_,?_,?_,h.path,h.lt⟩,b,?_,by show s.k+k1+k2+k3<=_;omega,λ z y=>?_⟩
  ·intro x m C u w D hC
   rcases g x with e|e|⟨e,_⟩
   ·rw[e] at hC;exact h.chain v f C u w (D++v::B) (by rw[b,hC];simp)
   ·rw[e] at hC;exact h.chain v f (c++[top]++C) u w D (by rw[b,hC];simp)
   ·rw[e] at hC;exact h.chain x m C u w D hC
  ·intro x m C u hC;simp only[bH]
   rcases g x with e|e|⟨e,n⟩
   ·rw[e] at hC;have hu:u=top:=by have:=congrArg List.getLast? hC;simp at this;exact this.symm
    subst hu;rw[if_pos rfl];exact (h.chain v f c u v B (by rw[b];simp)).symm
   ·rw[e] at hC;have hu:u∈v::B:=by rw[hC];simp
    rw[if_neg (show ¬ u=top from λ e=>r (e▸hu))];exact h.top v f (c++[top]++C) u (by rw[b,hC];simp)
   ·rw[e] at hC;rw[if_neg (λ e=>j x m n (by rw[hC,<- e];simp))];exact h.top x m C u hC
  ·intro x m C u w D hC;simp only[bH]
   rcases g x with e|e|⟨e,n⟩
   ·rw[e] at hC
    have hu:u≠top:=λ e=>by
     subst e;have S:(c++[u]).Nodup:=by rw[b] at d;exact (Ny.1 d).1
     have:=(uK (A:=c) (B:=[]) S hC).2
     cases this
    rw[if_neg hu];exact h.inner v f C u w (D++v::B) (by rw[b,hC];simp)
   ·rw[e] at hC;have hu:u∈v::B:=by rw[hC];simp
    rw[if_neg (show ¬ u=top from λ e=>r (e▸hu))];exact h.inner v f (c++[top]++C) u w D (by rw[b,hC];simp)
   ·rw[e] at hC;rw[if_neg (λ e=>j x m n (by rw[hC,<- e];simp))];exact h.inner x m C u w D hC
  ·have U:v∉c++[top]:=λ hm=>by
    rw[b] at d;exact (Ny.1 d).2.2 v hm v ai rfl
   show (if v∈c++[top] then c++[top] else if v∈v::B then v::B else row v)=_;rw[if_neg U,if_pos ai]
  ·show (if z∈c++[top] then c++[top] else if z∈v::B then v::B else row z)=_;rw[if_neg (λ e=>y (by rw[b];exact List.mem_append_left _ e)),if_neg (λ e=>y (by rw[b];exact Ph _ e))]
end
theorem xU:∀ {C L K D:LN_} {u w:Nat},L++K=C++u::w::D->(∃ d,L=C++u::w::d)\/(∃ f,K=f++u::w::D)\/(L=C++[u]/\K=w::D)
 |[],[],K,D,u,w,h=>.inr (.inl ⟨[],h⟩)
 |[],[a],K,D,u,w,h=>by
  simp only[Ob,Oj,OG] at h;exact .inr (.inr ⟨by rw[h.1];rfl,h.2⟩)
 |[],a::b::L,K,D,u,w,h=>by
  simp only[Ob,Oj,OG] at h;exact .inl ⟨L,by rw[h.1,h.2.1];rfl⟩
 |c::C,[],K,D,u,w,h=>.inr (.inl ⟨c::C,h⟩)
 |c::C,a::L,K,D,u,w,h=>by
  simp only[Ob,OG] at h;obtain⟨rfl,h⟩:=h
  rcases xU h with ⟨d,e⟩|⟨f,e⟩|⟨g,i⟩
  ·exact .inl ⟨d,by rw[e];rfl⟩
  ·exact .inr (.inl ⟨f,e⟩)
  ·exact .inr (.inr ⟨by rw[g];rfl,i⟩)
def zb(N x:Nat):Nat:=10*(N*x)+x*x+6*x+5*N
theorem DK{N x s t:Nat}(h:t+x=N)(a:1<=s)(b:s<=x):5*t+12*x+5*(t+s)+zb N (x-s)<=zb N x:=by
 obtain⟨y,rfl⟩:∃ y,x=y+s:=⟨x-s,aa⟩;rw[Nat.add_sub_cancel];unfold zb;have c:N*(y+s)=N*y+N*s:=Ow _ _ _;have d:(y+s)*(y+s)=y*y+y*s+(s*y+s*s):=by rw[ON,Ow,Ow]
 have e:s*y=y*s:=Nat.mul_comm _ _;have g1:N<=N*s:=Nat.le_mul_of_pos_right _ a;have g2:y<=y*s:=Nat.le_mul_of_pos_right _ a;have g3:s<=s*s:=Nat.le_mul_of_pos_right _ a;omega
section
variable {N:Nat} {par:OV} {val:Nat->Int}
theorem iW.accL(hN:N<=10000){v:Nat}(f:v<N){p:LN_}(hp:aX par v p):∀ (n:Nat) (s:iO) (row:Nat->LN_),iW N s par val row->(∃ B,row v=v::B)->p.length-(row v).length<=n->
 ∃ Y o i,yi v s Y i/\iW N Y par val o/\o v=p/\Y.k<=s.k+zb N (N-(row v).length):=by
 intro n
 induction n with
 |zero=>
  intro s row h ⟨B,U⟩ hm;have r:row v<+:p:=by rw[U];exact mY (λ A u w C e=>h.chain v f A u w C (by rw[U,e])) hp
  obtain⟨D,F⟩:=r
  have hc:D=[]:=by
   have:=M8 List.length F;simp at this;exact Nw.1 aa
  subst hc;rw[NL] at F;obtain⟨n1,top,k1,V,h1,b1,d1⟩:=h.so.edge hN (by decide:1<2) f;rw[if_neg ab] at d1
  obtain⟨A,G⟩:∃ A,row v=A++[top]:=by
   rcases N9 (row v) with e|⟨A,t,e⟩
   ·rw[e] at d1;cases d1
   ·rw[Oa] at e;rw[e,N0] at d1;simp at d1;exact⟨A,by rw[e,d1]⟩
  have H:s.ov top=none:=by
   rw[h.top v f A top G];exact aX.last (A:=A) (x:=v) (by rw[<- G,F];exact hp)
  refine⟨_,row,0,.done V H,h.retree (h.nok.edge f V).1 h1,F,?_⟩;have:=h.so.len f;unfold zb;show s.k+k1<=_;omega
 |succ n ih=>
  intro s row h ⟨B,U⟩ hm;have r:row v<+:p:=by rw[U];exact mY (λ A u w C e=>h.chain v f A u w C (by rw[U,e])) hp
  obtain⟨D,F⟩:=r;obtain⟨n1,top,k1,V,h1,b1,d1⟩:=h.so.edge hN (by decide:1<2) f;rw[if_neg ab] at d1
  obtain⟨A,G⟩:∃ A,row v=A++[top]:=by
   rcases N9 (row v) with e|⟨A,t,e⟩
   ·rw[e] at d1;cases d1
   ·rw[Oa] at e;rw[e,N0] at d1;simp at d1;exact⟨A,by rw[e,d1]⟩
  have hS:=h.so.len f;have Z:=(h.nok.edge f V).1
  cases D with
  |nil=>
   rw[NL] at F
   have H:s.ov top=none:=by
    rw[h.top v f A top G];exact aX.last (A:=A) (x:=v) (by rw[<- G,F];exact hp)
   refine⟨_,row,0,.done V H,h.retree Z h1,F,?_⟩;unfold zb;show s.k+k1<=_;omega
  |cons w D=>
   have hR:=hp.nodup;have O:par top=some w:=aX.next (A:=A) (B:=D) (x:=v) (by rw[show A++top::w::D=(A++[top])++w::D by simp,<- G,F];exact hp);have H:s.ov top=some w:=by rw[h.top v f A top G,O]
   have hs:top<N:=h.so.lt v f top (by rw[G];simp);have j:w<N:=by have:=h.lt top hs;rw[O] at this;exact this
   have P:w∉row v:=λ hm=>by
    rw[<- F] at hR;exact (Ny.1 hR).2.2 w hm w ai rfl
   have hk:v≠w:=λ e=>P (e▸h.so.mem v f);have Q:=h.so.apart f j P;have hH:iW N ⟨n1,s.ov,s.k+k1⟩ par val row:=h.retree Z h1;obtain⟨s2,d,A2,B2,e2,q,h3,I,hj,hr⟩:=hH.part hN j;have K:d v=row v:=hr v (Q v (h.so.mem v f));have hq:∀ y∈d w,y∈row w:=λ y M=>by rw[I] at M;rw[h3];exact Ph _ M
   have hf:w∉d v:=by rw[K];exact P
   obtain⟨n4,k4,e4,h4,b4⟩:=q.so.joined hN f j hf;have k2:=q.nok.joined f j e4;rw[K] at h4 b4;have hn:top∈row v:=by rw[G];simp
   have hg:top∉d w:=λ hm=>Q top hn (hq top hm)
   have m:∀ z,(if z∈row v\/z∈d w then row v++d w else d z)=row v++d w\/((if z∈row v\/z∈d w then row v++d w else d z)=d z/\z∉row v):=λ z=>by
    by_cases c:z∈row v\/z∈d w
    ·left;rw[if_pos c]
    ·right;rw[if_neg c];exact⟨rfl,λ e=>c (.inl e)⟩
   have hd:∀ z,z<N->z∉row v->top∉d z:=λ z hz hW ht=>hW (by
    have h5:=q.so.same z hz top ht;have h6:=q.so.same v f top (by rw[K];exact hn);rw[h6,K] at h5;rw[h5];exact q.so.mem z hz)
   have hF:iW N ⟨n4,bH s2.ov top none,s2.k+k4⟩ par val (λ z=>if z∈row v\/z∈d w then row v++d w else d z):=by
    refine⟨h4,k2,λ x X C u z E hC=>?_,λ x X C u hC=>?_,λ x X C u z E hC=>?_,h.path,h.lt⟩
    ·rcases m x with e|⟨e,_⟩
     ·rw[e] at hC
      rcases xU hC with ⟨D1,g⟩|⟨R,g⟩|⟨g1,g2⟩
      ·exact h.chain v f C u z D1 g
      ·exact q.chain w j R u z E g
      ·rw[G] at g1;have hu:top=u:=by have:=congrArg List.getLast? g1;simpa using this
       rw[I] at g2;simp only[OG] at g2;rw[<- hu,<- g2.1];exact O
     ·rw[e] at hC;exact q.chain x X C u z E hC
    ·simp only[bH] at hC ⊢
     rcases m x with e|⟨e,h0⟩
     ·rw[e] at hC
      have hl:(d w).getLast?=some u:=by
       have:=M8 List.getLast? hC;rw[N0,N0] at this;rw[I] at this ⊢
       simpa using this
      have hu:u∈d w:=Oz hl;rw[if_neg (show ¬ u=top from λ e=>hg (e▸hu))]
      obtain⟨R,ho⟩:∃ R,d w=R++[u]:=by
       rcases N9 (d w) with e|⟨A',t,e⟩
       ·rw[e] at hl;cases hl
       ·rw[Oa] at e;rw[e,N0] at hl;simp at hl;exact⟨A',by rw[e,hl]⟩
      exact q.top w j R u ho
     ·rw[e] at hC;rw[if_neg (show ¬ u=top from λ e=>hd x X h0 (by rw[hC,<- e];simp))];exact q.top x X C u hC
    ·simp only[bH] at hC ⊢;by_cases S:u=top
     ·rw[if_pos S]
     ·rw[if_neg S]
      rcases m x with e|⟨e,h0⟩
      ·rw[e] at hC
       rcases xU hC with ⟨D1,g⟩|⟨R,g⟩|⟨g1,_⟩
       ·exact q.inner v f C u z D1 (by rw[K];exact g)
       ·exact q.inner w j R u z E g
       ·rw[G] at g1;have hu:top=u:=by have:=congrArg List.getLast? g1;simpa using this
        exact absurd hu.symm S
      ·rw[e] at hC;exact q.inner x X C u z E hC
   have L:(if v∈row v\/v∈d w then row v++d w else d v)=row v++d w:=if_pos (.inl (h.so.mem v f));have k3:(row v).length+(D.length+1)=p.length:=by rw[<- F];simp
   have q1:(d w).length=B2.length+1:=by rw[I];rfl
   have hI:(row v).length+(row w).length<=N:=by
    have:=qV (N:=N) (l:=row v++row w) (Ny.2 ⟨h.so.nodup v f,h.so.nodup w j,λ a ha b hb e=>Q a ha (e▸hb)⟩) (λ y M=>by
     rcases Nm.1 M with M|M
     ·exact h.so.lt v f y M
     ·exact h.so.lt w j y M)
    simpa using this
   have c1:(d w).length<=(row w).length:=by rw[h3,I];simp
   obtain⟨Y,o,i,g1,g2,g3,g4⟩:=ih _ _ hF ⟨B++d w,by rw[L,U];rfl⟩ (by rw[L,Ng];omega);refine⟨Y,o,i+1,.go V H e2 hk e4 g1,g2,g3,?_⟩;simp only at g4 hj;rw[L,Ng] at g4;have hG:=DK (N:=N) (x:=N-(row v).length) (s:=(d w).length) (t:=(row v).length) aa aa aa;rw[show N-((row v).length+(d w).length)=N-(row v).length-(d w).length by omega] at g4;omega
def em(N:Nat):Nat:=11*(N*N)+23*N
theorem iW.acc{s:iO}{row:Nat->LN_}(h:iW N s par val row)(g:N<=10000){v:Nat}(e:v<N){p:LN_}(hp:aX par v p):∃ d a,Ky s v d/\iW N d par val a/\a v=p/\d.k<=s.k+em N:=by
 obtain⟨s1,b,A,B,l,m,t,j,u,_⟩:=h.part g e;obtain⟨d,a,i,n,o,q,w⟩:=iW.accL g e hp _ s1 b m ⟨B,j⟩ (Np _);refine⟨d,a,⟨s1,i,l,n⟩,o,q,?_⟩;have hl:=h.so.len e;have r:N-(b v).length<=N-1:=by rw[j];simp;omega
 have hC:zb N (N-(b v).length)<=11*(N*N)+11*N:=by
  obtain⟨x,f⟩:∃ x,N-(b v).length=x:=⟨_,rfl⟩;rw[f] at r ⊢;have c:x<=N:=aa;have g1:N*x<=N*N:=O7 _ c;have g2:x*x<=N*N:=OP c c;unfold zb;omega
 unfold em;omega
end
theorem aX.congr{par par':OV}:∀ {p:LN_} {x:Nat},aX par x p->(∀ y∈p,par' y=par y)->aX par' x p
 |[],_,h,_=>h
 |[y],x,⟨a,b⟩,hp=>⟨a,by rw[a] at b ⊢;rw[hp y ai];exact b⟩
 |y::z::l,x,⟨a,b,d⟩,hp=>⟨a,by rw[a] at b ⊢;rw[hp y ai];exact b,d.congr λ q c=>hp q (by simp at c ⊢;exact .inr c)⟩
theorem aX.cons{par:OV}{x y:Nat}{p:LN_}(a:par x=some y)(h:aX par y p):aX par x (x::p):=by
 obtain⟨q,rfl⟩:=h.head;exact⟨rfl,a,h⟩
theorem aX.link{par par':OV}{v w:Nat}{q:LN_}(e:par' v=some w)(f:aX par' w q):∀ {A:LN_} {x:Nat},aX par x (A++[v])->(∀ y∈A,par' y=par y)->aX par' x (A++v::q)
 |[],x,⟨h,_⟩,_=>by rw[h];exact f.cons e
 |[a],x,⟨g,c,i⟩,d=>by
  rw[g] at c ⊢;exact aX.cons (by rw[d a ai];exact c) (aX.link (A:=[]) e f i (λ _ h=>by cases h))
 |a::b::A,x,⟨g,c,i⟩,d=>by
  rw[g] at c ⊢;exact aX.cons (by rw[d a ai];exact c) (aX.link (A:=b::A) e f i λ y j=>d y (by simp at j ⊢;exact .inr j))
theorem aX.cut{par par':OV}{v:Nat}(d:par' v=none):∀ {A B:LN_} {x:Nat},aX par x (A++v::B)->(∀ y∈A,par' y=par y)->aX par' x (A++[v])
 |[],B,x,h,_=>by
  obtain⟨q,f⟩:=h.head;simp only[Oj,OG] at f;rw[f.1] at d;exact⟨f.1.symm,d⟩
 |[a],B,x,⟨g,c,i⟩,e=>by
  rw[g] at c ⊢;exact aX.cons (by rw[e a ai];exact c) (aX.cut (A:=[]) d i (λ _ h=>by cases h))
 |a::b::A,B,x,⟨g,c,i⟩,e=>by
  rw[g] at c ⊢;exact aX.cons (by rw[e a ai];exact c) (aX.cut (A:=b::A) d i λ y j=>e y (by simp at j ⊢;exact .inr j))
theorem aX.second{par:OV}{x:Nat}{p:LN_}(h:aX par x p):p[1]?=par x:=by
 match p,h with
 |[y],⟨_,a⟩=>rw[a];rfl
 |y::z::l,⟨_,a,_⟩=>rw[a];rfl
theorem aX.root_end{par:OV}{x v:Nat}{A B:LN_}(h:aX par x (A++v::B))(a:par v=none):B=[]:=by
 cases B with
 |nil=>rfl
 |cons b B=>have:=h.next;rw[a] at this;cases this
theorem aX.root_last{par:OV}{x y:Nat}{p:LN_}(h:aX par x p)(a:p.getLast?=some y):par y=none:=by
 rcases N9 p with rfl|⟨A,t,rfl⟩
 ·cases a
 ·rw[Oa] at h a;rw[N0] at a;simp at a;rw[<- a];exact h.last
theorem aX.lt{par:OV}{N:Nat}(hl:∀ x,x<N->xa N (par x)):∀ {p:LN_} {x:Nat},aX par x p->x<N->∀ y∈p,y<N
 |[],_,h,_,_,_=>h.elim
 |[z],x,⟨c,_⟩,b,y,a=>by rw[Nh.1 a,<- c];exact b
 |z::f::l,x,⟨c,d,e⟩,b,y,a=>by
  rcases Nl.1 a with rfl|a
  ·rw[<- c];exact b
  ·have:=hl x b;rw[d] at this;exact aX.lt hl e this y a
theorem aX.ne{par:OV}{x:Nat}{p:LN_}(h:aX par x p):∃ A y,p=A++[y]:=by
 rcases N9 p with rfl|⟨A,t,rfl⟩
 ·exact h.elim
 ·exact⟨A,t,Oa⟩
section
variable {N:Nat} {s:iO} {par:OV} {val:Nat->Int} {row:Nat->LN_}
theorem iW.root_(h:iW N s par val row)(i:N<=10000){v:Nat}(e:v<N){p:LN_}(hp:aX par v p):∃ g a y,zd s v g y/\iW N g par val a/\p.getLast?=some y/\g.k<=s.k+em N+5*N:=by
 obtain⟨s1,c,l,f,m,q⟩:=h.acc i e hp;obtain⟨n,y,k1,j,o,b,d⟩:=f.so.edge i (by decide:1<2) e;rw[if_neg ab,m] at d;have hl:=f.so.len e;exact⟨_,c,y,⟨s1,n,k1,l,j,rfl⟩,f.retree (f.nok.edge e j).1 o,d,by show s1.k+k1<=_;omega⟩
theorem iW.above_(h:iW N s par val row)(j:N<=10000){v:Nat}(c:v<N){p:LN_}(hp:aX par v p):∃ f a,xS s v f (par v)/\iW N f par val a/\a v=p/\f.k<=s.k+em N+5*N:=by
 obtain⟨s1,d,o,e,l,t⟩:=h.acc j c hp;obtain⟨m,k1,g,q,b⟩:=e.so.at1 j c;rw[l,hp.second] at g;have hl:=e.so.len c
 have r:eK N m:=by
  obtain⟨m1,u,n,⟨_,_,rfl,_⟩|⟨_,_,z,w,i,_,_⟩⟩:=g
  ·exact e.nok.splay c n
  ·exact (eK.atR i c (e.nok.splay c n)).1
 exact⟨_,d,⟨s1,m,k1,o,g,rfl⟩,e.retree r q,l,by show s1.k+k1<=_;omega⟩
theorem iW.value_(h:iW N s par val row)(d:N<=10000){v:Nat}(a:v<N):∃ b,L9 s v b/\iW N b par val row/\(b.ns v).value=val v/\b.k<=s.k+2*N:=by
 obtain⟨e,k1,c,f,t1,g,_⟩:=h.so.splay d a;have hl:=h.so.len a;exact⟨_,⟨e,k1,c,rfl⟩,h.retree (h.nok.splay a c) f,t1.value (h.so.small v a),by show s.k+k1<=_;omega⟩
theorem iW.add_(h:iW N s par val row)(i:N<=10000){v:Nat}(b:v<N){p:LN_}(hp:aX par v p){d:Int}(n:-9223372036854775808<=d/\d<=9223372036854775807)(o:∀ y∈p,-4611686018427387904<=val y+d/\val y+d<=4611686018427387904):
 ∃ g e,Ms s v d g/\iW N g par (λ z=>if z∈p then val z+d else val z) e/\g.k<=s.k+em N+2*N:=by
 obtain⟨s1,f,q,a,j,A⟩:=h.acc i b hp;obtain⟨r,k1,l,t,t1,B,_⟩:=a.so.splay i b;have hl:=a.so.len b;have u:=a.nok.splay b l;obtain⟨m,w,x⟩:=t.add b t1 n (by rw[j];exact o);rw[j] at m;exact⟨_,f,⟨s1,r,k1,q,l,w,x,rfl⟩,⟨m,u.lay (c:=some v) b d false,a.chain,a.top,a.inner,a.path,a.lt⟩,by show s1.k+k1<=_;omega⟩
theorem iW.least_(h:iW N s par val row)(j:N<=10000){v:Nat}(b:v<N){p:LN_}(hp:aX par v p):∃ m e y,Hl s v m y/\iW N m par val e/\jQ (dR p.reverse val) y (val y)/\y∈p/\m.k<=s.k+em N+9*N:=by
 obtain⟨s1,a,D,d,o,O⟩:=h.acc j b hp;obtain⟨E,k1,q,F,t1,P,_⟩:=d.so.splay j b;have hl:=d.so.len b;have G:=(d.nok.splay b q).lay (c:=some v) b 0 true;have H:=F.turn b t1;have f:=d.so.mem v b;obtain⟨r,y,t,u,I,w,f2,m2⟩:=H.least j b;have g:(if v∈a v then (a v).reverse else a v)=p.reverse:=by rw[if_pos f,o]
 rw[g] at f2 m2 w
 have n:eK N r:=by
  obtain⟨m1,Q,R,g1,g2,_⟩:=u;exact (eK.leR g2 b (G.splay b g1)).1
 obtain⟨K,x,A,L,t3,B,_⟩:=I.splay j b;have C:=L.turn b t3;rw[g] at B
 have i:(λ z=>if z∈(λ z=>if z∈a v then (a v).reverse else a z) v then ((λ z=>if z∈a v then (a v).reverse else a z) v).reverse else (λ z=>if z∈a v then (a v).reverse else a z) z)=a:=by
  funext z
  simp only[if_pos f,List.mem_reverse,List.reverse_reverse];by_cases l:z∈a v
  ·rw[if_pos l];exact (d.so.same v b z l).symm
  ·rw[if_neg l,if_neg l]
 rw[i] at C;have M:p.length<=N:=by rw[<- o];exact hl
 simp only[List.length_reverse] at w B;refine⟨_,a,y,⟨s1,E,k1,r,t,K,x,D,q,u,A,rfl⟩,⟨C,(n.splay b A).lay (c:=some v) b 0 true,d.chain,d.top,d.inner,d.path,d.lt⟩,f2,by simpa using m2,?_⟩;show s1.k+k1+t+x<=_;omega
theorem iW.cut_(h:iW N s par val row)(S:N<=10000){v u:Nat}(K:v<N)(hu:par v=some u):∃ L r,L7 s v L/\iW N L (bH par v none) val r/\L.k<=s.k+em N+7*N:=by
 obtain⟨p,hp⟩:=h.path v K;obtain⟨s1,c,U,d,M,h3⟩:=h.above_ S K hp;rw[hu] at U;have b:u<N:=by have:=h.lt v K;rw[hu] at this;exact this
 obtain⟨q,O⟩:∃ q,p=v::u::q:=by
  match p,hp with
  |[y],⟨g1,g2⟩=>rw[hu] at g2;cases g2
  |y::z::l,⟨g1,g2,_⟩=>
   rw[hu] at g2;simp only[Na] at g2;exact⟨l,by rw[g1,g2]⟩
 have f:c u=v::u::q:=by rw[d.so.same v K u (by rw[M,O];simp),M,O]
 obtain⟨Z,k1,V,h4,t1,b1,_⟩:=d.so.splay S b;obtain⟨A,B,t,f1,h5⟩:=h4.split b t1;have n:=d.so.nodup u b
 have P:A=[v]/\B=q:=by
  have E:=n;rw[t] at E;have:=uK (C:=[v]) (D:=q) E (by rw[<- t,f];rfl);exact this
 obtain⟨rfl,rfl⟩:=P;have hn:=(d.nok.splay b V).split b;have hl:=d.so.len b;have F:v∉u::B:=by rw[f] at n;exact (NG.1 n).1
 have i:∀ z,(if z∈[v] then [v] else if z∈u::B then u::B else c z)=[v]\/(if z∈[v] then [v] else if z∈u::B then u::B else c z)=u::B\/((if z∈[v] then [v] else if z∈u::B then u::B else c z)=c z/\(z<N->v∉c z)):=by
  intro z;by_cases Q:z∈[v]
  ·left;rw[if_pos Q]
  ·rw[if_neg Q];by_cases c2:z∈u::B
   ·right;left;rw[if_pos c2]
   ·right;right;rw[if_neg c2]
    refine⟨rfl,λ X hm=>?_⟩;have g1:=d.so.same z X v hm;have g2:=d.so.mem z X;rw[<- g1,M,O] at g2
    rcases Nl.1 g2 with g|g
    ·exact Q (by simp[g])
    ·exact c2 g
 refine⟨_,_,⟨s1,u,Z,k1,U,V,rfl⟩,⟨h5,hn,?_,?_,?_,?_,?_⟩,by show s1.k+k1<=_;omega⟩
 ·intro x j C a w D hC;simp only[bH]
  rcases i x with e|e|⟨e,m⟩
  ·rw[e] at hC;have:=M8 List.length hC;simp at this;omega
  ·rw[e] at hC;rw[if_neg (show ¬ a=v from λ g=>F (by rw[hC,<- g];simp))];exact d.chain u b (v::C) a w D (by rw[f,hC];rfl)
  ·rw[e] at hC;rw[if_neg (show ¬ a=v from λ g=>m j (by rw[hC,<- g];simp))];exact d.chain x j C a w D hC
 ·intro x j C a hC;simp only[bH]
  rcases i x with e|e|⟨e,m⟩
  ·rw[e] at hC;have ha:v=a:=by have:=congrArg List.getLast? hC;simpa using this
   subst ha;rw[if_pos rfl];exact d.inner u b [] v u B f
  ·rw[e] at hC;rw[if_neg (show ¬ a=v from λ g=>F (by rw[hC,<- g];simp))];exact d.top u b (v::C) a (by rw[f,hC];rfl)
  ·rw[e] at hC;rw[if_neg (show ¬ a=v from λ g=>m j (by rw[hC,<- g];simp))];exact d.top x j C a hC
 ·intro x j C a w D hC
  rcases i x with e|e|⟨e,m⟩
  ·rw[e] at hC;have:=M8 List.length hC;simp at this;omega
  ·rw[e] at hC;exact d.inner u b (v::C) a w D (by rw[f,hC];rfl)
  ·rw[e] at hC;exact d.inner x j C a w D hC
 ·intro x j;obtain⟨Y,o⟩:=h.path x j;by_cases G:v∈Y
  ·obtain⟨C,D,H⟩:=List.append_of_mem G;have I:=o.nodup;refine⟨C++[v],aX.cut (B:=D) (by simp[bH]) (by rw[← H];exact o) (fun y R=>?_)⟩
   have:y≠v:=λ e=>by
    rw[H] at I;exact (Ny.1 I).2.2 y R v ai e
   simp[bH,this]
  ·exact⟨Y,o.congr λ y R=>by simp only[bH];rw[if_neg (show ¬ y=v from λ e=>G (e▸R))]⟩
 ·intro x j;simp only[bH];split
  ·trivial
  ·exact h.lt x j
theorem iW.link_(h:iW N s par val row)(p:N<=10000){v w:Nat}(B:v<N)(hw:w<N)(f:par v=none){q:LN_}(E:aX par w q)(i:v∉q):∃ r j,KR s v w r/\iW N r (bH par v (some w)) val j/\r.k<=s.k+3*em N+10*N:=by
 have l:aX par v [v]:=⟨rfl,f⟩;obtain⟨s1,F,R,K,L,d1,S⟩:=h.root_ p B l;simp only[List.getLast?_singleton,Na] at d1;subst d1;obtain⟨s2,G,z,M,O,d2,U⟩:=L.root_ p hw E;have P:z≠v:=λ e=>i (e▸Oz d2);obtain⟨H,m,Q,g,V,X⟩:=O.acc p B l;refine⟨_,m,⟨s1,s2,H,z,K,M,P,Q,rfl⟩,⟨g.so,g.nok,?_,?_,?_,?_,?_⟩,by show H.k<=_;omega⟩
 ·intro x d C a b D hC;simp only[bH];have:=g.chain x d C a b D hC;rw[if_neg (show ¬ a=v from λ e=>by rw[e,f] at this;cases this)];exact this
 ·intro x d C a hC;simp only[bH];split
  ·rfl
  ·exact g.top x d C a hC
 ·intro x d C a b D hC;simp only[bH];have:=g.chain x d C a b D hC;rw[if_neg (show ¬ a=v from λ e=>by rw[e,f] at this;cases this)];exact g.inner x d C a b D hC
 ·intro x d;obtain⟨I,c⟩:=h.path x d;have t:aX (bH par v (some w)) w q:=E.congr fun y n=>by simp only[bH];rw[if_neg (show ¬ y=v from fun e=>i (e▸n))]
  by_cases o:v∈I
  ·obtain⟨C,D,u⟩:=Pb o;rw[u] at c;obtain rfl:=c.root_end f;have A:=c.nodup;refine⟨C++v::q,aX.link (by simp[bH]) t c (λ y n=>?_)⟩;have:y≠v:=λ e=>(Ny.1 A).2.2 y n v ai e;simp[bH,this]
  ·exact⟨I,c.congr λ y n=>by simp only[bH];rw[if_neg (show ¬ y=v from λ e=>o (e▸n))]⟩
 ·intro x d;simp only[bH];split
  ·exact hw
  ·exact h.lt x d
end
end Go.Proofs.YtmcnpaelaieniaaGreatDoor
