import Derived.Test.YtmcnpaelaieniaaGreatDoorQD
/- A part of the proof; see NOTES.md. -/
set_option linter.unusedVariables false
set_option linter.unusedSimpArgs false
namespace Go.Proofs.YtmcnpaelaieniaaGreatDoor
open Go.RowKit
theorem ik(a b:Int):dc (dc a+dc b)=dc (a+b):=by unfold dc;simp only[IntKind.wrap_i64];omega
theorem ji{n:Int}(h:-9223372036854775808<=n/\n<=9223372036854775807):dc n=n:=by unfold dc;rw[IntKind.wrap_i64];omega
abbrev jG:=List (Nat×Int)
def sh(a:Int)(t:Bool)(L:jG):jG:=(if t then L.reverse else L).map λ e=>(e.1,e.2+a)
theorem fN(L:jG):sh 0 false L=L:=by
 unfold sh;rw[if_neg (by decide)];rw[show (λ e:Nat×Int=>(e.1,e.2+0))=id by funext e;simp,List.map_id]
theorem rE(a:Int)(t:Bool)(L:jG):(sh a t L).length=L.length:=by unfold sh;cases t<;>simp
theorem tf{a:Int}{t:Bool}{L:jG}{e:Nat×Int}:e∈sh a t L↔(e.1,e.2-a)∈L:=by
 unfold sh;rw[GR]
 constructor
 ·rintro⟨d,hd,rfl⟩;have:(d.1,d.2+a-a)=d:=by ext<;>simp
  rw[this]
  cases t<;>simpa using hd
 ·intro h;refine⟨(e.1,e.2-a),?_,by ext<;>simp⟩
  cases t<;>simpa using h
theorem AB(a:Int)(t:Bool)(L:jG):((sh a t L).map Prod.fst).Perm (L.map Prod.fst):=by
 unfold sh
 cases t
 ·simp[IM]
 ·simp only[Ij,HQ,IM];rw[List.map_reverse];exact List.reverse_perm _
def ib(L:jG)(m:Int):Prop:=(∃ e∈L,e.2=m)/\∀ e∈L,m<=e.2
def iV(L:jG)(m:Int):Prop:=(∃ e∈L,e.2=m)/\∀ e∈L,e.2<=m
theorem ib.sh{L:jG}{m:Int}(h:ib L m)(a:Int)(t:Bool):ib (sh a t L) (m+a):=by
 obtain⟨⟨e,he,hm⟩,h2⟩:=h;refine⟨⟨(e.1,e.2+a),tf.2 (by simpa using he),by simp[hm]⟩,λ d hd=>?_⟩;have:=h2 _ (tf.1 hd);simp only at this;omega
theorem iV.sh{L:jG}{m:Int}(h:iV L m)(a:Int)(t:Bool):iV (sh a t L) (m+a):=by
 obtain⟨⟨e,he,hm⟩,h2⟩:=h;refine⟨⟨(e.1,e.2+a),tf.2 (by simpa using he),by simp[hm]⟩,λ d hd=>?_⟩;have:=h2 _ (tf.1 hd);simp only at this;omega
inductive T where
 |nil
 |node (l:T) (x:Nat) (v a:Int) (t:Bool) (r:T)
def T.root:T->Option Nat
 |.nil=>none
 |.node _ x _ _ _ _=>some x
def T.flat:T->jG
 |.nil=>[]
 |.node l x v a t r=>sh a t l.flat++(x,v)::sh a t r.flat
def T.nodes:T->LN
 |.nil=>[]
 |.node l x _ _ _ r=>l.nodes++x::r.nodes
theorem T.perm:∀ t:T,(t.flat.map Prod.fst).Perm t.nodes
 |.nil=>.nil
 |.node l x v a t r=>by
  simp only[flat,nodes,GX,GG];exact ((AB a t l.flat).trans l.perm).append (((AB a t r.flat).trans r.perm).cons x)
theorem T.mem_nodes{t:T}{y:Nat}:y∈t.nodes↔∃ v,(y,v)∈t.flat:=by
 rw[<- t.perm.mem_iff,GR]
 constructor
 ·rintro⟨e,he,rfl⟩;exact⟨e.2,he⟩
 ·rintro⟨v,hv⟩;exact⟨_,hv,rfl⟩
theorem T.len(t:T):t.flat.length=t.nodes.length:=by have:=t.perm.length_eq;rwa [GA] at this
theorem T.root_mem{t:T}{x:Nat}(h:t.root=some x):x∈t.nodes:=by
 cases t with
 |nil=>cases h
 |node l y v a t r=>simp only[T.root,Gs] at h;subst h;simp[T.nodes]
structure x9 (d:Nd) (p l r:Option Nat) (v a:Int) (t:Bool) (L:jG):Prop where
 up:d.up=p
 l:d.l=l
 r:d.r=r
 value:d.value=dc v
 add:d.add=dc a
 turned:d.turned=t
 size:d.size=dc L.length
 least:∃ m,ib L m/\d.least=dc m
 most:∃ m,iV L m/\d.most=dc m
def ed(ns:bQ):T->Option Nat->Prop
 |.nil,_=>True
 |.node l x v a t r,p=>x9 (ns x) p l.root r.root v a t (T.node l x v a t r).flat/\ed ns l (some x)/\ed ns r (some x)
theorem ed.congr{ns ns':bQ}:∀ {t:T} {p:Option Nat},ed ns t p->(∀ y∈t.nodes,ns' y=ns y)->ed ns' t p
 |.nil,_,_,_=>trivial
 |.node l x v a t r,p,⟨h1,h2,h3⟩,h=>⟨by rw[h x (by simp[T.nodes])];exact h1,h2.congr λ y hy=>h y (by simp[T.nodes,hy]),h3.congr λ y hy=>h y (by simp[T.nodes,hy])⟩
theorem ed.hung{ns ns':bQ}{q:Option Nat}:∀ {t:T} {p:Option Nat},ed ns t p->(∀ y∈t.nodes,some y≠t.root->ns' y=ns y)->(∀ x,t.root=some x->ns' x={ ns x with up:=q })->t.nodes.Nodup->ed ns' t q
 |.nil,_,_,_,_,_=>trivial
 |.node l x v a t r,p,⟨h1,h2,h3⟩,h,hx,hn=>by
  simp only[T.nodes,GI,GS] at hn;have e:=hx x rfl;refine⟨?_,h2.congr λ y hy=>h y (by simp[T.nodes,hy]) (λ he=>?_),h3.congr λ y hy=>h y (by simp[T.nodes,hy]) (λ he=>?_)⟩
  ·rw[e];exact⟨rfl,h1.l,h1.r,h1.value,h1.add,h1.turned,h1.size,h1.least,h1.most⟩
  ·simp only[T.root,Gs] at he;subst he;exact hn.2.2 y hy y (by simp) rfl
  ·simp only[T.root,Gs] at he;subst he;exact hn.2.1.1 hy
def T.lay(b:Int)(s:Bool):T->T
 |.nil=>.nil
 |.node l x v a t r=>if s then .node r x (v+b) (a+b) (!t) l else .node l x (v+b) (a+b) t r
theorem T.lay_root(b:Int)(s:Bool)(t:T):(t.lay b s).root=t.root:=by
 cases t with
 |nil=>rfl
 |node l x v a t r=>cases s<;>rfl
theorem T.lay_nodes(b:Int)(s:Bool)(t:T):(t.lay b s).nodes.Perm t.nodes:=by
 cases t with
 |nil=>exact .refl _
 |node l x v a t r=>
  cases s
  ·exact .refl _
  ·show (r.nodes++x::l.nodes).Perm (l.nodes++x::r.nodes);have h1:(r.nodes++x::l.nodes).Perm (x::(r.nodes++l.nodes)):=IT;have h2:(l.nodes++x::r.nodes).Perm (x::(l.nodes++r.nodes)):=IT;exact h1.trans ((List.perm_append_comm.cons x).trans h2.symm)
theorem T.lay_flat(b:Int)(s:Bool)(t:T):(t.lay b s).flat=sh b s t.flat:=by
 cases t with
 |nil=>cases s<;>rfl
 |node l x v a t r=>
  cases s
  ·show sh (a+b) t l.flat++(x,v+b)::sh (a+b) t r.flat=sh b false (sh a t l.flat++(x,v)::sh a t r.flat);unfold sh;cases t<;>simp[Int.add_assoc,IM]
  ·show sh (a+b) (!t) r.flat++(x,v+b)::sh (a+b) (!t) l.flat=sh b true (sh a t l.flat++(x,v)::sh a t r.flat);unfold sh;cases t<;>simp[Int.add_assoc,IM]
theorem T.lay_size(b:Int)(s:Bool)(t:T):(t.lay b s).nodes.length=t.nodes.length:=(T.lay_nodes b s t).length_eq
theorem d7{ns:bQ}{c:Option Nat}{a:Int}{s:Bool}{y:Nat}(h:c≠some y):fU ns c a s y=ns y:=by
 cases c with
 |none=>rfl
 |some x=>exact eG _ _ (λ e=>h (by rw[e]))
theorem ed.lay{ns:bQ}{b:Int}{s:Bool}{t:T}{p:Option Nat}(h:ed ns t p)(hn:t.nodes.Nodup):ed (fU ns t.root (dc b) s) (t.lay b s) p:=by
 cases t with
 |nil=>trivial
 |node l x v a t r=>
  obtain⟨h1,h2,h3⟩:=h;simp only[T.nodes,GI,GS] at hn
  have hl:∀ y∈l.nodes,fU ns (some x) (dc b) s y=ns y:=λ y hy=>d7 (λ e=>by
   simp only[Gs] at e;subst e;exact hn.2.2 _ hy _ (by simp) rfl)
  have hr:∀ y∈r.nodes,fU ns (some x) (dc b) s y=ns y:=λ y hy=>d7 (λ e=>by
   simp only[Gs] at e;subst e;exact hn.2.1.1 hy)
  have hx:fU ns (some x) (dc b) s x=qt (ns x) (dc b) s:=dg _ _ _;have hf:=T.lay_flat b s (.node l x v a t r);obtain⟨m,hm1,hm2⟩:=h1.least;obtain⟨m',hm3,hm4⟩:=h1.most
  cases s with
  |false=>
   refine⟨?_,h2.congr hl,h3.congr hr⟩;show x9 (fU ns (some x) (dc b) false x) _ _ _ _ _ _ ((T.node l x v a t r).lay b false).flat;rw[hx,hf]
   exact⟨h1.up,h1.l,h1.r,by simp only[qt];rw[h1.value,ik],by simp only[qt];rw[h1.add,ik],h1.turned,by rw[rE];exact h1.size,
    ⟨_,hm1.sh b false,by simp only[qt];rw[hm2,ik]⟩,⟨_,hm3.sh b false,by simp only[qt];rw[hm4,ik]⟩⟩
  |true=>
   refine⟨?_,h3.congr hr,h2.congr hl⟩;show x9 (fU ns (some x) (dc b) true x) _ _ _ _ _ _ ((T.node l x v a t r).lay b true).flat;rw[hx,hf]
   exact⟨h1.up,h1.r,h1.l,by simp only[qt];rw[h1.value,ik],by simp only[qt];rw[h1.add,ik],by simp only[qt,if_true];rw[h1.turned],by rw[rE];exact h1.size,
    ⟨_,hm1.sh b true,by simp only[qt];rw[hm2,ik]⟩,⟨_,hm3.sh b true,by simp only[qt];rw[hm4,ik]⟩⟩
theorem u9(ns:bQ)(x y:Nat):(dZ ns x y).up=(ns y).up:=by
 have hl:∀ (m:bQ) (c:Option Nat) (a:Int) (s:Bool) (y:Nat),(fU m c a s y).up=(m y).up:=λ m c a s y=>by
  cases c with
  |none=>rfl
  |some z=>
   unfold fU gy;simp only;split
   ·rename_i e;subst e;rfl
   ·rfl
 unfold dZ;simp only[gy];split
 ·rename_i e;subst e;rw[hl,hl]
 ·rw[hl,hl]
theorem ed.push{ns:bQ}{l r:T}{x:Nat}{v a:Int}{t:Bool}{p:Option Nat}(h:ed ns (.node l x v a t r) p)(hn:(T.node l x v a t r).nodes.Nodup):
 ed (dZ ns x) (.node (l.lay a t) x v 0 false (r.lay a t)) p/\(∀ y,y∉(T.node l x v a t r).nodes->dZ ns x y=ns y)/\(T.node (l.lay a t) x v 0 false (r.lay a t)).flat=(T.node l x v a t r).flat:=by
 have hfl:(T.node (l.lay a t) x v 0 false (r.lay a t)).flat=(T.node l x v a t r).flat:=by
  simp only[T.flat,fN,T.lay_flat]
 have hn':=hn;simp only[T.nodes,GI,GS] at hn;obtain⟨hnl,⟨hxr,hnr⟩,hd⟩:=hn;obtain⟨h1,h2,h3⟩:=h;have hxl:x∉l.nodes:=λ hx=>hd x hx x (by simp) rfl;have hlr:∀ y∈l.nodes,y∉r.nodes:=λ y hy hy'=>hd y hy y (by simp[hy']) rfl;have nl:∀ y,y∉l.nodes->l.root≠some y:=λ y hy e=>hy (T.root_mem e);have nr:∀ y,y∉r.nodes->r.root≠some y:=λ y hy e=>hy (T.root_mem e);obtain⟨n1,hn1⟩:∃ n1,n1=fU ns l.root (dc a) t:=⟨_,rfl⟩;have e1:n1 x=ns x:=by rw[hn1];exact d7 (nl x hxl)
 obtain⟨n2,hn2⟩:∃ n2,n2=fU n1 r.root (dc a) t:=⟨_,rfl⟩;have e2:n2 x=ns x:=by rw[hn2,d7 (nr x hxr),e1]
 have hp:dZ ns x=gy n2 x { n2 x with add:=0,turned:=false }:=by
  unfold dZ;simp only;rw[h1.l,h1.r,h1.add,h1.turned,<- hn1,e1,h1.add,h1.turned,<- hn2]
 have oth:∀ y,y≠x->dZ ns x y=n2 y:=λ y hy=>by rw[hp,eG _ _ hy]
 have hx:dZ ns x x={ ns x with add:=0,turned:=false }:=by rw[hp,dg,e2]
 refine⟨⟨?_,?_,?_⟩,λ y hy=>?_,hfl⟩
 ·rw[hx,hfl,T.lay_root,T.lay_root];exact⟨h1.up,h1.l,h1.r,h1.value,rfl,rfl,h1.size,h1.least,h1.most⟩
 ·refine (ed.lay (b:=a) (s:=t) h2 hnl).congr λ y hy=>?_;have hy':=(T.lay_nodes a t l).mem_iff.1 hy;rw[oth y (λ e=>hxl (e▸hy')),hn2,d7 (nr y (hlr y hy')),hn1]
 ·have h3':ed n1 r (some x):=h3.congr fun y hy=>by rw[hn1];exact d7 (nl y (fun h=>hlr y h hy))
  refine (ed.lay (b:=a) (s:=t) h3' hnr).congr λ y hy=>?_;have hy':=(T.lay_nodes a t r).mem_iff.1 hy;rw[oth y (λ e=>hxr (e▸hy')),hn2]
 ·simp only[T.nodes,GE,GD,not_or] at hy;rw[oth y hy.2.1,hn2,d7 (nr y hy.2.2),hn1,d7 (nl y hy.1)]
def eZ(L:jG):Prop:=∀ e∈L,-4611686018427387904<=e.2/\e.2<=4611686018427387904
theorem ib.small{L:jG}{m:Int}(h:ib L m)(hs:eZ L):dc m=m:=by
 obtain⟨⟨e,he,rfl⟩,_⟩:=h;have:=hs e he;exact ji (by omega)
theorem iV.small{L:jG}{m:Int}(h:iV L m)(hs:eZ L):dc m=m:=by
 obtain⟨⟨e,he,rfl⟩,_⟩:=h;have:=hs e he;exact ji (by omega)
theorem ib.app{L K:jG}{m n:Int}(h:ib L m)(k:ib K n):ib (L++K) (ve m n):=by
 obtain⟨⟨e,he,rfl⟩,h2⟩:=h;obtain⟨⟨d,hd,rfl⟩,k2⟩:=k;unfold ve;split
 ·refine⟨⟨d,by simp[hd],rfl⟩,fun z hz=>?_⟩
  rcases GE.1 hz with hz|hz
  ·have:=h2 z hz;omega
  ·exact k2 z hz
 ·refine⟨⟨e,by simp[he],rfl⟩,fun z hz=>?_⟩
  rcases GE.1 hz with hz|hz
  ·exact h2 z hz
  ·have:=k2 z hz;omega
theorem iV.app{L K:jG}{m n:Int}(h:iV L m)(k:iV K n):iV (L++K) (xS m n):=by
 obtain⟨⟨e,he,rfl⟩,h2⟩:=h;obtain⟨⟨d,hd,rfl⟩,k2⟩:=k;unfold xS;split
 ·refine⟨⟨d,by simp[hd],rfl⟩,fun z hz=>?_⟩
  rcases GE.1 hz with hz|hz
  ·have:=h2 z hz;omega
  ·exact k2 z hz
 ·refine⟨⟨e,by simp[he],rfl⟩,fun z hz=>?_⟩
  rcases GE.1 hz with hz|hz
  ·exact h2 z hz
  ·have:=k2 z hz;omega
theorem ib.perm{L K:jG}{m:Int}(h:ib L m)(hp:L.Perm K):ib K m:=by
 obtain⟨⟨e,he,hm⟩,h2⟩:=h;exact⟨⟨e,hp.mem_iff.1 he,hm⟩,λ d hd=>h2 d (hp.mem_iff.2 hd)⟩
theorem iV.perm{L K:jG}{m:Int}(h:iV L m)(hp:L.Perm K):iV K m:=by
 obtain⟨⟨e,he,hm⟩,h2⟩:=h;exact⟨⟨e,hp.mem_iff.1 he,hm⟩,λ d hd=>h2 d (hp.mem_iff.2 hd)⟩
structure wT (d:Nd) (K:jG):Prop where
 size:d.size=dc K.length
 least:ib K d.least
 most:iV K d.most
theorem qa{ns:bQ}{x:Nat}{t:T}{K:jG}{q:Option Nat}(ht:ed ns t q)(hs:eZ t.flat)(hp:wT (ns x) K)(hxt:x∉t.nodes):
 wT (fR ns x t.root x) (K++t.flat)/\(∀ y,y≠x->fR ns x t.root y=ns y)/\(fR ns x t.root x).up=(ns x).up/\(fR ns x t.root x).l=(ns x).l/\(fR ns x t.root x).r=(ns x).r/\(fR ns x t.root x).value=(ns x).value/\(fR ns x t.root x).add=(ns x).add/\(fR ns x t.root x).turned=(ns x).turned:=by
 cases t with
 |nil=>exact⟨by simpa [T.flat,T.root,fR] using hp,λ _ _=>rfl,rfl,rfl,rfl,rfl,rfl,rfl⟩
 |node l y v a t r=>
  obtain⟨h1,_,_⟩:=ht;obtain⟨m,hm,hml⟩:=h1.least;obtain⟨m',hm',hml'⟩:=h1.most;rw[hm.small hs] at hml;rw[hm'.small hs] at hml';have e:fR ns x (some y) x={ ns x with size:=dc ((ns x).size+(ns y).size),least:=ve (ns x).least (ns y).least,most:=xS (ns x).most (ns y).most }:=dg _ _ _;refine⟨?_,λ z hz=>eG _ _ hz,?_⟩
  ·show wT (fR ns x (some y) x) _;rw[e];refine⟨?_,?_,?_⟩
   ·simp only;rw[hp.size,h1.size,ik,Gx,IG]
   ·simp only;rw[hml];exact hp.least.app hm
   ·simp only;rw[hml'];exact hp.most.app hm'
  ·show (fR ns x (some y) x).up=_/\_;rw[show T.root (.node l y v a t r)=some y from rfl,e];exact⟨rfl,rfl,rfl,rfl,rfl,rfl⟩
theorem ed.pull{ns:bQ}{l r:T}{x:Nat}{v:Int}{p:Option Nat}(hl:ed ns l (some x))(hr:ed ns r (some x))(hxl:x∉l.nodes)(hxr:x∉r.nodes)(h1:(ns x).up=p)(h2:(ns x).l=l.root)(h3:(ns x).r=r.root)
 (h4:(ns x).value=dc v) (h5:(ns x).add=dc 0) (h6:(ns x).turned=false) (hs:eZ (T.node l x v 0 false r).flat):
 ed (fk ns x) (.node l x v 0 false r) p/\∀ y,y≠x->fk ns x y=ns y:=by
 have hfl:(T.node l x v 0 false r).flat=l.flat++(x,v)::r.flat:=by simp only[T.flat,fN]
 rw[hfl] at hs;have hv:=hs (x,v) (by simp);have hv':dc v=v:=ji (by simp only at hv;omega);obtain⟨n0,hn0⟩:∃ n0,n0=gy ns x { ns x with size:=1,least:=(ns x).value,most:=(ns x).value }:=⟨_,rfl⟩;have e0:n0 x={ ns x with size:=1,least:=(ns x).value,most:=(ns x).value }:=by rw[hn0,dg]
 have o0:∀ y,y≠x->n0 y=ns y:=λ y hy=>by rw[hn0,eG _ _ hy]
 have p0:wT (n0 x) [(x,v)]:=by
  rw[e0];refine⟨rfl,?_,?_⟩
  ·simp only;rw[h4,hv'];exact⟨⟨(x,v),by simp,rfl⟩,λ e he=>by rw[Gy.1 he];exact HK _⟩
  ·simp only;rw[h4,hv'];exact⟨⟨(x,v),by simp,rfl⟩,λ e he=>by rw[Gy.1 he];exact HK _⟩
 have hl0:ed n0 l (some x):=hl.congr λ y hy=>o0 y (λ e=>hxl (e▸hy));obtain⟨q1,q2,q3,q4,q5,q6,q7,q8⟩:=qa hl0 (λ e he=>hs e (by simp[he])) p0 hxl;obtain⟨n1,hn1⟩:∃ n1,n1=fR n0 x l.root:=⟨_,rfl⟩;rw[<- hn1] at q1 q2 q3 q4 q5 q6 q7 q8
 have hr1:ed n1 r (some x):=hr.congr λ y hy=>by
  have hy':y≠x:=λ e=>hxr (e▸hy);rw[q2 y hy',o0 y hy']
 obtain⟨s1,s2,s3,s4,s5,s6,s7,s8⟩:=qa hr1 (λ e he=>hs e (by simp[he])) q1 hxr
 have hp:fk ns x=fR n1 x r.root:=by
  unfold fk;rw[h2,h3,<- hn0,<- hn1]
 rw[<- hp] at s1 s2 s3 s4 s5 s6 s7 s8
 have hperm:([(x,v)]++l.flat++r.flat).Perm (l.flat++(x,v)::r.flat):=by
  rw[G4];show ((x,v)::(l.flat++r.flat)).Perm _;exact List.perm_middle.symm
 have oth:∀ y,y≠x->fk ns x y=ns y:=λ y hy=>by rw[s2 y hy,q2 y hy,o0 y hy]
 rw[e0] at q3 q4 q5 q6 q7 q8;refine⟨⟨?_,hl.congr λ y hy=>oth y (λ e=>hxl (e▸hy)),hr.congr λ y hy=>oth y (λ e=>hxr (e▸hy))⟩,oth⟩;rw[hfl];have hmin:=s1.least.perm hperm;have hmax:=s1.most.perm hperm;refine⟨by rw[s3,q3];exact h1,by rw[s4,q4];exact h2,by rw[s5,q5];exact h3,by rw[s6,q6];exact h4,by rw[s7,q7];exact h5,by rw[s8,q8];exact h6,?_,⟨_,hmin,?_⟩,⟨_,hmax,?_⟩⟩
 ·rw[s1.size,hperm.length_eq]
 ·exact (hmin.small hs).symm
 ·exact (hmax.small hs).symm
structure Fr where
 hl:Bool
 x:Nat
 v:Int
 sib:T
def Fr.fill(f:Fr)(t:T):T:=if f.hl then .node t f.x f.v 0 false f.sib else .node f.sib f.x f.v 0 false t
def Fr.fl(f:Fr)(L:jG):jG:=if f.hl then L++(f.x,f.v)::f.sib.flat else f.sib.flat++(f.x,f.v)::L
def dP(t:T):List Fr->T
 |[]=>t
 |f::c=>dP (f.fill t) c
def uP(L:jG):List Fr->jG
 |[]=>L
 |f::c=>uP (f.fl L) c
def kj(c:List Fr)(q:Option Nat):Option Nat:=match c with
 |[]=>q
 |f::_=>some f.x
def dt:List Fr->LN
 |[]=>[]
 |f::c=>f.x::f.sib.nodes++dt c
theorem Fr.fill_flat(f:Fr)(t:T):(f.fill t).flat=f.fl t.flat:=by
 unfold fill fl;split<;>simp only[T.flat,fN]
theorem Fr.fill_root(f:Fr)(t:T):(f.fill t).root=some f.x:=by unfold fill;split<;>rfl
theorem Fr.fill_nodes(f:Fr)(t:T):(f.fill t).nodes.Perm (t.nodes++f.x::f.sib.nodes):=by
 unfold fill;split
 ·exact .refl _
 ·show (f.sib.nodes++f.x::t.nodes).Perm _;have h1:(f.sib.nodes++f.x::t.nodes).Perm (f.x::(f.sib.nodes++t.nodes)):=IT;exact (h1.trans (List.perm_append_comm.cons _)).trans List.perm_middle.symm
theorem lF:∀ (c:List Fr) (t:T),(dP t c).flat=uP t.flat c
 |[],_=>rfl
 |f::c,t=>by rw[dP,uP,lF c,f.fill_flat]
theorem jT:∀ (c:List Fr) (t:T),(dP t c).nodes.Perm (t.nodes++dt c)
 |[],t=>by simp[dP,dt]
 |f::c,t=>by
  rw[dP,dt];refine (jT c _).trans (((f.fill_nodes t).append_right _).trans ?_);rw[G4]
def tx(ns:bQ)(f:Fr)(p h:Option Nat)(L:jG):Prop:=
 x9 (ns f.x) p (if f.hl then h else f.sib.root) (if f.hl then f.sib.root else h) f.v 0 false (f.fl L)/\ed ns f.sib (some f.x)
def kA(ns:bQ)(q:Option Nat):List Fr->Option Nat->jG->Prop
 |[],_,_=>True
 |f::c,h,L=>tx ns f (kj c q) h L/\kA ns q c (some f.x) (f.fl L)
theorem gK{ns:bQ}{f:Fr}{t:T}{p:Option Nat}:ed ns (f.fill t) p↔ed ns t (some f.x)/\tx ns f p t.root t.flat:=by
 unfold tx;rw[<- f.fill_flat];unfold Fr.fill
 cases f.hl
 ·simp only[I6,IQ,ed];exact⟨λ ⟨h1,h2,h3⟩=>⟨h3,h1,h2⟩,λ ⟨h3,h1,h2⟩=>⟨h1,h2,h3⟩⟩
 ·simp only[Ij,ed];exact⟨λ ⟨h1,h2,h3⟩=>⟨h2,h1,h3⟩,λ ⟨h2,h1,h3⟩=>⟨h1,h2,h3⟩⟩
theorem kD{ns:bQ}{q:Option Nat}:∀ {c:List Fr} {t:T},ed ns (dP t c) q↔ed ns t (kj c q)/\kA ns q c t.root t.flat
 |[],t=>by simp[dP,kj,kA]
 |f::c,t=>by
  rw[dP,kD (c:=c),gK,f.fill_root,f.fill_flat];simp only[kA,kj];exact⟨λ ⟨⟨h1,h2⟩,h3⟩=>⟨h1,h2,h3⟩,λ ⟨h1,h2,h3⟩=>⟨⟨h1,h2⟩,h3⟩⟩
theorem tx.congr{ns ns':bQ}{f:Fr}{p h:Option Nat}{L:jG}(k:tx ns f p h L)(hx:ns' f.x=ns f.x)(hs:∀ y∈f.sib.nodes,ns' y=ns y):tx ns' f p h L:=
 ⟨by rw[hx];exact k.1,k.2.congr hs⟩
theorem kA.congr{ns ns':bQ}{q:Option Nat}:∀ {c:List Fr} {h:Option Nat} {L:jG},kA ns q c h L->(∀ y∈dt c,ns' y=ns y)->kA ns' q c h L
 |[],_,_,_,_=>trivial
 |f::c,h,L,⟨h1,h2⟩,hc=>⟨h1.congr (hc _ (by simp[dt])) λ y hy=>hc y (by simp[dt,hy]),h2.congr λ y hy=>hc y (by simp[dt,hy])⟩
theorem kA.rehang{ns ns':bQ}{q:Option Nat}{c:List Fr}{h h':Option Nat}{L:jG}(k:kA ns q c h L)(hn:(dt c).Nodup)(h1:∀ f c',c=f::c'->ns' f.x=cJ (ns f.x) (if f.hl then 0 else 1) h')
 (h2:∀ y∈dt c,some y≠kj c none->ns' y=ns y):kA ns' q c h' L:=by
 cases c with
 |nil=>trivial
 |cons f c=>
  obtain⟨⟨k1,k2⟩,k3⟩:=k;have e:=h1 f c rfl;simp only[dt,GS,Hp] at hn
  have oth:∀ y∈f.sib.nodes++dt c,ns' y=ns y:=λ y hy=>h2 y (by simp only[dt,Hp,GD];exact .inr hy) (λ e=>by
   simp only[kj,Gs] at e;subst e;exact hn.1 hy)
  refine⟨⟨?_,k2.congr λ y hy=>oth y (by simp[hy])⟩,k3.congr λ y hy=>oth y (by simp[hy])⟩;rw[e];unfold cJ
  cases hf:f.hl
  ·rw[hf] at k1;simp only[I6,IQ] at k1 ⊢;exact⟨k1.up,k1.l,rfl,k1.value,k1.add,k1.turned,k1.size,k1.least,k1.most⟩
  ·rw[hf] at k1;simp only[Ij] at k1 ⊢;exact⟨k1.up,rfl,k1.r,k1.value,k1.add,k1.turned,k1.size,k1.least,k1.most⟩
theorem lq{ns:bQ}{f:Fr}{p:Option Nat}{t:T}{x:Nat}(k:tx ns f p t.root t.flat)(hx:t.root=some x)(hxs:x∉f.sib.nodes):dG ns x f.x=if f.hl then 0 else 1:=by
 unfold dG;rw[k.1.r]
 cases hf:f.hl
 ·simp[hx]
 ·simp only[Ij];rw[if_neg (λ e=>hxs (T.root_mem e))]
def qN(f:Fr)(l:T)(x:Nat)(v:Int)(r:T):T:=if f.hl then .node l x v 0 false (.node r f.x f.v 0 false f.sib) else .node (.node f.sib f.x f.v 0 false l) x v 0 false r
theorem uN(f:Fr)(l:T)(x:Nat)(v:Int)(r:T):(qN f l x v r).flat=f.fl (T.node l x v 0 false r).flat:=by
 unfold qN Fr.fl;split<;>simp only[T.flat,fN]<;>simp
theorem mG(ns:bQ)(g:Option Nat)(top x y:Nat):Bu ns g top x y=if g=some y then cJ (ns y) top (some x) else ns y:=by
 cases g with
 |none=>rw[if_neg (by simp)];rfl
 |some g=>
  show gy ns g (cJ (ns g) top (some x)) y=_;by_cases e:y=g
  ·subst e;rw[dg,if_pos rfl]
  ·rw[eG _ _ e,if_neg (λ h=>e (by simpa using h.symm))]
theorem rZ(ns:bQ)(c:Option Nat)(b s y:Nat)(hc:c≠some b):eJ ns c b s y=if c=some y then { ns y with up:=some b } else if y=b then cJ (ns b) s c else ns y:=by
 cases c with
 |none=>
  rw[if_neg (by simp)];show gy ns b (cJ (ns b) s none) y=_;by_cases e:y=b
  ·subst e;rw[dg,if_pos rfl]
  ·rw[eG _ _ e,if_neg e]
 |some z=>
  have hz:z≠b:=λ e=>hc (by rw[e]);show gy (gy ns b (cJ (ns b) s (some z))) z { gy ns b (cJ (ns b) s (some z)) z with up:=some b } y=_;by_cases e:y=z
  ·subst e;rw[dg,eG _ _ hz,if_pos rfl]
  ·rw[eG _ _ e,if_neg (fun h=>e (by simpa using h.symm))];by_cases e2:y=b
   ·subst e2;rw[dg,if_pos rfl]
   ·rw[eG _ _ e2,if_neg e2]
def ui(ns:bQ)(x p:Nat):bQ:=Bu (gy (eJ (eJ ns (ju (ns x) (1-dG ns x p)) p (dG ns x p)) (some p) x (1-dG ns x p)) x
 { eJ (eJ ns (ju (ns x) (1-dG ns x p)) p (dG ns x p)) (some p) x (1-dG ns x p) x with up:=(ns p).up }) (ns p).up (mJ ns p) x
theorem wb(ns:bQ)(x p:Nat):c9 ns x p=fk (fk (ui ns x p) p) x:=rfl
theorem C5{ns:bQ}{x p s:Nat}{c0 g:Option Nat}(hs:dG ns x p=s)(hc:ju (ns x) (1-s)=c0)(hg:(ns p).up=g)(hxp:x≠p)(hcx:c0≠some x)(hcp:c0≠some p)(hgx:g≠some x)(hgp:g≠some p)(hgc:∀ y,c0=some y->g≠some y):
 ui ns x p x={ cJ (ns x) (1-s) (some p) with up:=g }/\ui ns x p p={ cJ (ns p) s c0 with up:=some x }/\(∀ y,c0=some y->ui ns x p y={ ns y with up:=some p })/\
  (∀ y,g=some y->ui ns x p y=cJ (ns y) (mJ ns p) (some x))/\∀ y,y≠x->y≠p->c0≠some y->g≠some y->ui ns x p y=ns y:=by
 unfold ui;rw[hs,hc,hg];have h1:=λ y=>rZ ns c0 p s y hcp;have h2:=λ y=>rZ (eJ ns c0 p s) (some p) x (1-s) y (λ e=>hxp (by simpa using e.symm));have e1:eJ ns c0 p s x=ns x:=by rw[h1,if_neg hcx,if_neg hxp]
 have e2:eJ ns c0 p s p=cJ (ns p) s c0:=by rw[h1,if_neg hcp,if_pos rfl]
 have f1:eJ (eJ ns c0 p s) (some p) x (1-s) x=cJ (ns x) (1-s) (some p):=by
  rw[h2,if_neg (λ e=>hxp (by simpa using e.symm)),if_pos rfl,e1]
 refine⟨?_,?_,λ y hy=>?_,λ y hy=>?_,λ y hyx hyp hyc hyg=>?_⟩
 ·rw[mG,if_neg hgx,dg,f1]
 ·rw[mG,if_neg hgp,eG _ _ (Ne.symm hxp),h2,if_pos rfl,e2]
 ·have hyx:y≠x:=λ e=>hcx (by rw[hy,e]);have hyp:y≠p:=λ e=>hcp (by rw[hy,e]);rw[mG,if_neg (hgc y hy),eG _ _ hyx,h2,if_neg (λ e=>hyp (by simpa using e.symm)),if_neg hyx,h1,if_pos hy]
 ·have hyx:y≠x:=λ e=>hgx (by rw[hy,e]);have hyp:y≠p:=λ e=>hgp (by rw[hy,e]);have hyc:c0≠some y:=λ e=>hgc y e hy;rw[mG,if_pos hy,eG _ _ hyx,h2,if_neg (λ e=>hyp (by simpa using e.symm)),if_neg hyx,h1,if_neg hyc,if_neg hyp]
 ·rw[mG,if_neg hyg,eG _ _ hyx,h2,if_neg (λ e=>hyp (by simpa using e.symm)),if_neg hyx,h1,if_neg hyc,if_neg hyp]
theorem rT{e:Nat×Int}:∀ {c:List Fr} {L:jG},e∈L->e∈uP L c
 |[],_,h=>h
 |f::c,L,h=>rT (c:=c) (by unfold Fr.fl;split<;>simp[h])
theorem eZ.plug{c:List Fr}{L:jG}(h:eZ (uP L c)):eZ L:=λ e he=>h e (rT he)
theorem mS{c:List Fr}{g:Nat}(h:kj c none=some g):g∈dt c:=by
 cases c with
 |nil=>cases h
 |cons f c=>simp only[kj,Gs] at h;subst h;simp[dt]
theorem jl{ns:bQ}{f:Fr}{l r:T}{x:Nat}{v:Int}{c:List Fr}(hR:ed ns (dP (f.fill (.node l x v 0 false r)) c) none)(hn:(dP (f.fill (.node l x v 0 false r)) c).nodes.Nodup)
 (hs:eZ (dP (f.fill (.node l x v 0 false r)) c).flat):
 ed (c9 ns x f.x) (dP (qN f l x v r) c) none/\(∀ y,y∉(dP (f.fill (.node l x v 0 false r)) c).nodes->c9 ns x f.x y=ns y)/\(dP (qN f l x v r) c).flat=(dP (f.fill (.node l x v 0 false r)) c).flat/\(ns x).up=some f.x/\(ns f.x).up=kj c none:=by
 have hperm:(dP (f.fill (.node l x v 0 false r)) c).nodes.Perm (((l.nodes++x::r.nodes)++f.x::f.sib.nodes)++dt c):=(jT c _).trans ((f.fill_nodes _).append_right _);have hfl:(dP (qN f l x v r) c).flat=(dP (f.fill (.node l x v 0 false r)) c).flat:=by rw[lF,lF,uN,f.fill_flat]
 have hn2:=hperm.nodup_iff.1 hn;have hmem:=λ y=>(hperm.mem_iff (a:=y));rw[lF] at hs;have hs:=hs.plug;rw[f.fill_flat] at hs;obtain⟨hF,hC⟩:=kD.1 hR;rw[f.fill_root,f.fill_flat] at hC;obtain⟨⟨hSx,hl,hr⟩,hFr⟩:=gK.1 hF;obtain⟨p,hp⟩:∃ p,f.x=p:=⟨_,rfl⟩
 have hnd:∀ y,(y∈l.nodes->y≠x/\y∉r.nodes/\y≠p/\y∉f.sib.nodes/\y∉dt c)/\(y∈r.nodes->y≠x/\y∉l.nodes/\y≠p/\y∉f.sib.nodes/\y∉dt c)/\(y∈f.sib.nodes->y≠x/\y≠p/\y∉l.nodes/\y∉r.nodes/\y∉dt c)/\(y∈dt c->y≠x/\y≠p/\y∉l.nodes/\y∉r.nodes/\y∉f.sib.nodes)/\x≠p:=by
  rw[hp] at hn2;simp only[GI,GS,GE,GD] at hn2;obtain⟨⟨⟨_,⟨h2,_⟩,h4⟩,⟨h5,_⟩,h7⟩,_,h9⟩:=hn2;intro y
  refine⟨λ h=>⟨h4 y h x (.inl rfl),λ k=>h4 y h y (.inr k) rfl,h7 y (.inl h) p (.inl rfl),λ k=>h7 y (.inl h) y (.inr k) rfl,λ k=>h9 y (.inl (.inl h)) y k rfl⟩,
   λ h=>⟨λ e=>h2 (e▸h),λ k=>h4 y k y (.inr h) rfl,h7 y (.inr (.inr h)) p (.inl rfl),λ k=>h7 y (.inr (.inr h)) y (.inr k) rfl,λ k=>h9 y (.inl (.inr (.inr h))) y k rfl⟩,
   λ h=>⟨λ e=>h7 x (.inr (.inl rfl)) y (.inr h) e.symm,λ e=>h5 (e▸h),λ k=>h7 y (.inl k) y (.inr h) rfl,λ k=>h7 y (.inr (.inr k)) y (.inr h) rfl,λ k=>h9 y (.inr (.inr h)) y k rfl⟩,
   λ h=>⟨λ e=>h9 x (.inl (.inr (.inl rfl))) y h e.symm,λ e=>h9 p (.inr (.inl rfl)) y h e.symm,λ k=>h9 y (.inl (.inl k)) y h rfl,λ k=>h9 y (.inl (.inr (.inr k))) y h rfl,λ k=>h9 y (.inr (.inr k)) y h rfl⟩,
   h7 x (.inr (.inl rfl)) p (.inl rfl)⟩
 have hcn:(dt c).Nodup:=(GI.1 hn2).2.1;have hln:l.nodes.Nodup:=by simp only[GI] at hn2;exact hn2.1.1.1
 have hrn:r.nodes.Nodup:=by simp only[GI,GS] at hn2;exact hn2.1.1.2.1.2
 have hxp:x≠p:=(hnd 0).2.2.2.2;have hside:dG ns x p=if f.hl then 0 else 1:=by rw[<- hp];exact lq (t:=.node l x v 0 false r) hFr rfl (λ h=>((hnd x).2.2.1 h).1 rfl)
 have hg:(ns p).up=kj c none:=by rw[<- hp];exact hFr.1.up
 obtain⟨c0,hc0⟩:∃ c0,ju (ns x) (1-(if f.hl then 0 else 1))=c0:=⟨_,rfl⟩
 have hc0':c0=if f.hl then r.root else l.root:=by
  rw[<- hc0]
  cases f.hl
  ·exact hSx.l
  ·exact hSx.r
 have hc0m:∀ y,c0=some y->y∈l.nodes\/y∈r.nodes:=by
  intro y hy;rw[hc0'] at hy;split at hy
  ·exact .inr (T.root_mem hy)
  ·exact .inl (T.root_mem hy)
 have hcx:c0≠some x:=λ e=>by rcases hc0m _ e with h|h;exact ((hnd x).1 h).1 rfl;exact ((hnd x).2.1 h).1 rfl
 have hcp:c0≠some p:=λ e=>by rcases hc0m _ e with h|h;exact ((hnd p).1 h).2.2.1 rfl;exact ((hnd p).2.1 h).2.2.1 rfl
 have hgx:kj c none≠some x:=λ e=>((hnd x).2.2.2.1 (mS e)).1 rfl;have hgp:kj c none≠some p:=λ e=>((hnd p).2.2.2.1 (mS e)).2.1 rfl
 have hgc:∀ y,c0=some y->kj c none≠some y:=λ y hy e=>by
  have h2:=(hnd y).2.2.2.1 (mS e)
  rcases hc0m y hy with h|h
  ·exact h2.2.2.1 h
  ·exact h2.2.2.2.1 h
 obtain⟨a1,a2,a3,a4,a5⟩:=C5 hside hc0 hg hxp hcx hcp hgx hgp hgc;have hgn:∀ y,y∉dt c->kj c none≠some y:=λ y hy e=>hy (mS e);obtain⟨n4,hn4⟩:∃ n4,n4=ui ns x p:=⟨_,rfl⟩;rw[<- hn4] at a1 a2 a3 a4 a5;have hrm:c9 ns x p=fk (fk n4 p) x:=by rw[wb,hn4]
 -- the hole's new content, once the twoD are reckoned
 have fin:∀ n6:bQ,(∀ y,y≠x->y≠p->n6 y=n4 y)->kA n6 none c (some x) (f.fl (T.node l x v 0 false r).flat)/\∀ y,y∉(dP (f.fill (.node l x v 0 false r)) c).nodes->n6 y=ns y:=by
  intro n6 h6;refine⟨hC.rehang hcn (λ f2 c2 hc2=>?_) (λ y hy hne=>?_),λ y hy=>?_⟩
  ·subst hc2;have hm:f2.x∈dt (f2::c2):=by simp[dt]
   have hd:=(hnd f2.x).2.2.2.1 hm;rw[h6 _ hd.1 hd.2.1,a4 f2.x rfl]
   have htop:mJ ns p=if f2.hl then 0 else 1:=by
    unfold mJ;rw[hg];have hk:tx ns f2 (kj c2 none) (f.fill (.node l x v 0 false r)).root (f.fill (.node l x v 0 false r)).flat:=by rw[f.fill_root,f.fill_flat];exact hC.1
    refine lq hk (by rw[f.fill_root,hp]) (λ h=>?_);exact ((hnd p).2.2.2.1 (by simp[dt,h])).2.1 rfl
   rw[htop]
  ·have hd:=(hnd y).2.2.2.1 hy;rw[h6 y hd.1 hd.2.1,a5 y hd.1 hd.2.1 (λ e=>by rcases hc0m y e with h|h;exact hd.2.2.1 h;exact hd.2.2.2.1 h) (λ e=>hne e.symm)]
  ·have hy':¬ (y∈((l.nodes++x::r.nodes)++f.x::f.sib.nodes)++dt c):=λ h=>hy ((hmem y).2 h);rw[hp] at hy';simp only[GE,GD,not_or] at hy';obtain⟨⟨⟨g1,g2,g3⟩,g4,g5⟩,g6⟩:=hy';rw[h6 y g2 g4,a5 y g2 g4 (λ e=>by rcases hc0m y e with h|h;exact g1 h;exact g3 h) (hgn y g6)]
 have hsl:∀ e∈l.flat,-4611686018427387904<=e.2/\e.2<=4611686018427387904:=λ e he=>hs e (by unfold Fr.fl;split<;>simp[T.flat,fN,he]);have hsr:∀ e∈r.flat,-4611686018427387904<=e.2/\e.2<=4611686018427387904:=λ e he=>hs e (by unfold Fr.fl;split<;>simp[T.flat,fN,he]);have hss:∀ e∈f.sib.flat,-4611686018427387904<=e.2/\e.2<=4611686018427387904:=λ e he=>hs e (by unfold Fr.fl;split<;>simp[he]);have hsp:-4611686018427387904<=f.v/\f.v<=4611686018427387904:=hs (f.x,f.v) (by unfold Fr.fl;split<;>simp);have hsx:-4611686018427387904<=v/\v<=4611686018427387904:=hs (x,v) (by unfold Fr.fl;split<;>simp[T.flat]);have l4:∀ y∈l.nodes,c0≠some y->n4 y=ns y:=λ y hy hc=>by have:=(hnd y).1 hy;exact a5 y this.1 this.2.2.1 hc (hgn y this.2.2.2.2)
 have r4:∀ y∈r.nodes,c0≠some y->n4 y=ns y:=λ y hy hc=>by have:=(hnd y).2.1 hy;exact a5 y this.1 this.2.2.1 hc (hgn y this.2.2.2.2)
 have s4:∀ y∈f.sib.nodes,n4 y=ns y:=λ y hy=>by
  have:=(hnd y).2.2.1 hy;exact a5 y this.1 this.2.1 (λ e=>by rcases hc0m y e with h|h;exact this.2.2.1 h;exact this.2.2.2.1 h) (hgn y this.2.2.2.2)
 have hsib4:ed n4 f.sib (some p):=by rw[<- hp];exact hFr.2.congr s4
 have hpl:p∉l.nodes:=λ h=>((hnd p).1 h).2.2.1 rfl;have hpr:p∉r.nodes:=λ h=>((hnd p).2.1 h).2.2.1 rfl;have hps:p∉f.sib.nodes:=λ h=>((hnd p).2.2.1 h).2.1 rfl;have hxl:x∉l.nodes:=λ h=>((hnd x).1 h).1 rfl;have hxr:x∉r.nodes:=λ h=>((hnd x).2.1 h).1 rfl;have hxs:x∉f.sib.nodes:=λ h=>((hnd x).2.2.1 h).1 rfl;rw[hp]
 suffices hmain:ed (c9 ns x p) (qN f l x v r) (kj c none)/\∀ y,y≠x->y≠p->c9 ns x p y=n4 y by
  obtain⟨k1,k2⟩:=fin _ hmain.2;refine⟨kD.2 ⟨hmain.1,?_⟩,k2,hfl,by rw[<- hp];exact hSx.up,hg⟩;rw[uN];have:(qN f l x v r).root=some x:=by unfold qN;split<;>rfl
  rw[this];exact k1
 rw[hrm];have hFs:=hFr.1;rw[hp] at hFs
 cases hb:f.hl
 ·rw[hb] at hc0' hFs a1 a2;simp only[Bool.false_eq_true,if_false] at hc0' hFs a1 a2;have hl4:ed n4 l (some p):=hl.hung (fun y hy hne=>l4 y hy (fun e=>hne (by rw[← hc0',e]))) (fun y hy=>a3 y (by rw[hc0',hy])) hln
  obtain⟨q1,q2⟩:=ed.pull (x:=p) (v:=f.v) (p:=some x) hsib4 hl4 hps hpl (by rw[a2]) (by rw[a2];exact hFs.l) (by rw[a2,hc0'];rfl) (by rw[a2];exact hFs.value) (by rw[a2];exact hFs.add) (by rw[a2];exact hFs.turned) (λ e he=>by
   simp only[T.flat,fN,GE,GD] at he
   rcases he with he|rfl|he
   ·exact hss e he
   ·exact hsp
   ·exact hsl e he)
  have e5:fk n4 p x=n4 x:=q2 x hxp
  have hr5:ed (fk n4 p) r (some x):=hr.congr λ y hy=>by
   rw[q2 y (λ e=>hpr (e▸hy)),r4 y hy (λ e=>by
    have h1:=T.root_mem (t:=l) (by rw[<- hc0',e]);exact ((hnd y).1 h1).2.1 hy)]
  obtain⟨u1,u2⟩:=ed.pull (x:=x) (v:=v) (p:=kj c none) q1 hr5 (by
   simp only[T.nodes,GE,GD,not_or];exact⟨hxs,hxp,hxl⟩) hxr (by rw[e5,a1]) (by rw[e5,a1];rfl) (by rw[e5,a1];exact hSx.r) (by rw[e5,a1];exact hSx.value) (by rw[e5,a1];exact hSx.add) (by rw[e5,a1];exact hSx.turned) (λ e he=>by
   simp only[T.flat,fN,GE,GD] at he
   rcases he with (he|rfl|he)|rfl|he
   ·exact hss e he
   ·exact hsp
   ·exact hsl e he
   ·exact hsx
   ·exact hsr e he)
  refine⟨?_,λ y hy hyp=>by rw[u2 y hy,q2 y hyp]⟩;unfold qN;rw[hb,hp];exact u1
 ·rw[hb] at hc0' hFs a1 a2;simp only[if_true] at hc0' hFs a1 a2;have hr4:ed n4 r (some p):=hr.hung (fun y hy hne=>r4 y hy (fun e=>hne (by rw[← hc0',e]))) (fun y hy=>a3 y (by rw[hc0',hy])) hrn
  obtain⟨q1,q2⟩:=ed.pull (x:=p) (v:=f.v) (p:=some x) hr4 hsib4 hpr hps (by rw[a2]) (by rw[a2,hc0'];rfl) (by rw[a2];exact hFs.r) (by rw[a2];exact hFs.value) (by rw[a2];exact hFs.add) (by rw[a2];exact hFs.turned) (λ e he=>by
   simp only[T.flat,fN,GE,GD] at he
   rcases he with he|rfl|he
   ·exact hsr e he
   ·exact hsp
   ·exact hss e he)
  have e5:fk n4 p x=n4 x:=q2 x hxp
  have hl5:ed (fk n4 p) l (some x):=hl.congr λ y hy=>by
   rw[q2 y (λ e=>hpl (e▸hy)),l4 y hy (λ e=>by
    have h1:=T.root_mem (t:=r) (by rw[<- hc0',e]);exact ((hnd y).2.1 h1).2.1 hy)]
  obtain⟨u1,u2⟩:=ed.pull (x:=x) (v:=v) (p:=kj c none) hl5 q1 hxl (by
   simp only[T.nodes,GE,GD,not_or];exact⟨hxr,hxp,hxs⟩) (by rw[e5,a1]) (by rw[e5,a1];exact hSx.l) (by rw[e5,a1];rfl) (by rw[e5,a1];exact hSx.value) (by rw[e5,a1];exact hSx.add) (by rw[e5,a1];exact hSx.turned) (λ e he=>by
   simp only[T.flat,fN,GE,GD] at he
   rcases he with he|rfl|he|rfl|he
   ·exact hsl e he
   ·exact hsx
   ·exact hsr e he
   ·exact hsp
   ·exact hss e he)
  refine⟨?_,λ y hy hyp=>by rw[u2 y hy,q2 y hyp]⟩;unfold qN;rw[hb,hp];exact u1
theorem EW:∀ (n:Nat) (c:List Fr),c.length<=n->∀ (ns:bQ) (l r:T) (x:Nat) (v:Int),ed ns (dP (.node l x v 0 false r) c) none->(dP (.node l x v 0 false r) c).nodes.Nodup->eZ (dP (.node l x v 0 false r) c).flat->
 ∃ ns' l' r',zL ns x ns' c.length/\ed ns' (.node l' x v 0 false r') none/\(T.node l' x v 0 false r').flat=(dP (.node l x v 0 false r) c).flat/\∀ y,y∉(dP (.node l x v 0 false r) c).nodes->ns' y=ns y:=by
 intro n
 induction n with
 |zero=>
  intro c hc ns l r x v hR hn hs;obtain rfl:c=[]:=GM.1 (by omega);exact⟨ns,l,r,.done hR.1.up,hR,rfl,λ _ _=>rfl⟩
 |succ n ih=>
  intro c hc ns l r x v hR hn hs;have nodes_eq:∀ {t1 t2:T},t1.flat=t2.flat->t1.nodes.Perm t2.nodes:=λ {t1 t2} h=>(t1.perm.symm.trans (by rw[h])).trans t2.perm
  match c with
  |[]=>exact⟨ns,l,r,.done hR.1.up,hR,rfl,λ _ _=>rfl⟩
  |[f]=>
   obtain⟨k1,k2,k3,k4,k5⟩:=jl (c:=[]) hR hn hs;have hrot:∃ l' r',qN f l x v r=.node l' x v 0 false r':=by unfold qN;split<;>exact⟨_,_,rfl⟩
   obtain⟨l',r',he⟩:=hrot;simp only[dP] at k1 k2 k3;rw[he] at k1 k3;exact⟨_,l',r',.one k4 k5 (.done k1.1.up),k1,k3,k2⟩
  |f::f2::c=>
   have hlen:c.length<=n:=by simp at hc;omega
   by_cases hb:f.hl=f2.hl
   · -- in line
     have hview:∃ lp rp,f.fill (.node l x v 0 false r)=.node lp f.x f.v 0 false rp/\∃ f':Fr,qN f2 lp f.x f.v rp=f'.fill (.node l x v 0 false r)/\f'.x=f.x:=by
      cases h1:f.hl
      ·refine⟨f.sib,.node l x v 0 false r,by unfold Fr.fill;rw[h1];rfl,⟨false,f.x,f.v,.node f2.sib f2.x f2.v 0 false f.sib⟩,?_,rfl⟩;unfold qN Fr.fill;rw[<- hb,h1];rfl
      ·refine⟨.node l x v 0 false r,f.sib,by unfold Fr.fill;rw[h1];rfl,⟨true,f.x,f.v,.node f.sib f2.x f2.v 0 false f2.sib⟩,?_,rfl⟩;unfold qN Fr.fill;rw[<- hb,h1];rfl
     obtain⟨lp,rp,hv1,f',hv2,hv3⟩:=hview;have hR0:ed ns (dP (f2.fill (f.fill (.node l x v 0 false r))) c) none:=hR;obtain⟨hX1,hX2⟩:=kD.1 hR0;have hX3:=gK.1 (gK.1 hX1).1;have hup:(ns x).up=some f.x:=hX3.1.1.up;have hn0:(dP (f2.fill (f.fill (.node l x v 0 false r))) c).nodes.Nodup:=hn
     have hnd:x∉f.sib.nodes/\f.x∉f2.sib.nodes:=by
      have hp:=(jT c (f2.fill (f.fill (.node l x v 0 false r)))).nodup_iff.1 hn0;have h2:=(GI.1 hp).1;have h3:=(f2.fill_nodes _).nodup_iff.1 h2;obtain⟨h4,h5,h6⟩:=GI.1 h3;have h7:=(f.fill_nodes _).nodup_iff.1 h4;obtain⟨_,_,h8⟩:=GI.1 h7;refine⟨λ h=>h8 x (by simp[T.nodes]) x (by simp[h]) rfl,λ h=>h6 f.x ?_ f.x (by simp[h]) rfl⟩;exact (f.fill_nodes _).mem_iff.2 (by simp)
     have hs1:dG ns x f.x=if f.hl then 0 else 1:=lq (t:=.node l x v 0 false r) hX3.2 rfl hnd.1
     have hs2:dG ns f.x f2.x=if f2.hl then 0 else 1:=lq (t:=f.fill (.node l x v 0 false r)) (gK.1 hX1).2 (f.fill_root _) hnd.2
     rw[show dP (.node l x v 0 false r) (f::f2::c)=dP (f2.fill (.node lp f.x f.v 0 false rp)) c by rw[<- hv1];rfl] at hR hn hs ⊢;obtain⟨k1,k2,k3,k4,k5⟩:=jl hR hn hs;rw[hv2] at k1 k3;have hnA:=(nodes_eq k3).nodup_iff.2 hn;have hsA:=k3.symm▸hs;obtain⟨j1,j2,j3,j4,j5⟩:=jl k1 hnA hsA;rw[hv3] at j1 j2 j4;have hrot:∃ l' r',qN f' l x v r=.node l' x v 0 false r':=by unfold qN;split<;>exact⟨_,_,rfl⟩
     obtain⟨l',r',he⟩:=hrot;rw[he] at j1 j3;obtain⟨ns',l2,r2,m1,m2,m3,m4⟩:=ih c hlen _ l' r' x v j1 ((nodes_eq j3).nodup_iff.2 hnA) (j3.symm▸hsA);refine⟨ns',l2,r2,.line hup k4 (by rw[hs1,hs2,hb]) j4 m1,m2,by rw[m3,j3,k3],λ y hy=>?_⟩;have hyA:=λ h=>hy ((nodes_eq k3).mem_iff.1 h);rw[m4 y (λ h=>hyA ((nodes_eq j3).mem_iff.1 h)),j2 y hyA,k2 y hy]
   ·have hR0:ed ns (dP (f2.fill (f.fill (.node l x v 0 false r))) c) none:=hR;obtain⟨hX1,hX2⟩:=kD.1 hR0;have hX3:=gK.1 (gK.1 hX1).1;have hup:(ns x).up=some f.x:=hX3.1.1.up;have hup2:(ns f.x).up=some f2.x:=hX3.2.1.up;have hn0:(dP (f2.fill (f.fill (.node l x v 0 false r))) c).nodes.Nodup:=hn
    have hnd:x∉f.sib.nodes/\f.x∉f2.sib.nodes:=by
     have hp:=(jT c (f2.fill (f.fill (.node l x v 0 false r)))).nodup_iff.1 hn0;have h2:=(GI.1 hp).1;have h3:=(f2.fill_nodes _).nodup_iff.1 h2;obtain⟨h4,h5,h6⟩:=GI.1 h3;have h7:=(f.fill_nodes _).nodup_iff.1 h4;obtain⟨_,_,h8⟩:=GI.1 h7;refine⟨λ h=>h8 x (by simp[T.nodes]) x (by simp[h]) rfl,λ h=>h6 f.x ?_ f.x (by simp[h]) rfl⟩;exact (f.fill_nodes _).mem_iff.2 (by simp)
    have hs1:dG ns x f.x=if f.hl then 0 else 1:=lq (t:=.node l x v 0 false r) hX3.2 rfl hnd.1
    have hs2:dG ns f.x f2.x=if f2.hl then 0 else 1:=lq (t:=f.fill (.node l x v 0 false r)) (gK.1 hX1).2 (f.fill_root _) hnd.2
    rw[show dP (.node l x v 0 false r) (f::f2::c)=dP (f.fill (.node l x v 0 false r)) (f2::c) from rfl] at hR hn hs ⊢;obtain⟨k1,k2,k3,k4,k5⟩:=jl hR hn hs;have hrot:∃ l' r',qN f l x v r=.node l' x v 0 false r':=by unfold qN;split<;>exact⟨_,_,rfl⟩
    obtain⟨l1,r1,he⟩:=hrot;rw[he] at k1 k3;have hnA:=(nodes_eq k3).nodup_iff.2 hn;have hsA:=k3.symm▸hs;obtain⟨j1,j2,j3,j4,j5⟩:=jl (c:=c) k1 hnA hsA;have hrot2:∃ l' r',qN f2 l1 x v r1=.node l' x v 0 false r':=by unfold qN;split<;>exact⟨_,_,rfl⟩
    obtain⟨l',r',he2⟩:=hrot2;rw[he2] at j1 j3;obtain⟨ns',l2,r2,m1,m2,m3,m4⟩:=ih c hlen _ l' r' x v j1 ((nodes_eq j3).nodup_iff.2 hnA) (j3.symm▸hsA);refine⟨ns',l2,r2,.bent hup hup2 (by rw[hs1,hs2];cases h1:f.hl<;>cases h2:f2.hl<;>simp_all) j4 m1,m2,by rw[m3,j3];exact k3,λ y hy=>?_⟩;have hyA:=λ h=>hy ((nodes_eq k3).mem_iff.1 h);rw[m4 y (λ h=>hyA ((nodes_eq j3).mem_iff.1 h)),j2 y hyA,k2 y hy]
theorem bM{t1 t2:T}(h:t1.flat=t2.flat):t1.nodes.Perm t2.nodes:=(t1.perm.symm.trans (by rw[h])).trans t2.perm
def yy(ns:bQ)(q:Option Nat):Nat->LN->Prop
 |_,[]=>False
 |x,[y]=>x=y/\(ns x).up=q
 |x,y::z::l=>x=y/\(ns x).up=some z/\yy ns q z (z::l)
theorem yy.up{ns:bQ}:∀ {path:LN} {x:Nat},yy ns none x path->Up ns x path
 |[],_,h=>h
 |[y],_,h=>h
 |y::z::l,_,⟨h1,h2,h3⟩=>⟨h1,h2,yy.up h3⟩
theorem yy.snoc{ns:bQ}{q:Option Nat}{y:Nat}(hy:(ns y).up=q):∀ {path:LN} {x:Nat},yy ns (some y) x path->yy ns q x (path++[y])
 |[],_,h=>h.elim
 |[z],_,⟨h1,h2⟩=>⟨h1,h2,rfl,hy⟩
 |z::z'::l,_,⟨h1,h2,h3⟩=>⟨h1,h2,yy.snoc hy h3⟩
theorem yy.same{ns ns':bQ}{q:Option Nat}(h:∀ y,(ns' y).up=(ns y).up):∀ {path:LN} {x:Nat},yy ns' q x path->yy ns q x path
 |[],_,h=>h
 |[y],x,⟨h1,h2⟩=>⟨h1,by rw[<- h];exact h2⟩
 |y::z::l,x,⟨h1,h2,h3⟩=>⟨h1,by rw[<- h];exact h2,yy.same h h3⟩
theorem f9:∀ (c:List Fr) (f:Fr) (t:T),dP t (c++[f])=f.fill (dP t c)
 |[],_,_=>rfl
 |g::c,f,t=>f9 c f (g.fill t)
theorem DR:∀ (n:Nat) (t:T),t.nodes.length<=n->∀ (ns:bQ) (p:Option Nat) (x:Nat),ed ns t p->t.nodes.Nodup->x∈t.nodes->
 ∃ path l v r c,yy ns p x path/\path.length=List.length c+1/\path.length<=t.nodes.length/\ed (eo ns path.reverse) (dP (.node l x v 0 false r) c) p/\(dP (.node l x v 0 false r) c).flat=t.flat/\(∀ y,y∉t.nodes->eo ns path.reverse y=ns y)/\(dP (.node l x v 0 false r) c).root=t.root:=by
 intro n
 induction n with
 |zero=>
  intro t ht ns p x _ _ hx;have:t.nodes=[]:=GM.1 (by omega);rw[this] at hx;cases hx
 |succ n ih=>
  intro t ht ns p x hR hn hx
  cases t with
  |nil=>cases hx
  |node l y v a tn r=>
   obtain⟨h1,h2,h3⟩:=hR.push hn;have hup:=hR.1.up;have hlen:(T.node l y v a tn r).nodes.length=l.nodes.length+r.nodes.length+1:=by simp[T.nodes];omega
   have hn1:(T.node (l.lay a tn) y v 0 false (r.lay a tn)).nodes.Nodup:=(bM h3).nodup_iff.2 hn;simp only[T.nodes,GI,GS] at hn1;have hm1:∀ z,z∈(T.node (l.lay a tn) y v 0 false (r.lay a tn)).nodes↔z∈(T.node l y v a tn r).nodes:=λ z=>(bM h3).mem_iff;by_cases hxy:x=y
   ·subst hxy;exact⟨[x],_,v,_,[],⟨rfl,hup⟩,rfl,by rw[hlen];simp,h1,h3,λ z hz=>h2 z hz,rfl⟩
   ·have hxm:x∈(l.lay a tn).nodes\/x∈(r.lay a tn).nodes:=by
     simp only[T.nodes,GE,GD] at hx
     rcases hx with hx|hx|hx
     ·exact .inl ((T.lay_nodes a tn l).mem_iff.2 hx)
     ·exact absurd hx hxy
     ·exact .inr ((T.lay_nodes a tn r).mem_iff.2 hx)
    obtain⟨hS,hl1,hr1⟩:=h1
    rcases hxm with hx'|hx'
    ·obtain⟨path,l2,v2,r2,c,k1,k2,k3,k4,k5,k6,k7⟩:=ih (l.lay a tn) (by rw[T.lay_size];omega) (dZ ns y) (some y) x hl1 hn1.1 hx';have hyl:y∉(l.lay a tn).nodes:=fun h=>hn1.2.2 y h y (by simp) rfl;refine⟨path++[y],l2,v2,r2,c++[⟨true,y,v,r.lay a tn⟩],(k1.same fun z=>u9 ns y z).snoc hup,by simp[k2],?_,?_,?_,fun z hz=>?_,?_⟩
     ·rw[Gx,G2,hlen];rw[T.lay_size] at k3;omega
     ·rw[List.reverse_append,f9];show ed (eo (dZ ns y) path.reverse) _ p;refine⟨?_,k4,hr1.congr fun z hz=>k6 z (fun h=>hn1.2.2 z h z (by simp[hz]) rfl)⟩;rw[k6 y hyl];have e:(T.node (dP (.node l2 x v2 0 false r2) c) y v 0 false (r.lay a tn)).flat=(T.node (l.lay a tn) y v 0 false (r.lay a tn)).flat:=by simp only[T.flat,k5]
      show x9 _ _ (dP (.node l2 x v2 0 false r2) c).root _ _ _ _ (T.node (dP (.node l2 x v2 0 false r2) c) y v 0 false (r.lay a tn)).flat;rw[e,k7];exact hS
     ·rw[f9];show (T.node (dP (.node l2 x v2 0 false r2) c) y v 0 false (r.lay a tn)).flat=_;rw[<- h3];simp only[T.flat,k5]
     ·have hz':=λ h=>hz ((hm1 z).1 h);rw[IZ];show eo (dZ ns y) path.reverse z=_;rw[k6 z (λ h=>hz' (by simp[T.nodes,h])),h2 z hz]
     ·rw[f9];rfl
    ·obtain⟨path,l2,v2,r2,c,k1,k2,k3,k4,k5,k6,k7⟩:=ih (r.lay a tn) (by rw[T.lay_size];omega) (dZ ns y) (some y) x hr1 hn1.2.1.2 hx';have hyl:y∉(r.lay a tn).nodes:=hn1.2.1.1;refine⟨path++[y],l2,v2,r2,c++[⟨false,y,v,l.lay a tn⟩],(k1.same fun z=>u9 ns y z).snoc hup,by simp[k2],?_,?_,?_,fun z hz=>?_,?_⟩
     ·rw[Gx,G2,hlen];rw[T.lay_size] at k3;omega
     ·rw[List.reverse_append,f9];show ed (eo (dZ ns y) path.reverse) _ p;refine⟨?_,hl1.congr fun z hz=>k6 z (fun h=>hn1.2.2 z hz z (by simp[h]) rfl),k4⟩;rw[k6 y hyl];have e:(T.node (l.lay a tn) y v 0 false (dP (.node l2 x v2 0 false r2) c)).flat=(T.node (l.lay a tn) y v 0 false (r.lay a tn)).flat:=by simp only[T.flat,k5]
      show x9 _ _ _ (dP (.node l2 x v2 0 false r2) c).root _ _ _ (T.node (l.lay a tn) y v 0 false (dP (.node l2 x v2 0 false r2) c)).flat;rw[e,k7];exact hS
     ·rw[f9];show (T.node (l.lay a tn) y v 0 false (dP (.node l2 x v2 0 false r2) c)).flat=_;rw[<- h3];simp only[T.flat,k5]
     ·have hz':=λ h=>hz ((hm1 z).1 h);rw[IZ];show eo (dZ ns y) path.reverse z=_;rw[k6 z (λ h=>hz' (by simp[T.nodes,h])),h2 z hz]
     ·rw[f9];rfl
theorem kF{ns:bQ}{t:T}{x:Nat}(hR:ed ns t none)(hn:t.nodes.Nodup)(hs:eZ t.flat)(hx:x∈t.nodes)(hl:t.nodes.length<=10000):
 ∃ ns' k l v r,eI ns x ns' k/\ed ns' (.node l x v 0 false r) none/\(T.node l x v 0 false r).flat=t.flat/\(∀ y,y∉t.nodes->ns' y=ns y)/\k<=2*t.nodes.length:=by
 obtain⟨path,l,v,r,c,k1,k2,k3,k4,k5,k6,_⟩:=DR _ t (GF _) ns none x hR hn hx;have hp:=bM k5;obtain⟨ns',l',r',m1,m2,m3,m4⟩:=EW _ c (GF _) _ l r x v k4 (hp.nodup_iff.2 hn) (k5.symm▸hs);refine⟨ns',path.length+c.length,l',v,r',⟨path,c.length,k1.up,by omega,m1,rfl⟩,m2,by rw[m3,k5],λ y hy=>?_,by omega⟩;rw[m4 y (λ h=>hy (hp.mem_iff.1 h)),k6 y hy]
theorem bN(l:T)(x:Nat)(v:Int)(r:T):(T.node l x v 0 false r).flat=l.flat++(x,v)::r.flat:=by simp only[T.flat,fN]
theorem f0{t:T}{c:Nat}(h:t.root=some c):∃ l v a tn r,t=.node l c v a tn r:=by
 cases t with
 |nil=>cases h
 |node l x v a tn r=>simp only[T.root,Gs] at h;subst h;exact⟨_,_,_,_,_,rfl⟩
theorem io{t:T}(h:t.root=none):t=.nil:=by
 cases t with
 |nil=>rfl
 |node l x v a tn r=>cases h
theorem vr{ns:bQ}{l r:T}{x:Nat}{v:Int}{p:Option Nat}(hR:ed ns (.node l x v 0 false r) p)(hn:(T.node l x v 0 false r).nodes.Nodup){ns':bQ}{t':T}(h1:ed ns' t' (some x))(h2:t'.flat=l.flat)(h3:t'.root=l.root)(h4:∀ y,y∉l.nodes->ns' y=ns y):
 ed ns' (.node t' x v 0 false r) p/\(T.node t' x v 0 false r).flat=(T.node l x v 0 false r).flat/\∀ y,y∉(T.node l x v 0 false r).nodes->ns' y=ns y:=by
 simp only[T.nodes,GI,GS] at hn;have e:(T.node t' x v 0 false r).flat=(T.node l x v 0 false r).flat:=by rw[bN,bN,h2]
 refine⟨⟨?_,h1,hR.2.2.congr λ z hz=>h4 z (λ h=>hn.2.2 z h z (by simp[hz]) rfl)⟩,e,λ y hy=>h4 y (λ h=>hy (by simp[T.nodes,h]))⟩;rw[h4 x (λ h=>hn.2.2 x h x (by simp) rfl),e,h3];exact hR.1
theorem vO{ns:bQ}{l r:T}{x:Nat}{v:Int}{p:Option Nat}(hR:ed ns (.node l x v 0 false r) p)(hn:(T.node l x v 0 false r).nodes.Nodup){ns':bQ}{t':T}(h1:ed ns' t' (some x))(h2:t'.flat=r.flat)(h3:t'.root=r.root)(h4:∀ y,y∉r.nodes->ns' y=ns y):
 ed ns' (.node l x v 0 false t') p/\(T.node l x v 0 false t').flat=(T.node l x v 0 false r).flat/\∀ y,y∉(T.node l x v 0 false r).nodes->ns' y=ns y:=by
 simp only[T.nodes,GI,GS] at hn;have e:(T.node l x v 0 false t').flat=(T.node l x v 0 false r).flat:=by rw[bN,bN,h2]
 refine⟨⟨?_,hR.2.1.congr λ z hz=>h4 z (λ h=>hn.2.2 z hz z (by simp[h]) rfl),h1⟩,e,λ y hy=>h4 y (λ h=>hy (by simp[T.nodes,h]))⟩;rw[h4 x hn.2.1.1,e,h3];exact hR.1
theorem sL{l r:T}{x:Nat}{v a:Int}{b:Bool}(hn:(T.node l x v a b r).nodes.Nodup):l.nodes.Nodup/\r.nodes.Nodup/\(T.node l x v a b r).nodes.length=l.nodes.length+r.nodes.length+1:=by
 simp only[T.nodes,GI,GS] at hn;exact⟨hn.1,hn.2.1.2,by simp[T.nodes];omega⟩
def xx(side:Nat)(L:jG)(y:Nat):Prop:=∃ v,(if side=0 then L.head? else L.getLast?)=some (y,v)
theorem EO(side:Nat)(hside:side<2):∀ (n:Nat) (l r:T) (x:Nat) (v:Int) (ns:bQ) (p:Option Nat),(T.node l x v 0 false r).nodes.length<=n->ed ns (.node l x v 0 false r) p->(T.node l x v 0 false r).nodes.Nodup->
 ∃ ns' y k t',Em side ns x ns' y k/\ed ns' t' p/\t'.flat=(T.node l x v 0 false r).flat/\t'.root=some x/\k+1<=(T.node l x v 0 false r).nodes.length/\(∀ z,z∉(T.node l x v 0 false r).nodes->ns' z=ns z)/\xx side (T.node l x v 0 false r).flat y:=by
 intro n
 induction n with
 |zero=>intro l r x v ns p h;simp[T.nodes] at h
 |succ n ih=>
  intro l r x v ns p hlen hR hn;obtain⟨nl,nr,hlen2⟩:=sL hn;have hS:=hR.1;rw[bN];obtain rfl|rfl:side=0\/side=1:=by omega
  ·cases hl:l.root with
   |none=>
    obtain rfl:=io hl;exact⟨ns,x,0,_,.done hS.l,hR,bN _ _ _ _,rfl,by omega,λ _ _=>rfl,v,rfl⟩
   |some c=>
    obtain⟨ll,vc,ac,tc,lr,rfl⟩:=f0 hl;obtain⟨h1,h2,h3⟩:=hR.2.1.push nl;have hnn:=(bM h3).nodup_iff.2 nl;have hnl:=(bM h3).length_eq;obtain⟨ns',y,k,t',k1,k2,k3,k4,k5,k6,k7⟩:=ih _ _ c vc _ _ (by omega) h1 hnn;obtain⟨m1,m2,m3⟩:=vr hR hn k2 (k3.trans h3) k4 (λ z hz=>by rw[k6 z (λ h=>hz ((bM h3).mem_iff.1 h)),h2 z hz]);refine⟨ns',y,k+1,_,.go (by unfold ju;rw[if_pos rfl];exact hS.l.trans hl) k1,m1,by rw[m2,bN],rfl,by omega,m3,?_⟩;obtain⟨vy,hy⟩:=k7;rw[h3] at hy;refine⟨vy,?_⟩;simp only[Ij] at hy ⊢;rw[List.head?_append,hy];rfl
  ·cases hl:r.root with
   |none=>
    obtain rfl:=io hl;refine⟨ns,x,0,_,.done (by unfold ju;rw[if_neg (by decide)];exact hS.r),hR,bN _ _ _ _,rfl,by omega,λ _ _=>rfl,v,?_⟩;rw[if_neg (by decide),Hd];rfl
   |some c=>
    obtain⟨ll,vc,ac,tc,lr,rfl⟩:=f0 hl;obtain⟨h1,h2,h3⟩:=hR.2.2.push nr;have hnn:=(bM h3).nodup_iff.2 nr;have hnl:=(bM h3).length_eq;obtain⟨ns',y,k,t',k1,k2,k3,k4,k5,k6,k7⟩:=ih _ _ c vc _ _ (by omega) h1 hnn;obtain⟨m1,m2,m3⟩:=vO hR hn k2 (k3.trans h3) k4 (λ z hz=>by rw[k6 z (λ h=>hz ((bM h3).mem_iff.1 h)),h2 z hz]);refine⟨ns',y,k+1,_,.go (by unfold ju;rw[if_neg (by decide)];exact hS.r.trans hl) k1,m1,by rw[m2,bN],rfl,by omega,m3,?_⟩;obtain⟨vy,hy⟩:=k7;rw[h3] at hy;refine⟨vy,?_⟩;rw[if_neg (by decide)] at hy ⊢;rw[show (l.flat++(x,v)::(T.node ll c vc ac tc lr).flat)=(l.flat++[(x,v)])++(T.node ll c vc ac tc lr).flat by simp,Hd,hy];rfl
theorem Am{side:Nat}(hside:side<2){ns:bQ}{l r:T}{x:Nat}{v:Int}(hR:ed ns (.node l x v 0 false r) none)(hn:(T.node l x v 0 false r).nodes.Nodup)(hs:eZ (T.node l x v 0 false r).flat)(hl:(T.node l x v 0 false r).nodes.length<=10000):
 ∃ ns' y k l' v' r',E0 side ns x ns' y k/\ed ns' (.node l' y v' 0 false r') none/\(T.node l' y v' 0 false r').flat=(T.node l x v 0 false r).flat/\(∀ z,z∉(T.node l x v 0 false r).nodes->ns' z=ns z)/\k<=3*(T.node l x v 0 false r).nodes.length/\xx side (T.node l x v 0 false r).flat y:=by
 obtain⟨n1,y,k,t',k1,k2,k3,k4,k5,k6,k7⟩:=EO side hside _ l r x v ns none (GF _) hR hn;have hp:=bM k3
 have hy:y∈t'.nodes:=by
  obtain⟨vy,hy⟩:=k7;refine T.mem_nodes.2 ⟨vy,?_⟩;rw[k3];split at hy
  ·exact List.mem_of_mem_head? (by rw[hy];rfl)
  ·exact HL hy
 obtain⟨n2,j,l',v',r',m1,m2,m3,m4,m5⟩:=kF k2 (hp.nodup_iff.2 hn) (k3.symm▸hs) hy (by have:=hp.length_eq;omega);refine⟨n2,y,k+j,l',v',r',⟨n1,k,j,k1,m1,rfl⟩,m2,by rw[m3,k3],λ z hz=>?_,by have:=hp.length_eq;omega,k7⟩;rw[m4 z (λ h=>hz (hp.mem_iff.1 h)),k6 z hz]
theorem Dt{side:Nat}(hside:side<2){ns:bQ}{t:T}{x:Nat}(hR:ed ns t none)(hn:t.nodes.Nodup)(hs:eZ t.flat)(hx:x∈t.nodes)(hl:t.nodes.length<=10000):
 ∃ ns' y k l' v' r',Edge side ns x ns' y k/\ed ns' (.node l' y v' 0 false r') none/\(T.node l' y v' 0 false r').flat=t.flat/\(∀ z,z∉t.nodes->ns' z=ns z)/\k<=5*t.nodes.length/\xx side t.flat y:=by
 obtain⟨n1,k,l,v,r,k1,k2,k3,k4,k5⟩:=kF hR hn hs hx hl;have hp:=bM k3;have hpl:=hp.length_eq;obtain⟨n2,y,j,l',v',r',m1,m2,m3,m4,m5,m6⟩:=Am hside k2 (hp.nodup_iff.2 hn) (k3.symm▸hs) (by omega);refine⟨n2,y,k+j,l',v',r',⟨n1,k,j,k1,m1,rfl⟩,m2,by rw[m3,k3],λ z hz=>?_,by omega,by rw[<- k3];exact m6⟩;rw[m4 z (λ h=>hz (hp.mem_iff.1 h)),k4 z hz]
theorem qs{n:Nat}(h:n<=10000):dc (n:Int)=n:=ji (by omega)
theorem Ba{ns:bQ}{l r:T}{x:Nat}{v:Int}{p:Option Nat}(hR:ed ns (.node l x v 0 false r) p)(hl:(T.node l x v 0 false r).nodes.length<=10000):ahead ns x=(l.flat.length:Nat):=by
 unfold ahead;rw[hR.1.l]
 cases l with
 |nil=>rfl
 |node ll c vc ac tc lr=>
  show (ns c).size=_;rw[hR.2.1.1.size,qs];rw[T.len];simp only[T.nodes,Gx,Gz] at hl ⊢;omega
theorem Ep:∀ (n:Nat) (l r:T) (x:Nat) (v:Int) (ns:bQ) (q:Option Nat) (p:Int),(T.node l x v 0 false r).nodes.length<=n->n<=10000->ed ns (.node l x v 0 false r) q->(T.node l x v 0 false r).nodes.Nodup->0<=p->p<(T.node l x v 0 false r).flat.length->
 ∃ ns1 y k t',(∀ ns' j,eI ns1 y ns' j->z4 ns x p ns' y (k+j))/\ed ns1 t' q/\t'.flat=(T.node l x v 0 false r).flat/\t'.root=some x/\k+1<=(T.node l x v 0 false r).nodes.length/\(∀ z,z∉(T.node l x v 0 false r).nodes->ns1 z=ns z)/\∃ vy,(T.node l x v 0 false r).flat[p.toNat]?=some (y,vy):=by
 intro n
 induction n with
 |zero=>intro l r x v ns q p h;simp[T.nodes] at h
 |succ n ih=>
  intro l r x v ns q p hlen h4 hR hn hp1 hp2;obtain⟨nl,nr,hlen2⟩:=sL hn;have hS:=hR.1;have ha:=Ba hR (by omega);rw[bN] at hp2 ⊢;simp only[Gx,Gz] at hp2;have hll:=T.len l;have hlr:=T.len r;by_cases c1:p<ahead ns x
  ·cases hl:l.root with
   |none=>
    obtain rfl:=io hl;rw[ha] at c1;simp[T.flat] at c1;omega
   |some c=>
    obtain⟨ll,vc,ac,tc,lr,rfl⟩:=f0 hl;obtain⟨h1,h2,h3⟩:=hR.2.1.push nl;have hnn:=(bM h3).nodup_iff.2 nl;have hnl:=(bM h3).length_eq;obtain⟨ns',y,k,t',k1,k2,k3,k4,k5,k6,vy,k7⟩:=ih _ _ c vc _ _ p (by omega) (by omega) h1 hnn hp1 (by rw[h3];omega);obtain⟨m1,m2,m3⟩:=vr hR hn k2 (k3.trans h3) k4 (λ z hz=>by rw[k6 z (λ h=>hz ((bM h3).mem_iff.1 h)),h2 z hz]);refine⟨ns',y,k+1,_,λ n2 j hj=>?_,m1,by rw[m2,bN],rfl,by omega,m3,vy,?_⟩
    ·have:=z4.left c1 (hS.l.trans hl) (k1 n2 j hj)
     rwa [show k+j+1=k+1+j by omega] at this
    ·rw[h3] at k7;rw[Hi (by omega)];exact k7
  ·by_cases c2:p=ahead ns x
   ·refine⟨ns,x,0,_,λ n2 j hj=>by rw[GZ];exact .here c2 hj,hR,bN _ _ _ _,rfl,by omega,λ _ _=>rfl,v,?_⟩;rw[ha] at c2;rw[GL (by omega),show p.toNat-l.flat.length=0 by omega];rfl
   ·have e1:dc (dc (p-ahead ns x)-1)=p-l.flat.length-1:=by rw[ha,ji (n:=p-_) (by omega),ji (by omega)]
    cases hl:r.root with
    |none=>
     obtain rfl:=io hl;simp[T.flat] at hp2;omega
    |some c=>
     obtain⟨ll,vc,ac,tc,lr,rfl⟩:=f0 hl;obtain⟨h1,h2,h3⟩:=hR.2.2.push nr;have hnn:=(bM h3).nodup_iff.2 nr;have hnl:=(bM h3).length_eq;obtain⟨ns',y,k,t',k1,k2,k3,k4,k5,k6,vy,k7⟩:=ih _ _ c vc _ _ (p-l.flat.length-1) (by omega) (by omega) h1 hnn (by omega) (by rw[h3];omega);obtain⟨m1,m2,m3⟩:=vO hR hn k2 (k3.trans h3) k4 (λ z hz=>by rw[k6 z (λ h=>hz ((bM h3).mem_iff.1 h)),h2 z hz]);refine⟨ns',y,k+1,_,λ n2 j hj=>?_,m1,by rw[m2,bN],rfl,by omega,m3,vy,?_⟩
     ·have:=z4.right (p:=p) (by omega) (hS.r.trans hl) (by rw[e1];exact k1 n2 j hj)
      rwa [show k+j+1=k+1+j by omega] at this
     ·rw[h3] at k7;rw[GL (by omega),show p.toNat-l.flat.length=(p-l.flat.length-1).toNat+1 by omega,ID];exact k7
def gG(L:jG)(y:Nat)(m:Int):Prop:=∃ A B,L=A++(y,m)::B/\(∀ e∈A,m<e.2)/\∀ e∈B,m<=e.2
theorem Eu:∀ (n:Nat) (l r:T) (x:Nat) (v:Int) (ns:bQ) (q:Option Nat) (m:Int),(T.node l x v 0 false r).nodes.length<=n->ed ns (.node l x v 0 false r) q->(T.node l x v 0 false r).nodes.Nodup->eZ (T.node l x v 0 false r).flat->ib (T.node l x v 0 false r).flat m->
 ∃ ns1 y k t',(∀ ns' j,eI ns1 y ns' j->BC m ns x ns' y (k+j))/\ed ns1 t' q/\t'.flat=(T.node l x v 0 false r).flat/\t'.root=some x/\k+1<=(T.node l x v 0 false r).nodes.length/\(∀ z,z∉(T.node l x v 0 false r).nodes->ns1 z=ns z)/\gG (T.node l x v 0 false r).flat y m:=by
 intro n
 induction n with
 |zero=>intro l r x v ns q m h;simp[T.nodes] at h
 |succ n ih=>
  intro l r x v ns q m hlen hR hn hs hm;obtain⟨nl,nr,hlen2⟩:=sL hn;have hS:=hR.1;rw[bN] at hs hm ⊢;have hsl:eZ l.flat:=λ e he=>hs e (by simp[he]);have hsr:eZ r.flat:=λ e he=>hs e (by simp[he]);have hv:dc v=v:=ji (by have:=hs (x,v) (by simp);simp only at this;omega);by_cases c1:∃ c,(ns x).l=some c/\(ns c).least=m
  ·obtain⟨c,hc1,hc2⟩:=c1;obtain⟨ll,vc,ac,tc,lr,rfl⟩:=f0 (hS.l.symm.trans hc1);obtain⟨h1,h2,h3⟩:=hR.2.1.push nl;have hnn:=(bM h3).nodup_iff.2 nl;have hnl:=(bM h3).length_eq;obtain⟨ml,hml,hmle⟩:=hR.2.1.1.least;rw[hml.small hsl] at hmle;have eml:ml=m:=by rw[← hmle,hc2]
   obtain⟨ns',y,k,t',k1,k2,k3,k4,k5,k6,A,B,k7,k8,k9⟩:=ih _ _ c vc _ _ m (by omega) h1 hnn (h3.symm▸hsl) (by rw[h3,<- eml];exact hml);obtain⟨m1,m2,m3⟩:=vr hR hn k2 (k3.trans h3) k4 (λ z hz=>by rw[k6 z (λ h=>hz ((bM h3).mem_iff.1 h)),h2 z hz]);rw[h3] at k7;refine⟨ns',y,k+1,_,λ n2 j hj=>?_,m1,by rw[m2,bN],rfl,by omega,m3,A,B++(x,v)::r.flat,by rw[k7];simp,k8,λ e he=>?_⟩
   ·have:=BC.left hc1 hc2 (k1 n2 j hj)
    rwa [show k+j+1=k+1+j by omega] at this
   ·rcases GE.1 he with he|he
    ·exact k9 e he
    ·exact hm.2 e (by simp at he ⊢;rcases he with he|he;exact .inr (.inl he);exact .inr (.inr he))
  ·have c1':∀ c,(ns x).l=some c->(ns c).least≠m:=λ c h1 h2=>c1 ⟨c,h1,h2⟩
   have hgt:∀ e∈l.flat,m<e.2:=by
    intro e he;have h0:=hm.2 e (by simp[he]);by_cases h1:m=e.2
    ·exfalso
     cases l with
     |nil=>cases he
     |node ll c vc ac tc lr=>
      obtain⟨ml,hml,hmle⟩:=hR.2.1.1.least;rw[hml.small hsl] at hmle;refine c1' c hS.l (hmle.trans ?_);have:=hml.2 e he;obtain⟨d,hd,rfl⟩:=hml.1;have:=hm.2 d (by simp[hd]);omega
    ·omega
   by_cases c2:(ns x).value=m
   ·refine⟨ns,x,0,_,λ n2 j hj=>by rw[GZ];exact .here c1' c2 hj,hR,bN _ _ _ _,rfl,by omega,λ _ _=>rfl,l.flat,r.flat,?_,hgt,λ e he=>hm.2 e (by simp[he])⟩;rw[hS.value,hv] at c2;rw[c2]
   ·have hvm:v≠m:=fun e=>c2 (by rw[hS.value,hv,e]);have hvgt:m<v:=by have:=hm.2 (x,v) (by simp);simp only at this;omega
    have hmr:ib r.flat m:=by
     refine⟨?_,λ e he=>hm.2 e (by simp[he])⟩;obtain⟨e,he,hem⟩:=hm.1;simp only[GE,GD] at he
     rcases he with he|rfl|he
     ·have:=hgt e he;omega
     ·simp only at hem;omega
     ·exact⟨e,he,hem⟩
    cases hl:r.root with
    |none=>
     obtain rfl:=io hl;obtain⟨⟨e,he,_⟩,_⟩:=hmr
     cases he
    |some c=>
     obtain⟨ll,vc,ac,tc,lr,rfl⟩:=f0 hl;obtain⟨h1,h2,h3⟩:=hR.2.2.push nr;have hnn:=(bM h3).nodup_iff.2 nr;have hnl:=(bM h3).length_eq;obtain⟨ns',y,k,t',k1,k2,k3,k4,k5,k6,A,B,k7,k8,k9⟩:=ih _ _ c vc _ _ m (by omega) h1 hnn (h3.symm▸hsr) (h3.symm▸hmr);obtain⟨m1,m2,m3⟩:=vO hR hn k2 (k3.trans h3) k4 (λ z hz=>by rw[k6 z (λ h=>hz ((bM h3).mem_iff.1 h)),h2 z hz]);rw[h3] at k7;refine⟨ns',y,k+1,_,λ n2 j hj=>?_,m1,by rw[m2,bN],rfl,by omega,m3,l.flat++(x,v)::A,B,by rw[k7];simp,λ e he=>?_,k9⟩
     ·have:=BC.right c1' c2 (hS.r.trans hl) (k1 n2 j hj)
      rwa [show k+j+1=k+1+j by omega] at this
     ·simp only[GE,GD] at he
      rcases he with he|rfl|he
      ·exact hgt e he
      ·exact hvgt
      ·exact k8 e he
def cT(row:LN)(val:Nat->Int):jG:=row.map λ y=>(y,val y)
theorem eD(row:LN)(val:Nat->Int):(cT row val).map Prod.fst=row:=by unfold cT;rw[HQ];simp[IM]
theorem dM{row:LN}{val:Nat->Int}{y:Nat}{v:Int}:(y,v)∈cT row val↔y∈row/\v=val y:=by
 unfold cT;rw[GR]
 constructor
 ·rintro⟨z,hz,h⟩;simp only[Hq] at h;obtain⟨rfl,rfl⟩:=h;exact⟨hz,rfl⟩
 ·rintro⟨h1,rfl⟩;exact⟨y,h1,rfl⟩
structure jt (N:Nat) (ns:bQ) (row:Nat->LN) (val:Nat->Int):Prop where
 tree:∀ x,x<N->∃ t,ed ns t none/\t.flat=cT (row x) val
 mem:∀ x,x<N->x∈row x
 lt:∀ x,x<N->∀ y∈row x,y<N
 same:∀ x,x<N->∀ y∈row x,row y=row x
 nodup:∀ x,x<N->(row x).Nodup
 small:∀ x,x<N→-4611686018427387904<=val x/\val x<=4611686018427387904
theorem mE:∀ {N:Nat} {l:LN},l.Nodup->(∀ y∈l,y<N)->l.length<=N
 |0,l,_,h=>by
  cases l with
  |nil=>exact GF _
  |cons y l=>exact absurd (h y (by simp)) (by omega)
 |N+1,l,hn,h=>by
  by_cases hN:N∈l
  ·have ih:=mE (N:=N) (l:=l.erase N) (hn.erase N) λ y hy=>by
    have h1:=h y (List.mem_of_mem_erase hy);have h2:y≠N:=λ e=>by subst e;exact hn.not_mem_erase hy
    omega
   rw[List.length_erase_of_mem hN] at ih;omega
  ·have:=mE (N:=N) hn λ y hy=>by
    have h1:=h y hy;have h2:y≠N:=λ e=>hN (e▸hy);omega
   omega
section
variable {N:Nat} {ns:bQ} {row:Nat->LN} {val:Nat->Int}
theorem jt.len(h:jt N ns row val){x:Nat}(hx:x<N):(row x).length<=N:=mE (h.nodup x hx) (h.lt x hx)
theorem jt.get(h:jt N ns row val){x:Nat}(hx:x<N):∃ t,ed ns t none/\t.flat=cT (row x) val/\(∀ y,y∈t.nodes↔y∈row x)/\t.nodes.Nodup/\eZ t.flat/\t.nodes.length=(row x).length:=by
 obtain⟨t,h1,h2⟩:=h.tree x hx;have hp:(row x).Perm t.nodes:=by have:=t.perm;rwa [h2,eD] at this
 refine⟨t,h1,h2,λ y=>hp.mem_iff.symm,hp.nodup_iff.1 (h.nodup x hx),λ e he=>?_,hp.length_eq.symm⟩;rw[h2] at he;obtain⟨h3,h4⟩:=dM.1 (show (e.1,e.2)∈_ from he);rw[h4];exact h.small _ (h.lt x hx _ h3)
theorem jt.change{ns':bQ}{row':Nat->LN}{val':Nat->Int}(h:jt N ns row val)(S:Nat->Prop)(hS:∀ z,z<N->¬ S z->row' z=row z/\∀ y∈row z,¬ S y)(hv:∀ y,y<N->¬ S y->val' y=val y)(hf:∀ y,¬ S y->ns' y=ns y)
 (hn:∀ z,z<N->S z->(∃ t,ed ns' t none/\t.flat=cT (row' z) val')/\z∈row' z/\(∀ y∈row' z,y<N/\row' y=row' z)/\(row' z).Nodup∧-4611686018427387904<=val' z/\val' z<=4611686018427387904):jt N ns' row' val':=by
 have key:∀ x,x<N->¬ S x->row' x=row x/\(∀ y∈row x,¬ S y/\val' y=val y/\row' y=row y):=λ x hx hs=>by
  obtain⟨h1,h2⟩:=hS x hx hs;exact⟨h1,λ y hy=>⟨h2 y hy,hv y (h.lt x hx y hy) (h2 y hy),(hS y (h.lt x hx y hy) (h2 y hy)).1⟩⟩
 refine⟨λ x hx=>?_,λ x hx=>?_,λ x hx y hy=>?_,λ x hx y hy=>?_,λ x hx=>?_,λ x hx=>?_⟩<;>by_cases hs:S x
 ·exact (hn x hx hs).1
 ·obtain⟨k1,k2⟩:=key x hx hs;obtain⟨t,h1,h2,h3,_⟩:=h.get hx;refine⟨t,h1.congr λ y hy=>hf y (k2 y ((h3 y).1 hy)).1,?_⟩;rw[h2,k1];unfold cT;exact HH λ y hy=>by rw[(k2 y hy).2.1]
 ·exact (hn x hx hs).2.1
 ·rw[(key x hx hs).1];exact h.mem x hx
 ·exact ((hn x hx hs).2.2.1 y hy).1
 ·rw[(key x hx hs).1] at hy;exact h.lt x hx y hy
 ·exact ((hn x hx hs).2.2.1 y hy).2
 ·obtain⟨k1,k2⟩:=key x hx hs;rw[k1] at hy ⊢;rw[(k2 y hy).2.2];exact h.same x hx y hy
 ·exact (hn x hx hs).2.2.2.1
 ·rw[(key x hx hs).1];exact h.nodup x hx
 ·exact (hn x hx hs).2.2.2.2
 ·rw[hv x hx hs];exact h.small x hx
theorem jt.retree(h:jt N ns row val){ns':bQ}{x:Nat}(hx:x<N){t:T}(h1:ed ns' t none)(h2:t.flat=cT (row x) val)(hf:∀ y,y∉row x->ns' y=ns y):jt N ns' row val:=by
 refine h.change (λ z=>z∈row x) (λ z hz hnz=>⟨rfl,λ y hy hyx=>hnz ?_⟩) (λ _ _ _=>rfl) hf (λ z hz hzx=>?_)
 ·rw[<- h.same x hx y hyx,h.same z hz y hy];exact h.mem z hz
 ·rw[h.same x hx z hzx];exact⟨⟨t,h1,h2⟩,hzx,λ y hy=>⟨h.lt x hx y hy,h.same x hx y hy⟩,h.nodup x hx,h.small z hz⟩
def zj(ns:bQ)(x:Nat)(L:jG):Prop:=∃ l v r,ed ns (.node l x v 0 false r) none/\(T.node l x v 0 false r).flat=L
theorem jt.splay(h:jt N ns row val)(hN:N<=10000){x:Nat}(hx:x<N):∃ ns' k,eI ns x ns' k/\jt N ns' row val/\zj ns' x (cT (row x) val)/\k<=2*(row x).length/\∀ y,y∉row x->ns' y=ns y:=by
 obtain⟨t,h1,h2,h3,h4,h5,h6⟩:=h.get hx;obtain⟨ns',k,l,v,r,k1,k2,k3,k4,k5⟩:=kF h1 h4 h5 ((h3 x).2 (h.mem x hx)) (by have:=h.len hx;omega);have hf:∀ y,y∉row x->ns' y=ns y:=λ y hy=>k4 y (λ e=>hy ((h3 y).1 e));exact⟨ns',k,k1,h.retree hx k2 (k3.trans h2) hf,⟨l,v,r,k2,k3.trans h2⟩,by omega,hf⟩
theorem qR{side y:Nat}{row:LN}{val:Nat->Int}(h:xx side (cT row val) y):(if side=0 then row.head? else row.getLast?)=some y:=by
 obtain⟨v,hv⟩:=h;unfold cT at hv;split at hv
 ·rename_i hs;rw[if_pos hs];rw[List.head?_map] at hv
  cases hh:row.head? with
  |none=>rw[hh] at hv;cases hv
  |some z=>rw[hh] at hv;simp at hv;rw[hv.1]
 ·rename_i hs;rw[if_neg hs];rw[List.getLast?_map] at hv
  cases hh:row.getLast? with
  |none=>rw[hh] at hv;cases hv
  |some z=>rw[hh] at hv;simp at hv;rw[hv.1]
theorem jt.edge(h:jt N ns row val)(hN:N<=10000){side:Nat}(hside:side<2){x:Nat}(hx:x<N):∃ ns' y k,Edge side ns x ns' y k/\jt N ns' row val/\k<=5*(row x).length/\(if side=0 then (row x).head? else (row x).getLast?)=some y:=by
 obtain⟨t,h1,h2,h3,h4,h5,h6⟩:=h.get hx;obtain⟨ns',y,k,l,v,r,k1,k2,k3,k4,k5,k6⟩:=Dt hside h1 h4 h5 ((h3 x).2 (h.mem x hx)) (by have:=h.len hx;omega);rw[h2] at k6;exact⟨ns',y,k,k1,h.retree hx k2 (k3.trans h2) (λ y hy=>k4 y (λ e=>hy ((h3 y).1 e))),by omega,qR k6⟩
theorem jt.end_(h:jt N ns row val)(hN:N<=10000){side:Nat}(hside:side<2){x:Nat}(hx:x<N)(ht:zj ns x (cT (row x) val)):∃ ns' y k,E0 side ns x ns' y k/\jt N ns' row val/\zj ns' y (cT (row x) val)/\k<=3*(row x).length/\
 (if side=0 then (row x).head? else (row x).getLast?)=some y/\∀ z,z∉row x->ns' z=ns z:=by
 obtain⟨l,v,r,h1,h2⟩:=ht;have hp:(row x).Perm (T.node l x v 0 false r).nodes:=by have:=(T.node l x v 0 false r).perm;rwa [h2,eD] at this
 have hs:eZ (T.node l x v 0 false r).flat:=λ e he=>by
  rw[h2] at he;obtain⟨h3,h4⟩:=dM.1 (show (e.1,e.2)∈_ from he);rw[h4];exact h.small _ (h.lt x hx _ h3)
 have hl:=hp.length_eq;have hn:=h.len hx;obtain⟨ns',y,k,l',v',r',k1,k2,k3,k4,k5,k6⟩:=Am hside h1 (hp.nodup_iff.1 (h.nodup x hx)) hs (by omega);rw[h2] at k6;have hf:∀ z,z∉row x->ns' z=ns z:=λ z hz=>k4 z (λ e=>hz (hp.mem_iff.2 e));exact⟨ns',y,k,k1,h.retree hx k2 (k3.trans h2) hf,⟨l',v',r',k2,k3.trans h2⟩,by omega,qR k6,hf⟩
theorem oW{L K:jG}{x:Nat}{v:Int}{row:LN}{val:Nat->Int}(h:L++(x,v)::K=cT row val):row=L.map Prod.fst++x::K.map Prod.fst/\v=val x/\L=cT (L.map Prod.fst) val/\K=cT (K.map Prod.fst) val:=by
 have h1:row=L.map Prod.fst++x::K.map Prod.fst:=by
  have:=Gt (List.map Prod.fst) h;rw[eD] at this;rw[<- this];simp
 have hm:∀ e∈L++(x,v)::K,e.2=val e.1:=λ e he=>by
  rw[h] at he;exact (dM.1 (show (e.1,e.2)∈_ from he)).2
 have hid:∀ M:jG,(∀ e∈M,e.2=val e.1)->M=cT (M.map Prod.fst) val:=λ M hM=>by
  unfold cT;rw[HQ]
  have:M.map id=M.map ((λ y=>(y,val y)) ∘ Prod.fst):=HH λ e he=>by
   show e=(e.1,val e.1);rw[<- hM e he]
  rwa [List.map_id] at this
 exact⟨h1,hm (x,v) (by simp),hid L λ e he=>hm e (by simp[he]),hid K λ e he=>hm e (by simp[he])⟩
theorem zj.value{x:Nat}{L:LN}(h:zj ns x (cT L val))(hs:-4611686018427387904<=val x/\val x<=4611686018427387904):(ns x).value=val x:=by
 obtain⟨l,v,r,h1,h2⟩:=h;rw[bN] at h2;rw[h1.1.value,(oW h2).2.1];exact ji (by omega)
theorem zj.up{x:Nat}{L:jG}(h:zj ns x L):(ns x).up=none:=by
 obtain⟨l,v,r,h1,_⟩:=h;exact h1.1.up
theorem jt.split(h:jt N ns row val){x:Nat}(hx:x<N)(ht:zj ns x (cT (row x) val)):∃ A B,row x=A++x::B/\(∀ y,y∉row x->hQ ns x y=ns y)/\
 jt N (hQ ns x) (λ z=>if z∈A then A else if z∈x::B then x::B else row z) val:=by
 obtain⟨l,v,r,h1,h2⟩:=ht;have hp:(row x).Perm (T.node l x v 0 false r).nodes:=by have:=(T.node l x v 0 false r).perm;rwa [h2,eD] at this
 have hnd:=hp.nodup_iff.1 (h.nodup x hx)
 have hsm:eZ (T.node l x v 0 false r).flat:=λ e he=>by
  rw[h2] at he;obtain⟨h3,h4⟩:=dM.1 (show (e.1,e.2)∈_ from he);rw[h4];exact h.small _ (h.lt x hx _ h3)
 rw[bN] at h2 hsm;obtain⟨e1,e2,e3,e4⟩:=oW h2;simp only[T.nodes,GI,GS] at hnd;obtain⟨nl,⟨nx,nr⟩,nd⟩:=hnd;have hlp:=l.perm;have hrp:=r.perm
 -- the twoD trees behind the split
 have hsp:ed (hQ ns x) l none/\ed (hQ ns x) (.node .nil x v 0 false r) none/\∀ y,y∉(T.node l x v 0 false r).nodes->hQ ns x y=ns y:=by
  unfold hQ;rw[h1.1.l]
  cases hl:l.root with
  |none=>
   obtain rfl:=io hl;exact⟨an,h1,λ _ _=>rfl⟩
  |some c=>
   obtain⟨ll,vc,ac,tc,lr,rfl⟩:=f0 hl;have hcm:c∈(T.node ll c vc ac tc lr).nodes:=T.root_mem hl;have hcx:c≠x:=nd c hcm x (by simp);obtain⟨n1,hn1⟩:∃ n1,n1=gy (gy ns c { ns c with up:=none }) x (cJ (gy ns c { ns c with up:=none } x) 0 none):=⟨_,rfl⟩;have a1:n1 x=cJ (ns x) 0 none:=by rw[hn1,dg,eG _ _ (Ne.symm hcx)]
   have a2:n1 c={ ns c with up:=none }:=by rw[hn1,eG _ _ hcx,dg]
   have a3:∀ y,y≠x->y≠c->n1 y=ns y:=λ y hy hyc=>by rw[hn1,eG _ _ hy,eG _ _ hyc]
   have hl1:ed n1 (T.node ll c vc ac tc lr) none:=h1.2.1.hung (λ y hy hne=>a3 y (λ e=>nd y hy x (by simp) e) (λ e=>hne (by rw[e];rfl))) (λ y hy=>by
    simp only[T.root,Gs] at hy;subst hy;exact a2) nl
   have hr1:ed n1 r (some x):=h1.2.2.congr λ y hy=>a3 y (λ e=>nx (e▸hy)) (λ e=>nd c hcm y (by simp[hy]) e.symm)
   obtain⟨q1,q2⟩:=ed.pull (l:=.nil) (v:=v) (p:=none) trivial hr1 (by simp[T.nodes]) nx (by rw[a1];exact h1.1.up) (by rw[a1];rfl) (by rw[a1];exact h1.1.r) (by rw[a1];exact h1.1.value) (by rw[a1];exact h1.1.add) (by rw[a1];exact h1.1.turned)
    (λ e he=>hsm e (by rw[bN] at he;simp only[T.flat,Hz] at he;simp only[GE];exact .inr he))
   simp only[<- hn1];refine⟨hl1.congr λ y hy=>q2 y (λ e=>nd y hy x (by simp) e),q1,λ y hy=>?_⟩;simp only[T.nodes,GE,GD,not_or] at hy;rw[q2 y hy.2.1,a3 y hy.2.1 (λ e=>hy.1.2.1 e)]
 obtain⟨s1,s2,s3⟩:=hsp;have hf:∀ y,y∉row x->hQ ns x y=ns y:=λ y hy=>s3 y (λ e=>hy (hp.mem_iff.2 e));have hAn:(l.flat.map Prod.fst).Nodup:=hlp.nodup_iff.2 nl;have hBn:(x::r.flat.map Prod.fst).Nodup:=GS.2 ⟨λ e=>nx (hrp.mem_iff.1 e),hrp.nodup_iff.2 nr⟩
 have hAB:∀ y∈l.flat.map Prod.fst,y∉x::r.flat.map Prod.fst:=λ y hy hy2=>by
  have h3:=hlp.mem_iff.1 hy
  rcases GD.1 hy2 with rfl|h4
  ·exact nd y h3 y (by simp) rfl
  ·exact nd y h3 y (by simp[hrp.mem_iff.1 h4]) rfl
 refine⟨l.flat.map Prod.fst,r.flat.map Prod.fst,e1,hf,?_⟩;obtain⟨A,hA⟩:∃ A,l.flat.map Prod.fst=A:=⟨_,rfl⟩;obtain⟨B,hB⟩:∃ B,r.flat.map Prod.fst=B:=⟨_,rfl⟩;rw[hA] at e1 e3 hAn hAB ⊢;rw[hB] at e1 e4 hBn hAB ⊢;refine h.change (λ z=>z∈row x) (λ z hz hnz=>⟨?_,λ y hy hyx=>hnz ?_⟩) (λ _ _ _=>rfl) hf (λ z hz hzx=>?_)
 ·rw[e1] at hnz;simp only[GE,not_or] at hnz;show (if z∈A then A else if z∈x::B then x::B else row z)=row z;rw[if_neg hnz.1,if_neg hnz.2]
 ·rw[<- h.same x hx y hyx,h.same z hz y hy];exact h.mem z hz
 ·by_cases hzA:z∈A
  ·simp only[if_pos hzA];exact⟨⟨l,s1,e3⟩,hzA,λ y hy=>⟨h.lt x hx y (by rw[e1];simp[hy]),by rw[if_pos hy]⟩,hAn,h.small z hz⟩
  ·have hzB:z∈x::B:=by rw[e1] at hzx;exact (List.mem_append.1 hzx).resolve_left hzA
   simp only[if_neg hzA,if_pos hzB];refine⟨⟨_,s2,?_⟩,hzB,λ y hy=>⟨h.lt x hx y (by rw[e1];exact List.mem_append_right _ hy),?_⟩,hBn,h.small z hz⟩
   ·rw[bN,e4,e2];rfl
   ·rw[if_neg (λ e=>hAB y e hy),if_pos hy]
end
section
variable {N:Nat} {ns:bQ} {row:Nat->LN} {val:Nat->Int}
theorem zj.congr{ns':bQ}{x:Nat}{L:LN}(h:zj ns x (cT L val))(hf:∀ y∈L,ns' y=ns y):zj ns' x (cT L val):=by
 obtain⟨l,v,r,h1,h2⟩:=h;refine⟨l,v,r,h1.congr λ y hy=>hf y ?_,h2⟩;obtain⟨w,hw⟩:=T.mem_nodes.1 hy;rw[h2] at hw;exact (dM.1 hw).1
theorem jt.apart(h:jt N ns row val){a b:Nat}(ha:a<N)(hb:b<N)(hab:b∉row a):∀ y∈row a,y∉row b:=λ y hy hyb=>hab (by
 rw[<- h.same a ha y hy,h.same b hb y hyb];exact h.mem b hb)
theorem C2{L K:LN}(v:Nat->Int):cT (L++K) v=cT L v++cT K v:=by simp[cT]
theorem jt.joined(h:jt N ns row val)(hN:N<=10000){a b:Nat}(ha:a<N)(hb:b<N)(hab:b∉row a):
 ∃ ns' k,qI ns a b ns' k/\jt N ns' (λ z=>if z∈row a\/z∈row b then row a++row b else row z) val/\k<=5*((row a).length+(row b).length):=by
 have hap:=h.apart ha hb hab;obtain⟨n1,k1,s1,h1,t1,b1,f1⟩:=h.splay hN ha;obtain⟨n2,k2,s2,h2,t2,b2,f2⟩:=h1.splay hN hb;have t1':=t1.congr λ y hy=>f2 y (hap y hy);obtain⟨n3,a',k3,s3,h3,t3,b3,e3,f3⟩:=h2.end_ hN (by decide:1<2) ha t1';have t2':=t2.congr λ y hy=>f3 y (λ e=>hap y e hy);obtain⟨n4,b',k4,s4,h4,t4,b4,e4,f4⟩:=h3.end_ hN (by decide:0<2) hb t2';have t3':=t3.congr λ y hy=>f4 y (hap y hy);refine⟨_,_,⟨n1,n2,n3,n4,k1,k2,k3,k4,a',b',s1,s2,t1'.up,s3,s4,rfl,rfl⟩,?_,by omega⟩;rw[if_neg (by decide)] at e3;rw[if_pos rfl] at e4;obtain⟨la,va,ra,ra1,ra2⟩:=t3';obtain⟨lb,vb,rb,rb1,rb2⟩:=t4;have hpa:(row a).Perm (T.node la a' va 0 false ra).nodes:=by have:=(T.node la a' va 0 false ra).perm;rwa [ra2,eD] at this
 have hpb:(row b).Perm (T.node lb b' vb 0 false rb).nodes:=by have:=(T.node lb b' vb 0 false rb).perm;rwa [rb2,eD] at this
 have hna:=hpa.nodup_iff.1 (h.nodup a ha);have hnb:=hpb.nodup_iff.1 (h.nodup b hb)
 -- nothing hangs on the left of the first one
 have hlb:lb=.nil:=by
  rw[bN] at rb2;obtain⟨g1,g2,g3,g4⟩:=oW rb2
  cases lb with
  |nil=>rfl
  |node l z v0 a0 t0 r=>
   exfalso;have hne:(T.node l z v0 a0 t0 r).flat.map Prod.fst≠[]:=by simp[T.flat]
   obtain⟨q,Q,hq⟩:=List.exists_cons_of_ne_nil hne;rw[g1,hq] at e4;simp only[Hp,I1,Gs] at e4;subst e4;simp only[T.nodes,GI,GS] at hnb;have hm:q∈(T.node l z v0 a0 t0 r).nodes:=(T.perm _).mem_iff.1 (by rw[hq];simp);exact hnb.2.2 q hm q (by simp) rfl
 subst hlb;rw[bN] at rb2;simp only[T.flat,Hz] at rb2;have hxb:b'∉rb.nodes:=by simp only[T.nodes,Hz,GS] at hnb;exact hnb.1
 have ham:a'∈row a:=hpa.mem_iff.2 (by simp[T.nodes]);have hbm:b'∈row b:=hpb.mem_iff.2 (by simp[T.nodes]);have hne:a'≠b':=λ e=>hap a' ham (e▸hbm);have hh:=λ y=>rZ n4 (some a') b' 0 y (λ e=>hne (by simpa using e));obtain⟨n5,hn5⟩:∃ n5,n5=eJ n4 (some a') b' 0:=⟨_,rfl⟩;rw[<- hn5] at hh ⊢;have q1:n5 b'=cJ (n4 b') 0 (some a'):=by rw[hh,if_neg (λ e=>hne (by simpa using e)),if_pos rfl]
 have q2:n5 a'={ n4 a' with up:=some b' }:=by rw[hh,if_pos rfl]
 have q3:∀ y,y≠a'->y≠b'->n5 y=n4 y:=λ y h1 h2=>by rw[hh,if_neg (λ e=>h1 (by simpa using e.symm)),if_neg h2]
 have hta:ed n5 (.node la a' va 0 false ra) (some b'):=ra1.hung (λ y hy hne'=>q3 y (λ e=>hne' (by rw[e];rfl)) (λ e=>hap y (hpa.mem_iff.2 hy) (e▸hbm))) (λ y hy=>by
  simp only[T.root,Gs] at hy;subst hy;exact q2) hna
 have hrb:ed n5 rb (some b'):=rb1.2.2.congr λ y hy=>q3 y (λ e=>hap a' ham (by rw[<- e];exact hpb.mem_iff.2 (by simp[T.nodes,hy]))) (λ e=>hxb (e▸hy))
 have hvb:vb=val b'/\rb.flat=cT (rb.flat.map Prod.fst) val/\row b=b'::rb.flat.map Prod.fst:=by
  obtain⟨g1,g2,g3,g4⟩:=oW (L:=[]) rb2;exact⟨g2,g4,g1⟩
 have hfl:(T.node (.node la a' va 0 false ra) b' vb 0 false rb).flat=cT (row a++row b) val:=by
  rw[bN,ra2,C2,rb2]
 have hsm:eZ (T.node (.node la a' va 0 false ra) b' vb 0 false rb).flat:=λ e he=>by
  rw[hfl] at he;obtain⟨g1,g2⟩:=dM.1 (show (e.1,e.2)∈_ from he);rw[g2]
  rcases GE.1 g1 with g|g
  ·exact h.small _ (h.lt a ha _ g)
  ·exact h.small _ (h.lt b hb _ g)
 obtain⟨p1,p2⟩:=ed.pull (p:=none) hta hrb (λ e=>hap b' (hpa.mem_iff.2 e) hbm) hxb (by rw[q1];exact rb1.1.up) (by rw[q1];rfl) (by rw[q1];exact rb1.1.r) (by rw[q1];exact rb1.1.value) (by rw[q1];exact rb1.1.add) (by rw[q1];exact rb1.1.turned) hsm;refine h4.change (λ z=>z∈row a\/z∈row b) (λ z hz hnz=>⟨by rw[if_neg hnz],λ y hy hyx=>hnz ?_⟩) (λ _ _ _=>rfl) (λ y hy=>?_) (λ z hz hzx=>?_)
 ·rcases hyx with hyx|hyx
  ·left;rw[<- h.same a ha y hyx,h.same z hz y hy];exact h.mem z hz
  ·right;rw[<- h.same b hb y hyx,h.same z hz y hy];exact h.mem z hz
 ·have g1:y≠a':=λ e=>hy (.inl (e▸ham));have g2:y≠b':=λ e=>hy (.inr (e▸hbm));rw[p2 y g2,q3 y g1 g2]
 ·simp only[if_pos hzx];refine⟨⟨_,p1,hfl⟩,List.mem_append.2 hzx,fun y hy=>⟨?_,by rw[if_pos (List.mem_append.1 hy)]⟩,?_,h.small z hz⟩
  ·rcases GE.1 hy with g|g
   ·exact h.lt a ha y g
   ·exact h.lt b hb y g
  ·exact GI.2 ⟨h.nodup a ha,h.nodup b hb,λ y hy z hz e=>hap y hy (e▸hz)⟩
theorem jt.turn(h:jt N ns row val){x:Nat}(hx:x<N)(ht:zj ns x (cT (row x) val)):jt N (fU ns (some x) 0 true) (λ z=>if z∈row x then (row x).reverse else row z) val:=by
 obtain⟨l,v,r,h1,h2⟩:=ht;have hp:(row x).Perm (T.node l x v 0 false r).nodes:=by have:=(T.node l x v 0 false r).perm;rwa [h2,eD] at this
 have hR:=ed.lay (b:=0) (s:=true) h1 (hp.nodup_iff.1 (h.nodup x hx));have h0:dc 0=0:=ji (by decide);rw[h0] at hR
 have hfl:((T.node l x v 0 false r).lay 0 true).flat=cT (row x).reverse val:=by
  rw[T.lay_flat,h2];unfold sh cT;rw[if_pos rfl,List.map_reverse,List.map_reverse,HQ]
  congr 1
  exact HH λ y _=>by simp
 refine h.change (λ z=>z∈row x) (λ z hz hnz=>⟨by rw[if_neg hnz],λ y hy hyx=>hnz ?_⟩) (λ _ _ _=>rfl) (λ y hy=>d7 (λ e=>hy (by simp only[Gs] at e;subst e;exact h.mem _ hx))) (λ z hz hzx=>?_)
 ·rw[<- h.same x hx y hyx,h.same z hz y hy];exact h.mem z hz
 ·simp only[if_pos hzx];exact⟨⟨_,hR,hfl⟩,by simpa using hzx,λ y hy=>⟨h.lt x hx y (by simpa using hy),by rw[if_pos (by simpa using hy)]⟩,(List.reverse_perm _).nodup_iff.2 (h.nodup x hx),h.small z hz⟩
theorem jt.add(h:jt N ns row val){x:Nat}(hx:x<N)(ht:zj ns x (cT (row x) val)){d:Int}(hd:-9223372036854775808<=d/\d<=9223372036854775807)(hs:∀ y∈row x,-4611686018427387904<=val y+d/\val y+d<=4611686018427387904):
 jt N (fU ns (some x) d false) row (λ z=>if z∈row x then val z+d else val z)/\(0<=d->(ns x).most<=4611686018427387904-d)/\(d<0→-4611686018427387904-d<=(ns x).least):=by
 obtain⟨l,v,r,h1,h2⟩:=ht;have hp:(row x).Perm (T.node l x v 0 false r).nodes:=by have:=(T.node l x v 0 false r).perm;rwa [h2,eD] at this
 have hR:=ed.lay (b:=d) (s:=false) h1 (hp.nodup_iff.1 (h.nodup x hx));rw[ji hd] at hR
 have hfl:((T.node l x v 0 false r).lay d false).flat=cT (row x) (λ z=>if z∈row x then val z+d else val z):=by
  rw[T.lay_flat,h2];unfold sh cT;rw[if_neg (by decide),HQ];exact HH λ y hy=>by simp[hy]
 have hsm:eZ (T.node l x v 0 false r).flat:=λ e he=>by
  rw[h2] at he;obtain⟨h3,h4⟩:=dM.1 (show (e.1,e.2)∈_ from he);rw[h4];exact h.small _ (h.lt x hx _ h3)
 refine⟨h.change (λ z=>z∈row x) (λ z hz hnz=>⟨rfl,λ y hy hyx=>hnz ?_⟩) (λ y _ hy=>by rw[if_neg hy]) (λ y hy=>d7 (λ e=>hy (by simp only[Gs] at e;subst e;exact h.mem _ hx))) (λ z hz hzx=>?_),λ _=>?_,λ _=>?_⟩
 ·rw[<- h.same x hx y hyx,h.same z hz y hy];exact h.mem z hz
 ·rw[h.same x hx z hzx];exact⟨⟨_,hR,hfl⟩,hzx,λ y hy=>⟨h.lt x hx y hy,h.same x hx y hy⟩,h.nodup x hx,by rw[if_pos hzx];exact hs z hzx⟩
 ·obtain⟨m,hm,hme⟩:=h1.1.most;rw[hme,hm.small hsm];obtain⟨⟨e,he,rfl⟩,_⟩:=hm;rw[h2] at he;obtain⟨h3,h4⟩:=dM.1 (show (e.1,e.2)∈_ from he);have:=hs e.1 h3;rw[h4];omega
 ·obtain⟨m,hm,hme⟩:=h1.1.least;rw[hme,hm.small hsm];obtain⟨⟨e,he,rfl⟩,_⟩:=hm;rw[h2] at he;obtain⟨h3,h4⟩:=dM.1 (show (e.1,e.2)∈_ from he);have:=hs e.1 h3;rw[h4];omega
theorem gG.mem{L:jG}{y:Nat}{m:Int}(h:gG L y m):(y,m)∈L:=by
 obtain⟨A,B,rfl,_⟩:=h;simp
theorem jt.at1(h:jt N ns row val)(hN:N<=10000){x:Nat}(hx:x<N):∃ ns' k,F8 ns x 1 ns' (row x)[1]? k/\jt N ns' row val/\k<=5*(row x).length:=by
 obtain⟨n1,k1,s1,h1,⟨l,v,r,r1,r2⟩,b1,f1⟩:=h.splay hN hx;have hp:(row x).Perm (T.node l x v 0 false r).nodes:=by have:=(T.node l x v 0 false r).perm;rwa [r2,eD] at this
 have hl:=hp.length_eq;have hlN:=h.len hx;have hfl:(T.node l x v 0 false r).flat.length=(row x).length:=by rw[r2];simp[cT]
 have hsz:(n1 x).size=(row x).length:=by rw[r1.1.size,hfl];exact qs (by omega)
 have hsm:eZ (T.node l x v 0 false r).flat:=λ e he=>by
  rw[r2] at he;obtain⟨h3,h4⟩:=dM.1 (show (e.1,e.2)∈_ from he);rw[h4];exact h.small _ (h.lt x hx _ h3)
 by_cases hc:(row x).length<=1
 ·refine⟨n1,k1,⟨n1,k1,s1,.inl ⟨.inr (by omega),G6 hc,rfl,rfl⟩⟩,h1,by omega⟩
 ·obtain⟨n2,y,k,t',q1,q2,q3,q4,q5,q6,vy,q7⟩:=Ep _ l r x v n1 none 1 (Nat.le_refl _) (by omega) r1 (hp.nodup_iff.1 (h.nodup x hx)) (by decide) (by omega);have hp2:=bM q3;have hy:y∈t'.nodes:=T.mem_nodes.2 ⟨vy,by rw[q3];exact List.mem_of_getElem? q7⟩;obtain⟨n3,j,l',v',r',m1,m2,m3,m4,m5⟩:=kF q2 (hp2.nodup_iff.2 (hp.nodup_iff.1 (h.nodup x hx))) (q3.symm▸hsm) hy (by have:=hp2.length_eq;omega)
  have e1:(row x)[1]?=some y:=by
   rw[r2] at q7;have:((row x)[1]?).map (λ y=>(y,val y))=some (y,vy):=by unfold cT at q7;rw[GC] at q7;exact q7
   cases hr:(row x)[1]? with
   |none=>rw[hr] at this;cases this
   |some z=>rw[hr] at this;simp at this;rw[this.1]
  rw[e1];refine⟨n3,k1+(k+j),⟨n1,k1,s1,.inr ⟨by decide,by omega,y,k+j,q1 n3 j m1,rfl,rfl⟩⟩,h1.retree hx m2 (by rw[m3,q3,r2]) (λ z hz=>?_),by have:=hp2.length_eq;omega⟩;have hz1:z∉(T.node l x v 0 false r).nodes:=λ e=>hz (hp.mem_iff.2 e);rw[m4 z (λ e=>hz1 (hp2.mem_iff.1 e)),q6 z hz1]
theorem jt.least(h:jt N ns row val)(hN:N<=10000){x:Nat}(hx:x<N):∃ ns' y k,Gh ns x ns' y k/\jt N ns' row val/\k<=5*(row x).length/\gG (cT (row x) val) y (val y)/\y∈row x:=by
 obtain⟨n1,k1,s1,h1,⟨l,v,r,r1,r2⟩,b1,f1⟩:=h.splay hN hx;have hp:(row x).Perm (T.node l x v 0 false r).nodes:=by have:=(T.node l x v 0 false r).perm;rwa [r2,eD] at this
 have hl:=hp.length_eq;have hlN:=h.len hx
 have hsm:eZ (T.node l x v 0 false r).flat:=λ e he=>by
  rw[r2] at he;obtain⟨h3,h4⟩:=dM.1 (show (e.1,e.2)∈_ from he);rw[h4];exact h.small _ (h.lt x hx _ h3)
 obtain⟨m,hm,hme⟩:=r1.1.least;rw[hm.small hsm] at hme;obtain⟨n2,y,k,t',q1,q2,q3,q4,q5,q6,q7⟩:=Eu _ l r x v n1 none m (GF _) r1 (hp.nodup_iff.1 (h.nodup x hx)) hsm hm;have hp2:=bM q3;have hy:y∈t'.nodes:=T.mem_nodes.2 ⟨m,by rw[q3];exact q7.mem⟩;obtain⟨n3,j,l',v',r',m1,m2,m3,m4,m5⟩:=kF q2 (hp2.nodup_iff.2 (hp.nodup_iff.1 (h.nodup x hx))) (q3.symm▸hsm) hy (by have:=hp2.length_eq;omega);rw[r2] at q7;obtain⟨g1,g2⟩:=dM.1 q7.mem;refine⟨n3,y,k1+(k+j),⟨n1,k1,k+j,s1,by rw[hme];exact q1 n3 j m1,rfl⟩,h1.retree hx m2 (by rw[m3,q3,r2]) (λ z hz=>?_),by have:=hp2.length_eq;omega,by rw[<- g2];exact q7,g1⟩;have hz1:z∉(T.node l x v 0 false r).nodes:=λ e=>hz (hp.mem_iff.2 e);rw[m4 z (λ e=>hz1 (hp2.mem_iff.1 e)),q6 z hz1]
end
def aS(par:OV):Nat->LN->Prop
 |_,[]=>False
 |x,[y]=>x=y/\par x=none
 |x,y::z::l=>x=y/\par x=some z/\aS par z (z::l)
theorem aS.head{par:OV}:∀ {p:LN} {x:Nat},aS par x p->∃ q,p=x::q
 |[],_,h=>h.elim
 |[y],_,⟨h,_⟩=>⟨[],by rw[h]⟩
 |y::z::l,_,⟨h,_⟩=>⟨z::l,by rw[h]⟩
theorem aS.uniq{par:OV}:∀ {p q:LN} {x:Nat},aS par x p->aS par x q->p=q
 |[],_,_,h,_=>h.elim
 |_,[],_,_,h=>h.elim
 |[y],[z],x,⟨h1,_⟩,⟨h2,_⟩=>by rw[<- h1,<- h2]
 |[y],z::z'::l,x,⟨_,h1⟩,⟨_,h2,_⟩=>by rw[h1] at h2;cases h2
 |y::y'::l,[z],x,⟨_,h1,_⟩,⟨_,h2⟩=>by rw[h1] at h2;cases h2
 |y::y'::l,z::z'::m,x,⟨h1,h2,h3⟩,⟨k1,k2,k3⟩=>by
  rw[h2] at k2;simp only[Gs] at k2;subst k2;rw[<- h1,<- k1,aS.uniq h3 k3]
theorem aS.tail{par:OV}:∀ {A B:LN} {x y:Nat},aS par x (A++y::B)->aS par y (y::B)
 |[],B,x,y,h=>by
  obtain⟨q,hq⟩:=h.head;simp only[Hz,HO] at hq;obtain⟨rfl,_⟩:=hq;exact h
 |[a],B,x,y,⟨_,_,h⟩=>h
 |a::b::A,B,x,y,⟨_,_,h⟩=>aS.tail (A:=b::A) h
theorem aS.nodup{par:OV}:∀ {p:LN} {x:Nat},aS par x p->p.Nodup
 |[],_,h=>h.elim
 |[y],_,_=>by simp
 |y::z::l,x,⟨h1,h2,h3⟩=>by
  refine GS.2 ⟨λ hm=>?_,aS.nodup h3⟩;obtain⟨A,B,hAB⟩:=Io hm;have h4:aS par y (y::B):=aS.tail (by rw[<- hAB];exact h3);have h5:aS par y (y::z::l):=by rw[<- h1];exact⟨rfl,h2,h3⟩
  have h6:=Gt List.length (h4.uniq h5);have h7:=Gt List.length hAB;simp at h6 h7;omega
theorem aS.next{par:OV}{A B:LN}{x u w:Nat}(h:aS par x (A++u::w::B)):par u=some w:=(aS.tail h).2.1
theorem aS.last{par:OV}{A:LN}{x u:Nat}(h:aS par x (A++[u])):par u=none:=(aS.tail h).2
theorem jV{par:OV}:∀ {L:LN} {x:Nat} {p:LN},(∀ A u w B,x::L=A++u::w::B->par u=some w)->aS par x p->(x::L)<+:p
 |[],x,p,_,h=>by obtain⟨q,rfl⟩:=h.head;exact⟨q,rfl⟩
 |y::L,x,p,hc,h=>by
  have h1:=hc [] x y L rfl
  match p,h with
  |[z],⟨_,h2⟩=>rw[h1] at h2;cases h2
  |z::z'::l,⟨h2,h3,h4⟩=>
   rw[h1] at h3;simp only[Gs] at h3;subst h3;have ih:=jV (L:=L) (λ A u w B e=>hc (x::A) u w B (by rw[e];rfl)) h4;rw[<- h2];exact (List.cons_prefix_cons).2 ⟨rfl,ih⟩
structure fE (N:Nat) (s:fV) (par:OV) (val:Nat->Int) (row:Nat->LN):Prop where
 so:jt N s.ns row val
 nok:dD N s.ns
 chain:∀ x,x<N->∀ A u w B,row x=A++u::w::B->par u=some w
 top:∀ x,x<N->∀ A u,row x=A++[u]->s.ov u=par u
 inner:∀ x,x<N->∀ A u w B,row x=A++u::w::B->s.ov u=none
 path:∀ x,x<N->∃ p,aS par x p
 lt:∀ x,x<N->sM N (par x)
section
variable {N:Nat} {s:fV} {par:OV} {val:Nat->Int} {row:Nat->LN}
theorem fE.fok(h:fE N s par val row):lS N s:=by
 refine⟨h.nok,λ x hx=>?_⟩;obtain⟨A,B,hAB⟩:=Io (h.so.mem x hx)
 cases B with
 |nil=>rw[h.top x hx A x hAB];exact h.lt x hx
 |cons w B=>rw[h.inner x hx A x w B hAB];trivial
theorem fE.retree(h:fE N s par val row){ns':bQ}{k:Nat}(hn:dD N ns')(hs:jt N ns' row val):fE N ⟨ns',s.ov,k⟩ par val row:=⟨hs,hn,h.chain,h.top,h.inner,h.path,h.lt⟩
theorem qK{A B C D:LN}{x:Nat}(hn:(A++x::B).Nodup)(h:A++x::B=C++x::D):A=C/\B=D:=by
 induction A generalizing C with
 |nil=>
  cases C with
  |nil=>simpa using h
  |cons c C=>
   exfalso;simp only[Hz,Hp,HO] at h hn;obtain⟨rfl,rfl⟩:=h;simp at hn
 |cons a A ih=>
  cases C with
  |nil=>
   exfalso;simp only[Hz,Hp,HO] at h;obtain⟨rfl,_⟩:=h;simp at hn
  |cons c C=>
   simp only[Hp,HO] at h;obtain⟨rfl,h⟩:=h;obtain⟨h1,h2⟩:=ih (GS.1 hn).2 h;exact⟨by rw[h1],h2⟩
theorem fE.part(h:fE N s par val row)(hN:N<=10000){v:Nat}(hv:v<N):∃ s' row' A B,yx s v s'/\fE N s' par val row'/\row v=A++v::B/\row' v=v::B/\s'.k<=s.k+12*(row v).length/\∀ z,z∉row v->row' z=row z:=by
 obtain⟨n1,deep,k1,e1,h1,b1,d1⟩:=h.so.edge hN (by decide:0<2) hv;rw[if_pos rfl] at d1;have hdm:deep∈row v:=List.mem_of_mem_head? (by rw[d1];rfl);have hN1:=(h.nok.edge hv e1).1;by_cases hd:deep=v
 ·subst hd
  obtain⟨B,hB⟩:∃ B,row deep=deep::B:=by
   cases hr:row deep with
   |nil=>rw[hr] at d1;cases d1
   |cons a l=>rw[hr] at d1;simp only[I1,Gs] at d1;exact⟨l,by rw[d1]⟩
  exact⟨_,row,[],B,⟨n1,deep,k1,e1,.inl ⟨rfl,rfl⟩⟩,h.retree hN1 h1,hB,hB,by show s.k+k1<=_;omega,λ _ _=>rfl⟩
 ·obtain⟨n2,k2,e2,h2,t2,b2,f2⟩:=h1.splay hN hv;obtain⟨A,B,hAB,f3,h3⟩:=h2.split hv t2;have hN2:=hN1.splay hv e2;have hN3:=hN2.split hv;have hnd:=h.so.nodup v hv
  have hdA:deep∈A:=by
   cases A with
   |nil=>rw[hAB] at d1;simp at d1;exact absurd d1.symm hd
   |cons a A=>rw[hAB] at d1;simp at d1;rw[d1];simp
  have hdN:=h.so.lt v hv deep hdm;obtain⟨n3,top,k3,e3,h4,b3,d3⟩:=h3.edge hN (by decide:1<2) hdN;rw[if_neg (by decide)] at d3;simp only[if_pos hdA] at d3 b3
  obtain⟨A0,rfl⟩:∃ A0,A=A0++[top]:=by
   rcases Hn A with rfl|⟨A0,t,rfl⟩
   ·cases hdA
   ·rw[Ho] at d3 ⊢;rw[Hd] at d3;simp at d3;subst d3;exact⟨A0,rfl⟩
  have hN4:=(hN3.edge hdN e3).1;have hlen:(A0++[top]).length<=(row v).length:=by rw[hAB];simp
  have htv:top∈row v:=by rw[hAB];simp
  have htB:top∉v::B:=λ hm=>by
   rw[hAB] at hnd;exact (GI.1 hnd).2.2 top (by simp) top hm rfl
  have htA0:top∉A0:=λ hm=>by
   rw[hAB] at hnd;exact (GI.1 (GI.1 hnd).1).2.2 top hm top (by simp) rfl
  have hrow':∀ z,(if z∈A0++[top] then A0++[top] else if z∈v::B then v::B else row z)=A0++[top]\/(if z∈A0++[top] then A0++[top] else if z∈v::B then v::B else row z)=v::B\/((if z∈A0++[top] then A0++[top] else if z∈v::B then v::B else row z)=row z/\z∉row v):=by
   intro z;by_cases c1:z∈A0++[top]
   ·left;rw[if_pos c1]
   ·rw[if_neg c1];by_cases c2:z∈v::B
    ·right;left;rw[if_pos c2]
    ·right;right;rw[if_neg c2]
     exact⟨rfl,λ hm=>by rw[hAB] at hm;rcases GE.1 hm with hm|hm;exact c1 hm;exact c2 hm⟩
  have hoth:∀ z,z<N->z∉row v->top∉row z:=λ z hz hzv htz=>hzv (by
   rw[<- h.so.same v hv top htv,h.so.same z hz top htz];exact h.so.mem z hz)
  refine⟨_,_,A0++[top],B,⟨n1,deep,k1,e1,.inr ⟨hd,n2,k2,n3,top,k3,e2,e3,rfl⟩⟩,⟨h4,hN4,?_,?_,?_,h.path,h.lt⟩,hAB,?_,by show s.k+k1+k2+k3<=_;omega,λ z hz=>?_⟩
  ·intro x hx C u w D hC
   rcases hrow' x with e|e|⟨e,_⟩
   ·rw[e] at hC;exact h.chain v hv C u w (D++v::B) (by rw[hAB,hC];simp)
   ·rw[e] at hC;exact h.chain v hv (A0++[top]++C) u w D (by rw[hAB,hC];simp)
   ·rw[e] at hC;exact h.chain x hx C u w D hC
  ·intro x hx C u hC;simp only[bj]
   rcases hrow' x with e|e|⟨e,hxv⟩
   ·rw[e] at hC;have hu:u=top:=by have:=congrArg List.getLast? hC;simp at this;exact this.symm
    subst hu;rw[if_pos rfl];exact (h.chain v hv A0 u v B (by rw[hAB];simp)).symm
   ·rw[e] at hC;have hu:u∈v::B:=by rw[hC];simp
    rw[if_neg (show ¬ u=top from λ e=>htB (e▸hu))];exact h.top v hv (A0++[top]++C) u (by rw[hAB,hC];simp)
   ·rw[e] at hC;rw[if_neg (λ e=>hoth x hx hxv (by rw[hC,<- e];simp))];exact h.top x hx C u hC
  ·intro x hx C u w D hC;simp only[bj]
   rcases hrow' x with e|e|⟨e,hxv⟩
   ·rw[e] at hC
    have hu:u≠top:=λ e=>by
     subst e;have hnA:(A0++[u]).Nodup:=by rw[hAB] at hnd;exact (GI.1 hnd).1
     have:=(qK (A:=A0) (B:=[]) hnA hC).2
     cases this
    rw[if_neg hu];exact h.inner v hv C u w (D++v::B) (by rw[hAB,hC];simp)
   ·rw[e] at hC;have hu:u∈v::B:=by rw[hC];simp
    rw[if_neg (show ¬ u=top from λ e=>htB (e▸hu))];exact h.inner v hv (A0++[top]++C) u w D (by rw[hAB,hC];simp)
   ·rw[e] at hC;rw[if_neg (λ e=>hoth x hx hxv (by rw[hC,<- e];simp))];exact h.inner x hx C u w D hC
  ·have hvA:v∉A0++[top]:=λ hm=>by
    rw[hAB] at hnd;exact (GI.1 hnd).2.2 v hm v (by simp) rfl
   show (if v∈A0++[top] then A0++[top] else if v∈v::B then v::B else row v)=_;rw[if_neg hvA,if_pos (by simp)]
  ·show (if z∈A0++[top] then A0++[top] else if z∈v::B then v::B else row z)=_;rw[if_neg (λ e=>hz (by rw[hAB];exact List.mem_append_left _ e)),if_neg (λ e=>hz (by rw[hAB];exact List.mem_append_right _ e))]
end
theorem sN:∀ {C L K D:LN} {u w:Nat},L++K=C++u::w::D->(∃ D1,L=C++u::w::D1)\/(∃ C',K=C'++u::w::D)\/(L=C++[u]/\K=w::D)
 |[],[],K,D,u,w,h=>.inr (.inl ⟨[],h⟩)
 |[],[a],K,D,u,w,h=>by
  simp only[Hp,Hz,HO] at h;exact .inr (.inr ⟨by rw[h.1];rfl,h.2⟩)
 |[],a::b::L,K,D,u,w,h=>by
  simp only[Hp,Hz,HO] at h;exact .inl ⟨L,by rw[h.1,h.2.1];rfl⟩
 |c::C,[],K,D,u,w,h=>.inr (.inl ⟨c::C,h⟩)
 |c::C,a::L,K,D,u,w,h=>by
  simp only[Hp,HO] at h;obtain⟨rfl,h⟩:=h
  rcases sN h with ⟨D1,e⟩|⟨C',e⟩|⟨e1,e2⟩
  ·exact .inl ⟨D1,by rw[e];rfl⟩
  ·exact .inr (.inl ⟨C',e⟩)
  ·exact .inr (.inr ⟨by rw[e1];rfl,e2⟩)
def tI(N x:Nat):Nat:=10*(N*x)+x*x+6*x+5*N
theorem yB{N x s t:Nat}(h:t+x=N)(h1:1<=s)(h2:s<=x):5*t+12*x+5*(t+s)+tI N (x-s)<=tI N x:=by
 obtain⟨y,rfl⟩:∃ y,x=y+s:=⟨x-s,by omega⟩;rw[Nat.add_sub_cancel];unfold tI;have e1:N*(y+s)=N*y+N*s:=HF _ _ _;have e2:(y+s)*(y+s)=y*y+y*s+(s*y+s*s):=by rw[H0,HF,HF]
 have e3:s*y=y*s:=Nat.mul_comm _ _;have g1:N<=N*s:=Nat.le_mul_of_pos_right _ h1;have g2:y<=y*s:=Nat.le_mul_of_pos_right _ h1;have g3:s<=s*s:=Nat.le_mul_of_pos_right _ h1;omega
section
variable {N:Nat} {par:OV} {val:Nat->Int}
theorem fE.accL(hN:N<=10000){v:Nat}(hv:v<N){p:LN}(hp:aS par v p):∀ (n:Nat) (s:fV) (row:Nat->LN),fE N s par val row->(∃ B,row v=v::B)->p.length-(row v).length<=n->
 ∃ s' row' i,tG v s s' i/\fE N s' par val row'/\row' v=p/\s'.k<=s.k+tI N (N-(row v).length):=by
 intro n
 induction n with
 |zero=>
  intro s row h ⟨B,hB⟩ hm;have hpre:row v<+:p:=by rw[hB];exact jV (λ A u w C e=>h.chain v hv A u w C (by rw[hB,e])) hp
  obtain⟨D,hD⟩:=hpre
  have hDl:D=[]:=by
   have:=Gt List.length hD;simp at this;exact GM.1 (by omega)
  subst hDl;rw[G5] at hD;obtain⟨n1,top,k1,e1,h1,b1,d1⟩:=h.so.edge hN (by decide:1<2) hv;rw[if_neg (by decide)] at d1
  obtain⟨A,hA⟩:∃ A,row v=A++[top]:=by
   rcases Hn (row v) with e|⟨A,t,e⟩
   ·rw[e] at d1;cases d1
   ·rw[Ho] at e;rw[e,Hd] at d1;simp at d1;exact⟨A,by rw[e,d1]⟩
  have hov:s.ov top=none:=by
   rw[h.top v hv A top hA];exact aS.last (A:=A) (x:=v) (by rw[<- hA,hD];exact hp)
  refine⟨_,row,0,.done e1 hov,h.retree (h.nok.edge hv e1).1 h1,hD,?_⟩;have:=h.so.len hv;unfold tI;show s.k+k1<=_;omega
 |succ n ih=>
  intro s row h ⟨B,hB⟩ hm;have hpre:row v<+:p:=by rw[hB];exact jV (λ A u w C e=>h.chain v hv A u w C (by rw[hB,e])) hp
  obtain⟨D,hD⟩:=hpre;obtain⟨n1,top,k1,e1,h1,b1,d1⟩:=h.so.edge hN (by decide:1<2) hv;rw[if_neg (by decide)] at d1
  obtain⟨A,hA⟩:∃ A,row v=A++[top]:=by
   rcases Hn (row v) with e|⟨A,t,e⟩
   ·rw[e] at d1;cases d1
   ·rw[Ho] at e;rw[e,Hd] at d1;simp at d1;exact⟨A,by rw[e,d1]⟩
  have hlN:=h.so.len hv;have hN1:=(h.nok.edge hv e1).1
  cases D with
  |nil=>
   rw[G5] at hD
   have hov:s.ov top=none:=by
    rw[h.top v hv A top hA];exact aS.last (A:=A) (x:=v) (by rw[<- hA,hD];exact hp)
   refine⟨_,row,0,.done e1 hov,h.retree hN1 h1,hD,?_⟩;unfold tI;show s.k+k1<=_;omega
  |cons w D=>
   have hpn:=hp.nodup;have hpw:par top=some w:=aS.next (A:=A) (B:=D) (x:=v) (by rw[show A++top::w::D=(A++[top])++w::D by simp,<- hA,hD];exact hp);have hov:s.ov top=some w:=by rw[h.top v hv A top hA,hpw]
   have htN:top<N:=h.so.lt v hv top (by rw[hA];simp);have hwN:w<N:=by have:=h.lt top htN;rw[hpw] at this;exact this
   have hwv:w∉row v:=λ hm=>by
    rw[<- hD] at hpn;exact (GI.1 hpn).2.2 w hm w (by simp) rfl
   have hvw:v≠w:=λ e=>hwv (e▸h.so.mem v hv);have hap:=h.so.apart hv hwN hwv;have h1':fE N ⟨n1,s.ov,s.k+k1⟩ par val row:=h.retree hN1 h1;obtain⟨s2,row2,A2,B2,e2,h2,hw1,hw2,hk2,hoth⟩:=h1'.part hN hwN;have hrv:row2 v=row v:=hoth v (hap v (h.so.mem v hv));have hsub:∀ y∈row2 w,y∈row w:=λ y hy=>by rw[hw2] at hy;rw[hw1];exact List.mem_append_right _ hy
   have hwv2:w∉row2 v:=by rw[hrv];exact hwv
   obtain⟨n4,k4,e4,h4,b4⟩:=h2.so.joined hN hv hwN hwv2;have hN4:=h2.nok.joined hv hwN e4;rw[hrv] at h4 b4;have htv:top∈row v:=by rw[hA];simp
   have htw:top∉row2 w:=λ hm=>hap top htv (hsub top hm)
   have hjoin:∀ z,(if z∈row v\/z∈row2 w then row v++row2 w else row2 z)=row v++row2 w\/((if z∈row v\/z∈row2 w then row v++row2 w else row2 z)=row2 z/\z∉row v):=λ z=>by
    by_cases c:z∈row v\/z∈row2 w
    ·left;rw[if_pos c]
    ·right;rw[if_neg c];exact⟨rfl,λ e=>c (.inl e)⟩
   have hoz:∀ z,z<N->z∉row v->top∉row2 z:=λ z hz hzv ht=>hzv (by
    have h5:=h2.so.same z hz top ht;have h6:=h2.so.same v hv top (by rw[hrv];exact htv);rw[h6,hrv] at h5;rw[h5];exact h2.so.mem z hz)
   have hF:fE N ⟨n4,bj s2.ov top none,s2.k+k4⟩ par val (λ z=>if z∈row v\/z∈row2 w then row v++row2 w else row2 z):=by
    refine⟨h4,hN4,λ x hx C u z E hC=>?_,λ x hx C u hC=>?_,λ x hx C u z E hC=>?_,h.path,h.lt⟩
    ·rcases hjoin x with e|⟨e,_⟩
     ·rw[e] at hC
      rcases sN hC with ⟨D1,g⟩|⟨C',g⟩|⟨g1,g2⟩
      ·exact h.chain v hv C u z D1 g
      ·exact h2.chain w hwN C' u z E g
      ·rw[hA] at g1;have hu:top=u:=by have:=congrArg List.getLast? g1;simpa using this
       rw[hw2] at g2;simp only[HO] at g2;rw[<- hu,<- g2.1];exact hpw
     ·rw[e] at hC;exact h2.chain x hx C u z E hC
    ·simp only[bj] at hC ⊢
     rcases hjoin x with e|⟨e,hxv⟩
     ·rw[e] at hC
      have hl:(row2 w).getLast?=some u:=by
       have:=Gt List.getLast? hC;rw[Hd,Hd] at this;rw[hw2] at this ⊢
       simpa using this
      have hu:u∈row2 w:=HL hl;rw[if_neg (show ¬ u=top from λ e=>htw (e▸hu))]
      obtain⟨C',hC'⟩:∃ C',row2 w=C'++[u]:=by
       rcases Hn (row2 w) with e|⟨A',t,e⟩
       ·rw[e] at hl;cases hl
       ·rw[Ho] at e;rw[e,Hd] at hl;simp at hl;exact⟨A',by rw[e,hl]⟩
      exact h2.top w hwN C' u hC'
     ·rw[e] at hC;rw[if_neg (show ¬ u=top from λ e=>hoz x hx hxv (by rw[hC,<- e];simp))];exact h2.top x hx C u hC
    ·simp only[bj] at hC ⊢;by_cases hut:u=top
     ·rw[if_pos hut]
     ·rw[if_neg hut]
      rcases hjoin x with e|⟨e,hxv⟩
      ·rw[e] at hC
       rcases sN hC with ⟨D1,g⟩|⟨C',g⟩|⟨g1,_⟩
       ·exact h2.inner v hv C u z D1 (by rw[hrv];exact g)
       ·exact h2.inner w hwN C' u z E g
       ·rw[hA] at g1;have hu:top=u:=by have:=congrArg List.getLast? g1;simpa using this
        exact absurd hu.symm hut
      ·rw[e] at hC;exact h2.inner x hx C u z E hC
   have hnew:(if v∈row v\/v∈row2 w then row v++row2 w else row2 v)=row v++row2 w:=if_pos (.inl (h.so.mem v hv));have hlp:(row v).length+(D.length+1)=p.length:=by rw[<- hD];simp
   have hl2:(row2 w).length=B2.length+1:=by rw[hw2];rfl
   have hlw:(row v).length+(row w).length<=N:=by
    have:=mE (N:=N) (l:=row v++row w) (GI.2 ⟨h.so.nodup v hv,h.so.nodup w hwN,λ a ha b hb e=>hap a ha (e▸hb)⟩) (λ y hy=>by
     rcases GE.1 hy with hy|hy
     ·exact h.so.lt v hv y hy
     ·exact h.so.lt w hwN y hy)
    simpa using this
   have hlw2:(row2 w).length<=(row w).length:=by rw[hw1,hw2];simp
   obtain⟨s',row',i,g1,g2,g3,g4⟩:=ih _ _ hF ⟨B++row2 w,by rw[hnew,hB];rfl⟩ (by rw[hnew,Gx];omega);refine⟨s',row',i+1,.go e1 hov e2 hvw e4 g1,g2,g3,?_⟩;simp only at g4 hk2;rw[hnew,Gx] at g4;have hst:=yB (N:=N) (x:=N-(row v).length) (s:=(row2 w).length) (t:=(row v).length) (by omega) (by omega) (by omega);rw[show N-((row v).length+(row2 w).length)=N-(row v).length-(row2 w).length by omega] at g4;omega
def dd(N:Nat):Nat:=11*(N*N)+23*N
theorem fE.acc{s:fV}{row:Nat->LN}(h:fE N s par val row)(hN:N<=10000){v:Nat}(hv:v<N){p:LN}(hp:aS par v p):∃ s' row',DU s v s'/\fE N s' par val row'/\row' v=p/\s'.k<=s.k+dd N:=by
 obtain⟨s1,row1,A,B,e1,h1,hA,hB,hk,_⟩:=h.part hN hv;obtain⟨s',row',i,e2,h2,h3,h4⟩:=fE.accL hN hv hp _ s1 row1 h1 ⟨B,hB⟩ (GF _);refine⟨s',row',⟨s1,i,e1,e2⟩,h2,h3,?_⟩;have hl:=h.so.len hv;have hx:N-(row1 v).length<=N-1:=by rw[hB];simp;omega
 have hC:tI N (N-(row1 v).length)<=11*(N*N)+11*N:=by
  obtain⟨x,hx'⟩:∃ x,N-(row1 v).length=x:=⟨_,rfl⟩;rw[hx'] at hx ⊢;have hxN:x<=N:=by omega
  have g1:N*x<=N*N:=Ih _ hxN;have g2:x*x<=N*N:=HX hxN hxN;unfold tI;omega
 unfold dd;omega
end
theorem aS.congr{par par':OV}:∀ {p:LN} {x:Nat},aS par x p->(∀ y∈p,par' y=par y)->aS par' x p
 |[],_,h,_=>h
 |[y],x,⟨h1,h2⟩,hp=>⟨h1,by rw[h1] at h2 ⊢;rw[hp y (by simp)];exact h2⟩
 |y::z::l,x,⟨h1,h2,h3⟩,hp=>⟨h1,by rw[h1] at h2 ⊢;rw[hp y (by simp)];exact h2,h3.congr λ q hq=>hp q (by simp at hq ⊢;exact .inr hq)⟩
theorem aS.cons{par:OV}{x y:Nat}{p:LN}(h1:par x=some y)(h:aS par y p):aS par x (x::p):=by
 obtain⟨q,rfl⟩:=h.head;exact⟨rfl,h1,h⟩
theorem aS.link{par par':OV}{v w:Nat}{q:LN}(hv:par' v=some w)(hq:aS par' w q):∀ {A:LN} {x:Nat},aS par x (A++[v])->(∀ y∈A,par' y=par y)->aS par' x (A++v::q)
 |[],x,⟨h,_⟩,_=>by rw[h];exact hq.cons hv
 |[a],x,⟨h1,h2,h3⟩,hA=>by
  rw[h1] at h2 ⊢;exact aS.cons (by rw[hA a (by simp)];exact h2) (aS.link (A:=[]) hv hq h3 (λ _ h=>by cases h))
 |a::b::A,x,⟨h1,h2,h3⟩,hA=>by
  rw[h1] at h2 ⊢;exact aS.cons (by rw[hA a (by simp)];exact h2) (aS.link (A:=b::A) hv hq h3 λ y hy=>hA y (by simp at hy ⊢;exact .inr hy))
theorem aS.cut{par par':OV}{v:Nat}(hv:par' v=none):∀ {A B:LN} {x:Nat},aS par x (A++v::B)->(∀ y∈A,par' y=par y)->aS par' x (A++[v])
 |[],B,x,h,_=>by
  obtain⟨q,hq⟩:=h.head;simp only[Hz,HO] at hq;rw[hq.1] at hv;exact⟨hq.1.symm,hv⟩
 |[a],B,x,⟨h1,h2,h3⟩,hA=>by
  rw[h1] at h2 ⊢;exact aS.cons (by rw[hA a (by simp)];exact h2) (aS.cut (A:=[]) hv h3 (λ _ h=>by cases h))
 |a::b::A,B,x,⟨h1,h2,h3⟩,hA=>by
  rw[h1] at h2 ⊢;exact aS.cons (by rw[hA a (by simp)];exact h2) (aS.cut (A:=b::A) hv h3 λ y hy=>hA y (by simp at hy ⊢;exact .inr hy))
theorem aS.second{par:OV}{x:Nat}{p:LN}(h:aS par x p):p[1]?=par x:=by
 match p,h with
 |[y],⟨_,h2⟩=>rw[h2];rfl
 |y::z::l,⟨_,h2,_⟩=>rw[h2];rfl
theorem aS.root_end{par:OV}{x v:Nat}{A B:LN}(h:aS par x (A++v::B))(hv:par v=none):B=[]:=by
 cases B with
 |nil=>rfl
 |cons b B=>have:=h.next;rw[hv] at this;cases this
theorem aS.root_last{par:OV}{x y:Nat}{p:LN}(h:aS par x p)(hy:p.getLast?=some y):par y=none:=by
 rcases Hn p with rfl|⟨A,t,rfl⟩
 ·cases hy
 ·rw[Ho] at h hy;rw[Hd] at hy;simp at hy;rw[<- hy];exact h.last
theorem aS.lt{par:OV}{N:Nat}(hl:∀ x,x<N->sM N (par x)):∀ {p:LN} {x:Nat},aS par x p->x<N->∀ y∈p,y<N
 |[],_,h,_,_,_=>h.elim
 |[z],x,⟨h1,_⟩,hx,y,hy=>by rw[Gy.1 hy,<- h1];exact hx
 |z::z'::l,x,⟨h1,h2,h3⟩,hx,y,hy=>by
  rcases GD.1 hy with rfl|hy
  ·rw[<- h1];exact hx
  ·have:=hl x hx;rw[h2] at this;exact aS.lt hl h3 this y hy
theorem aS.ne{par:OV}{x:Nat}{p:LN}(h:aS par x p):∃ A y,p=A++[y]:=by
 rcases Hn p with rfl|⟨A,t,rfl⟩
 ·exact h.elim
 ·exact⟨A,t,Ho⟩
section
variable {N:Nat} {s:fV} {par:OV} {val:Nat->Int} {row:Nat->LN}
theorem fE.root_(h:fE N s par val row)(hN:N<=10000){v:Nat}(hv:v<N){p:LN}(hp:aS par v p):∃ s' row' y,uf s v s' y/\fE N s' par val row'/\p.getLast?=some y/\s'.k<=s.k+dd N+5*N:=by
 obtain⟨s1,row1,e1,h1,h2,h3⟩:=h.acc hN hv hp;obtain⟨n1,y,k1,e2,h4,b,d⟩:=h1.so.edge hN (by decide:1<2) hv;rw[if_neg (by decide),h2] at d;have hl:=h1.so.len hv;exact⟨_,row1,y,⟨s1,n1,k1,e1,e2,rfl⟩,h1.retree (h1.nok.edge hv e2).1 h4,d,by show s1.k+k1<=_;omega⟩
theorem fE.above_(h:fE N s par val row)(hN:N<=10000){v:Nat}(hv:v<N){p:LN}(hp:aS par v p):∃ s' row',sv s v s' (par v)/\fE N s' par val row'/\row' v=p/\s'.k<=s.k+dd N+5*N:=by
 obtain⟨s1,row1,e1,h1,h2,h3⟩:=h.acc hN hv hp;obtain⟨n1,k1,e2,h4,b⟩:=h1.so.at1 hN hv;rw[h2,hp.second] at e2;have hl:=h1.so.len hv
 have hn:dD N n1:=by
  obtain⟨m1,j1,hS,⟨_,_,rfl,_⟩|⟨_,_,z,k2,h3',_,_⟩⟩:=e2
  ·exact h1.nok.splay hv hS
  ·exact (dD.atR h3' hv (h1.nok.splay hv hS)).1
 exact⟨_,row1,⟨s1,n1,k1,e1,e2,rfl⟩,h1.retree hn h4,h2,by show s1.k+k1<=_;omega⟩
theorem fE.value_(h:fE N s par val row)(hN:N<=10000){v:Nat}(hv:v<N):∃ s',FG s v s'/\fE N s' par val row/\(s'.ns v).value=val v/\s'.k<=s.k+2*N:=by
 obtain⟨n1,k1,e1,h1,t1,b1,_⟩:=h.so.splay hN hv;have hl:=h.so.len hv;exact⟨_,⟨n1,k1,e1,rfl⟩,h.retree (h.nok.splay hv e1) h1,t1.value (h.so.small v hv),by show s.k+k1<=_;omega⟩
theorem fE.add_(h:fE N s par val row)(hN:N<=10000){v:Nat}(hv:v<N){p:LN}(hp:aS par v p){d:Int}(hd:-9223372036854775808<=d/\d<=9223372036854775807)(hs:∀ y∈p,-4611686018427387904<=val y+d/\val y+d<=4611686018427387904):
 ∃ s' row',FC s v d s'/\fE N s' par (λ z=>if z∈p then val z+d else val z) row'/\s'.k<=s.k+dd N+2*N:=by
 obtain⟨s1,row1,e1,h1,h2,h3⟩:=h.acc hN hv hp;obtain⟨n1,k1,e2,h4,t1,b1,_⟩:=h1.so.splay hN hv;have hl:=h1.so.len hv;have hn:=h1.nok.splay hv e2;obtain⟨h5,h6,h7⟩:=h4.add hv t1 hd (by rw[h2];exact hs);rw[h2] at h5;exact⟨_,row1,⟨s1,n1,k1,e1,e2,h6,h7,rfl⟩,⟨h5,hn.lay (c:=some v) hv d false,h1.chain,h1.top,h1.inner,h1.path,h1.lt⟩,by show s1.k+k1<=_;omega⟩
theorem fE.least_(h:fE N s par val row)(hN:N<=10000){v:Nat}(hv:v<N){p:LN}(hp:aS par v p):∃ s' row' y,Bv s v s' y/\fE N s' par val row'/\gG (cT p.reverse val) y (val y)/\y∈p/\s'.k<=s.k+dd N+9*N:=by
 obtain⟨s1,row1,e1,h1,h2,h3⟩:=h.acc hN hv hp;obtain⟨n1,k1,e2,h4,t1,b1,_⟩:=h1.so.splay hN hv;have hl:=h1.so.len hv;have hn:=(h1.nok.splay hv e2).lay (c:=some v) hv 0 true;have h5:=h4.turn hv t1;have hvm:=h1.so.mem v hv;obtain⟨n2,y,k2,e3,h6,b2,f2,m2⟩:=h5.least hN hv;have hr1:(if v∈row1 v then (row1 v).reverse else row1 v)=p.reverse:=by rw[if_pos hvm,h2]
 rw[hr1] at f2 m2 b2
 have hn2:dD N n2:=by
  obtain⟨m1,j1,j2,g1,g2,_⟩:=e3;exact (dD.leR g2 hv (hn.splay hv g1)).1
 obtain⟨n3,k3,e4,h7,t3,b3,_⟩:=h6.splay hN hv;have h8:=h7.turn hv t3;rw[hr1] at b3
 have hrow:(λ z=>if z∈(λ z=>if z∈row1 v then (row1 v).reverse else row1 z) v then ((λ z=>if z∈row1 v then (row1 v).reverse else row1 z) v).reverse else (λ z=>if z∈row1 v then (row1 v).reverse else row1 z) z)=row1:=by
  funext z
  simp only[if_pos hvm,List.mem_reverse,List.reverse_reverse];by_cases hz:z∈row1 v
  ·rw[if_pos hz];exact (h1.so.same v hv z hz).symm
  ·rw[if_neg hz,if_neg hz]
 rw[hrow] at h8;have hpl:p.length<=N:=by rw[<- h2];exact hl
 simp only[List.length_reverse] at b2 b3;refine⟨_,row1,y,⟨s1,n1,k1,n2,k2,n3,k3,e1,e2,e3,e4,rfl⟩,⟨h8,(hn2.splay hv e4).lay (c:=some v) hv 0 true,h1.chain,h1.top,h1.inner,h1.path,h1.lt⟩,f2,by simpa using m2,?_⟩;show s1.k+k1+k2+k3<=_;omega
theorem fE.cut_(h:fE N s par val row)(hN:N<=10000){v u:Nat}(hv:v<N)(hu:par v=some u):∃ s' row',Fg s v s'/\fE N s' (bj par v none) val row'/\s'.k<=s.k+dd N+7*N:=by
 obtain⟨p,hp⟩:=h.path v hv;obtain⟨s1,row1,e1,h1,h2,h3⟩:=h.above_ hN hv hp;rw[hu] at e1;have huN:u<N:=by have:=h.lt v hv;rw[hu] at this;exact this
 obtain⟨q,hq⟩:∃ q,p=v::u::q:=by
  match p,hp with
  |[y],⟨g1,g2⟩=>rw[hu] at g2;cases g2
  |y::z::l,⟨g1,g2,_⟩=>
   rw[hu] at g2;simp only[Gs] at g2;exact⟨l,by rw[g1,g2]⟩
 have hur:row1 u=v::u::q:=by rw[h1.so.same v hv u (by rw[h2,hq];simp),h2,hq]
 obtain⟨n1,k1,e2,h4,t1,b1,_⟩:=h1.so.splay hN huN;obtain⟨A,B,hAB,f1,h5⟩:=h4.split huN t1;have hnd:=h1.so.nodup u huN
 have hAq:A=[v]/\B=q:=by
  have hn':=hnd;rw[hAB] at hn';have:=qK (C:=[v]) (D:=q) hn' (by rw[<- hAB,hur];rfl);exact this
 obtain⟨rfl,rfl⟩:=hAq;have hn:=(h1.nok.splay huN e2).split huN;have hl:=h1.so.len huN;have hvB:v∉u::B:=by rw[hur] at hnd;exact (GS.1 hnd).1
 have hrow:∀ z,(if z∈[v] then [v] else if z∈u::B then u::B else row1 z)=[v]\/(if z∈[v] then [v] else if z∈u::B then u::B else row1 z)=u::B\/((if z∈[v] then [v] else if z∈u::B then u::B else row1 z)=row1 z/\(z<N->v∉row1 z)):=by
  intro z;by_cases c1:z∈[v]
  ·left;rw[if_pos c1]
  ·rw[if_neg c1];by_cases c2:z∈u::B
   ·right;left;rw[if_pos c2]
   ·right;right;rw[if_neg c2]
    refine⟨rfl,λ hz hm=>?_⟩;have g1:=h1.so.same z hz v hm;have g2:=h1.so.mem z hz;rw[<- g1,h2,hq] at g2
    rcases GD.1 g2 with g|g
    ·exact c1 (by simp[g])
    ·exact c2 g
 refine⟨_,_,⟨s1,u,n1,k1,e1,e2,rfl⟩,⟨h5,hn,?_,?_,?_,?_,?_⟩,by show s1.k+k1<=_;omega⟩
 ·intro x hx C a w D hC;simp only[bj]
  rcases hrow x with e|e|⟨e,hxv⟩
  ·rw[e] at hC;have:=Gt List.length hC;simp at this;omega
  ·rw[e] at hC;rw[if_neg (show ¬ a=v from λ g=>hvB (by rw[hC,<- g];simp))];exact h1.chain u huN (v::C) a w D (by rw[hur,hC];rfl)
  ·rw[e] at hC;rw[if_neg (show ¬ a=v from λ g=>hxv hx (by rw[hC,<- g];simp))];exact h1.chain x hx C a w D hC
 ·intro x hx C a hC;simp only[bj]
  rcases hrow x with e|e|⟨e,hxv⟩
  ·rw[e] at hC;have ha:v=a:=by have:=congrArg List.getLast? hC;simpa using this
   subst ha;rw[if_pos rfl];exact h1.inner u huN [] v u B hur
  ·rw[e] at hC;rw[if_neg (show ¬ a=v from λ g=>hvB (by rw[hC,<- g];simp))];exact h1.top u huN (v::C) a (by rw[hur,hC];rfl)
  ·rw[e] at hC;rw[if_neg (show ¬ a=v from λ g=>hxv hx (by rw[hC,<- g];simp))];exact h1.top x hx C a hC
 ·intro x hx C a w D hC
  rcases hrow x with e|e|⟨e,hxv⟩
  ·rw[e] at hC;have:=Gt List.length hC;simp at this;omega
  ·rw[e] at hC;exact h1.inner u huN (v::C) a w D (by rw[hur,hC];rfl)
  ·rw[e] at hC;exact h1.inner x hx C a w D hC
 ·intro x hx;obtain⟨px,hpx⟩:=h.path x hx;by_cases hvx:v∈px
  ·obtain⟨C,D,hCD⟩:=List.append_of_mem hvx;have hnp:=hpx.nodup;refine⟨C++[v],aS.cut (B:=D) (by simp[bj]) (by rw[← hCD];exact hpx) (fun y hy=>?_)⟩
   have:y≠v:=λ e=>by
    rw[hCD] at hnp;exact (GI.1 hnp).2.2 y hy v (by simp) e
   simp[bj,this]
  ·exact⟨px,hpx.congr λ y hy=>by simp only[bj];rw[if_neg (show ¬ y=v from λ e=>hvx (e▸hy))]⟩
 ·intro x hx;simp only[bj];split
  ·trivial
  ·exact h.lt x hx
theorem fE.link_(h:fE N s par val row)(hN:N<=10000){v w:Nat}(hv:v<N)(hw:w<N)(hvn:par v=none){q:LN}(hq:aS par w q)(hvq:v∉q):∃ s' row',DY s v w s'/\fE N s' (bj par v (some w)) val row'/\s'.k<=s.k+3*dd N+10*N:=by
 have hpv:aS par v [v]:=⟨rfl,hvn⟩;obtain⟨s1,row1,y1,e1,h1,d1,b1⟩:=h.root_ hN hv hpv;simp only[List.getLast?_singleton,Gs] at d1;subst d1;obtain⟨s2,row2,z,e2,h2,d2,b2⟩:=h1.root_ hN hw hq;have hz:z≠v:=λ e=>hvq (e▸HL d2);obtain⟨s3,row3,e3,h3,r3,b3⟩:=h2.acc hN hv hpv;refine⟨_,row3,⟨s1,s2,s3,z,e1,e2,hz,e3,rfl⟩,⟨h3.so,h3.nok,?_,?_,?_,?_,?_⟩,by show s3.k<=_;omega⟩
 ·intro x hx C a b D hC;simp only[bj];have:=h3.chain x hx C a b D hC;rw[if_neg (show ¬ a=v from λ e=>by rw[e,hvn] at this;cases this)];exact this
 ·intro x hx C a hC;simp only[bj];split
  ·rfl
  ·exact h3.top x hx C a hC
 ·intro x hx C a b D hC;simp only[bj];have:=h3.chain x hx C a b D hC;rw[if_neg (show ¬ a=v from λ e=>by rw[e,hvn] at this;cases this)];exact h3.inner x hx C a b D hC
 ·intro x hx;obtain⟨px,hpx⟩:=h.path x hx;have hq':aS (bj par v (some w)) w q:=hq.congr fun y hy=>by simp only[bj];rw[if_neg (show ¬ y=v from fun e=>hvq (e▸hy))]
  by_cases hvx:v∈px
  ·obtain⟨C,D,hCD⟩:=Io hvx;rw[hCD] at hpx;obtain rfl:=hpx.root_end hvn;have hnp:=hpx.nodup;refine⟨C++v::q,aS.link (by simp[bj]) hq' hpx (λ y hy=>?_)⟩;have:y≠v:=λ e=>(GI.1 hnp).2.2 y hy v (by simp) e;simp[bj,this]
  ·exact⟨px,hpx.congr λ y hy=>by simp only[bj];rw[if_neg (show ¬ y=v from λ e=>hvx (e▸hy))]⟩
 ·intro x hx;simp only[bj];split
  ·exact hw
  ·exact h.lt x hx
end
end Go.Proofs.YtmcnpaelaieniaaGreatDoor
