import Derived.Test.YtmcnpaelaieniaaGreatDoorQX98
import Derived.Test.YtmcnpaelaieniaaGreatDoorQF
/- A part of the proof; see NOTES.md. -/
set_option linter.unusedVariables false
set_option linter.unusedSimpArgs false
namespace Go.Proofs.YtmcnpaelaieniaaGreatDoor
open Go.RowKit
theorem xd{N:aU}(hR:N.Right){f:LI}(hf:aK N f):cS (N.arcs.zip f) N.src=-cS (N.arcs.zip f) N.snk:=by
 have hs:e8 N [N.src]:=⟨If _ _,λ x hx=>by rw[Gy.1 hx];exact hR.src,by simp,λ h=>hR.diff (Gy.1 h).symm⟩;rw[xF hf hs,lE hR hf hs]
theorem iK:∀ (l m:LI),l.Nodup->(∀ x∈l,x∈m)->l.length<=m.length
 |[],_,_,_=>GB _
 |x::l,m,hn,hs=>by
  have h1:=GS.1 hn;have hx:=hs x (by simp)
  have ih:=iK l (m.erase x) h1.2 λ y hy=>by
   have hne:y≠x:=λ e=>h1.1 (by rw[<- e];exact hy);rw[List.mem_erase_of_ne hne];exact hs y (by simp[hy])
  rw[List.length_erase_of_mem hx] at ih;have:0<m.length:=List.length_pos_of_mem hx;rw[Gz];omega
def lJ(N:aU)(i:Nat):Int:=match N.arcs[i]? with|some a=>a.fr|none=>0
def gT(N:aU)(i:Nat):Int:=match N.arcs[i]? with|some a=>a.to|none=>0
theorem iB{N:aU}{i:Nat}{a:dI}(h:N.arcs[i]?=some a):lJ N i=a.fr:=by unfold lJ;rw[h]
theorem qJ{N:aU}{i:Nat}{a:dI}(h:N.arcs[i]?=some a):gT N i=a.to:=by unfold gT;rw[h]
def kE(N:aU)(l:LI)(v:Int)(i:Nat):Prop:=∃ a,N.arcs[i]?=some a/\a.fr=v/\0<l.getD i 0
def sY(N:aU)(l:LI)(v:Int)(i:Nat):Bool:=match N.arcs[i]? with|some a=>decide (a.fr=v/\0<l.getD i 0)|none=>false
theorem pT{N:aU}{l:LI}{v:Int}{i:Nat}:sY N l v i=true↔kE N l v i:=by
 unfold sY kE
 cases h:N.arcs[i]? with
 |none=>simp
 |some a=>simp
def Cr(N:aU)(l:LI)(v:Int):Option Nat:=(List.range N.arcs.length).find? (sY N l v)
theorem uh{N:aU}{l:LI}{v:Int}{e:Nat}(h:Cr N l v=some e):kE N l v e:=pT.1 (List.find?_some h)
theorem Cf{N:aU}{l:LI}{v:Int}{i:Nat}(h:kE N l v i):∃ e,Cr N l v=some e:=by
 cases hn:Cr N l v with
 |some e=>exact⟨e,rfl⟩
 |none=>
  have hi:i<N.arcs.length:=by obtain⟨a,ha,_⟩:=h;exact (Gv.1 ha).1
  exact absurd (pT.2 h) (List.find?_eq_none.1 hn i (Hm.2 hi))
theorem D6{N:aU}{l:LI}(hr:Ranged N l){v:Int}(hx:cS (N.arcs.zip l) v<=0){e:Nat}{a:dI}(ha:N.arcs[e]?=some a)(ht:a.to=v)(hp:0<l.getD e 0):∃ i,kE N l v i:=by
 refine Hg λ hno=>?_;have hno':∀ i,¬ kE N l v i:=λ i h=>hno ⟨i,h⟩
 have hge:∀ x∈(N.arcs.zip l).map (λ p=>(if p.1.to=v then p.2 else 0)-(if p.1.fr=v then p.2 else 0)),0<=x:=by
  intro x hx;obtain⟨p,hp,rfl⟩:=GR.1 hx;have h0:=hr.all p hp
  have hf:(if p.1.fr=v then p.2 else 0)=0:=by
   split
   ·rename_i hfr;obtain⟨j,hj⟩:=HA.1 hp;obtain⟨h1,h2⟩:=G7.1 hj;refine Hg λ hne=>hno' j ⟨p.1,h1,hfr,?_⟩;rw[Gw,h2];show 0<p.2;omega
   ·rfl
  rw[hf];split<;>omega
 have hel:e<l.length:=by have:=(Gv.1 ha).1;have:=hr.len;omega
 have hle:l[e]?=some (l.getD e 0):=by rw[Gw,Gq hel];rfl
 have hz:(N.arcs.zip l)[e]?=some (a,l.getD e 0):=G7.2 ⟨ha,hle⟩;have hmem:=HY (f:=λ p:dI×Int=>(if p.1.to=v then p.2 else 0)-(if p.1.fr=v then p.2 else 0)) (Gu hz);have hs:=mf hge hmem;simp only at hs;have hfr:a.fr≠v:=λ h=>hno' e ⟨a,ha,h,hp⟩;rw[if_pos ht,if_neg hfr] at hs;unfold cS at hx;omega
theorem xl{N:aU}{l:LI}(hr:Ranged N l){v:Int}(hx:cS (N.arcs.zip l) v<0):∃ i,kE N l v i:=by
 refine Hg λ hno=>?_;have hno':∀ i,¬ kE N l v i:=λ i h=>hno ⟨i,h⟩
 have hge:∀ x∈(N.arcs.zip l).map (λ p=>(if p.1.to=v then p.2 else 0)-(if p.1.fr=v then p.2 else 0)),0<=x:=by
  intro x hx;obtain⟨p,hp,rfl⟩:=GR.1 hx;have h0:=hr.all p hp
  have hf:(if p.1.fr=v then p.2 else 0)=0:=by
   split
   ·rename_i hfr;obtain⟨j,hj⟩:=HA.1 hp;obtain⟨h1,h2⟩:=G7.1 hj;refine Hg λ hne=>hno' j ⟨p.1,h1,hfr,?_⟩;rw[Gw,h2];show 0<p.2;omega
   ·rfl
  rw[hf];split<;>omega
 have key:∀ L:LI,(∀ x∈L,0<=x)->0<=L.sum:=λ L=>by
  induction L with
  |nil=>intro _;simp
  |cons y L ih=>intro h;have:=h y (by simp);have:=ih λ x hx=>h x (by simp[hx]);rw[GT];omega
 have:=key _ hge;unfold cS at hx;omega
theorem oN{N:aU}:∀ {W:LN} {a z:Int} {k e:Nat},iz N a W z->W[k]?=some e->iz N (lJ N e) (W.drop k) z
 |[],_,_,_,_,_,h=>by simp at h
 |i::W,a,z,0,e,⟨r,h1,h2,h3⟩,h=>by
  simp only[HB,Gs] at h;subst h;exact⟨r,h1,(iB h1).symm,h3⟩
 |i::W,a,z,k+1,e,⟨r,h1,h2,h3⟩,h=>oN (W:=W) h3 (by simpa using h)
def oS(N:aU)(l:LI)(kd to_:Int):Nat->LI->LN->Int->Int×LN
 |0,_,arcs,_=>(kd,arcs)
 |n+1,seen,arcs,at_=>match Cr N l at_ with
  |none=>(kd,arcs)
  |some e=>if gT N e=to_ then (kd,arcs++[e]) else if gT N e∈seen then (99,(arcs++[e]).drop (seen.idxOf (gT N e))) else oS N l kd to_ n (seen++[gT N e]) (arcs++[e]) (gT N e)
structure jM (N:aU) (l:LI) (W:LN) (a z:Int):Prop where
 walk:iz N a W z
 nodup:W.Nodup
 room:∀ i∈W,∃ r:dI,N.arcs[i]?=some r/\0<l.getD i 0
 ne:W≠[]
theorem mV{β α:Type}{g:β->α}:∀ {l:List β},(l.map g).Nodup->l.Nodup
 |[],_=>IP
 |x::l,h=>by
  rw[GG,GS] at h;exact GS.2 ⟨λ hx=>h.1 (HY hx),mV h.2⟩
theorem kg{N:aU}(hR:N.Right){l:LI}(hr:Ranged N l){kd to_ s0:Int}(hx:∀ v:Int,1<=v/\v<=N.nodes->v≠to_->cS (N.arcs.zip l) v<=0):∀ (n:Nat) (seen:LI) (arcs:LN) (at_:Int),N.nodes.toNat+1<=n+seen.length->
 seen=arcs.map (lJ N)++[at_]->seen.Nodup->(∀ v∈seen,1<=v/\v<=N.nodes)->iz N s0 arcs at_->(∀ i∈arcs,∃ r:dI,N.arcs[i]?=some r/\0<l.getD i 0)->(∃ i,kE N l at_ i)->
 (∃ W,oS N l kd to_ n seen arcs at_=(kd,W)/\jM N l W s0 to_)\/(∃ W v,oS N l kd to_ n seen arcs at_=(99,W)/\jM N l W v v)
 |0,seen,arcs,at_,hn,hs,hd,hrg,_,_,_=>by
  exfalso;have hnn:=hR.nodes
  have:=iK seen ((List.range N.nodes.toNat).map λ (i:Nat)=>(i:Int)+1) hd λ x hx=>by
   have:=hrg x hx;exact GR.2 ⟨(x-1).toNat,Hm.2 (by omega),by omega⟩
  simp only[GA,HM] at this;omega
 |n+1,seen,arcs,at_,hn,hs,hd,hrg,hw,hb,hgo=>by
  obtain⟨i,hi⟩:=hgo;obtain⟨e,he⟩:=Cf hi;obtain⟨a,ha,hfr,hp⟩:=uh he;have hto:=qJ ha;have har:=hR.arc a (Gu ha);have hw2:iz N s0 (arcs++[e]) (gT N e):=by rw[hto];exact mv ha (by rw[hfr];exact hw)
  have hb2:∀ i∈arcs++[e],∃ r:dI,N.arcs[i]?=some r/\0<l.getD i 0:=λ i hi=>by
   rcases GE.1 hi with h|h
   ·exact hb i h
   ·rw[Gy.1 h];exact⟨a,ha,hp⟩
  have hs2:seen=(arcs++[e]).map (lJ N):=by rw[hs,GX];simp[iB ha,hfr]
  have hd2:(arcs++[e]).Nodup:=mV (g:=lJ N) (by rw[<- hs2];exact hd);unfold oS;rw[he];simp only;by_cases h1:gT N e=to_
  ·rw[if_pos h1];exact .inl ⟨_,rfl,by rw[<- h1];exact hw2,hd2,hb2,by simp⟩
  ·rw[if_neg h1];by_cases h2:gT N e∈seen
   ·rw[if_pos h2];have hk:=List.idxOf_lt_length_of_mem h2;have hke:seen[seen.idxOf (gT N e)]?=some (gT N e):=by rw[List.getElem?_eq_getElem hk,List.getElem_idxOf hk]
    generalize seen.idxOf (gT N e)=k at hk hke ⊢
    have hkl:k<(arcs++[e]).length:=by rw[hs2,GA] at hk;exact hk
    obtain⟨j,hj⟩:∃ j,(arcs++[e])[k]?=some j:=⟨_,Gq hkl⟩
    have hjf:lJ N j=gT N e:=by
     rw[hs2,GC,hj] at hke;exact G0 hke
    have hw3:=oN hw2 hj;rw[hjf] at hw3;refine .inr ⟨_,gT N e,rfl,hw3,(List.drop_sublist k _).nodup hd2,λ i hi=>hb2 i (IU hi),λ h0=>?_⟩;have:=Gt List.length h0;rw[Ht] at this;simp only[GQ] at this;omega
   ·rw[if_neg h2];refine kg hR hr hx n (seen++[gT N e]) (arcs++[e]) (gT N e) (by rw[List.length_append];simp only[List.length_cons,List.length_nil];omega) (by rw[hs2]) ?_ ?_ hw2 hb2 ?_
    ·rw[GI];refine⟨hd,by simp,λ x hx y hy=>?_⟩;rw[Gy.1 hy];rintro rfl;exact h2 hx
    ·intro v hv
     rcases GE.1 hv with h|h
     ·exact hrg v h
     ·rw[Gy.1 h,hto];exact har.2.1
    ·exact D6 hr (hx _ (by rw[hto];exact har.2.1) h1) ha hto.symm hp
structure Wk where
 left:LI
 val:Int
structure Wk.OK (N:aU) (w:Wk):Prop where
 flow:aK N w.left
 worth:cS (N.arcs.zip w.left) N.snk=w.val
def fL(x:Int):Bool:=decide (0<x)
def bH(l:LI):Nat:=l.findIdx fL
theorem qD{l:LI}(h:bH l<l.length):0<l.getD (bH l) 0:=by
 have:=List.findIdx_getElem (w:=h);rw[Gw,Gq h];exact of_decide_eq_true this
def tg(N:aU)(w:Wk):Int×LN:=
 if 0<w.val then oS N w.left 112 N.snk (N.nodes.toNat+1) [N.src] [] N.src
 else if w.val<0 then oS N w.left 98 N.src (N.nodes.toNat+1) [N.snk] [] N.snk
 else oS N w.left 99 0 (N.nodes.toNat+1) [lJ N (bH w.left)] [] (lJ N (bH w.left))
theorem w6{N:aU}(hR:N.Right):∀ {W:LN} {a z:Int},iz N a W z->W≠[]->1<=z
 |[],_,_,_,h=>absurd rfl h
 |[i],a,z,⟨r,h1,_,h3⟩,_=>by
  have hz:r.to=z:=h3;have:=(hR.arc r (Gu h1)).2.1.1;omega
 |i::j::W,a,z,⟨r,_,_,h3⟩,_=>w6 hR (W:=j::W) h3 (by simp)
def wR(N:aU)(w:Wk)(k:Int)(W:LN):Prop:=(k=112/\0<w.val/\jM N w.left W N.src N.snk)\/(k=98/\w.val<0/\jM N w.left W N.snk N.src)\/(k=99/\∃ v,jM N w.left W v v)
theorem yH{N:aU}(hR:N.Right){w:Wk}(h:w.OK N)(hp:bH w.left<w.left.length):wR N w (tg N w).1 (tg N w).2:=by
 have hr:=h.flow.toRanged;have hsrc:=xd hR h.flow;rw[h.worth] at hsrc;have h1:=hR.src;have h2:=hR.snk;have hd:=hR.diff;have ex0:∀ v:Int,1<=v/\v<=N.nodes->v≠N.src->v≠N.snk->cS (N.arcs.zip w.left) v=0:=h.flow.kept;have exS:=h.worth;unfold tg wR;by_cases c1:0<w.val
 ·rw[if_pos c1]
  rcases kg hR hr (kd:=112) (to_:=N.snk) (s0:=N.src) (λ v hv hne=>by
   by_cases e:v=N.src
   ·rw[e,hsrc];omega
   ·rw[ex0 v hv e hne];omega) (N.nodes.toNat+1) [N.src] [] N.src (by simp only[Gz,GQ];omega) rfl (by simp) (λ v hv=>by rw[Gy.1 hv];exact h1) rfl (λ i hi=>absurd hi GP) (xl hr (by rw[hsrc];omega)) with ⟨W,e,hW⟩|⟨W,v,e,hW⟩
  ·rw[e];exact .inl ⟨rfl,c1,hW⟩
  ·rw[e];exact .inr (.inr ⟨rfl,v,hW⟩)
 ·rw[if_neg c1];by_cases c2:w.val<0
  ·rw[if_pos c2]
   rcases kg hR hr (kd:=98) (to_:=N.src) (s0:=N.snk) (λ v hv hne=>by
    by_cases e:v=N.snk
    ·rw[e,exS];omega
    ·rw[ex0 v hv hne e];omega) (N.nodes.toNat+1) [N.snk] [] N.snk (by simp only[Gz,GQ];omega) rfl (by simp) (λ v hv=>by rw[Gy.1 hv];exact h2) rfl (λ i hi=>absurd hi GP) (xl hr (by rw[exS];omega)) with ⟨W,e,hW⟩|⟨W,v,e,hW⟩
   ·rw[e];exact .inr (.inl ⟨rfl,c2,hW⟩)
   ·rw[e];exact .inr (.inr ⟨rfl,v,hW⟩)
  ·rw[if_neg c2];have hfl:=h.flow.len
   have hx0:∀ v:Int,1<=v/\v<=N.nodes->v≠0->cS (N.arcs.zip w.left) v<=0:=λ v hv _=>by
    by_cases e1:v=N.src
    ·rw[e1,hsrc];omega
    ·by_cases e2:v=N.snk
     ·rw[e2,exS];omega
     ·rw[ex0 v hv e1 e2];omega
   have hpg:=qD hp;obtain⟨a,ha⟩:∃ a,N.arcs[bH w.left]?=some a:=⟨_,Gq (by omega)⟩;have har:=hR.arc a (Gu ha);have hfa:=iB ha
   rcases kg hR hr (kd:=99) (to_:=0) (s0:=lJ N (bH w.left)) hx0 (N.nodes.toNat+1) [lJ N (bH w.left)] [] (lJ N (bH w.left)) (by simp only[Gz,GQ];omega) rfl (by simp) (λ v hv=>by rw[Gy.1 hv,hfa];exact har.1) rfl (λ i hi=>absurd hi GP) ⟨bH w.left,a,ha,hfa.symm,hpg⟩ with ⟨W,e,hW⟩|⟨W,v,e,hW⟩
   ·exact absurd (w6 hR hW.walk hW.ne) (by decide)
   ·rw[e];exact .inr (.inr ⟨rfl,v,hW⟩)
def lG(l:LI)(m:Int)(W:LN):Int:=W.foldl (λ m e=>min m (l.getD e 0)) m
theorem AE(l:LI):∀ (W:LN) (m:Int),lG l m W<=m/\∀ e∈W,lG l m W<=l.getD e 0
 |[],m=>⟨HK _,λ e he=>absurd he GP⟩
 |x::W,m=>by
  have ih:=AE l W (min m (l.getD x 0));show lG l (min m (l.getD x 0)) W<=m/\_;refine⟨by omega,λ e he=>?_⟩
  rcases GD.1 he with rfl|he
  ·show lG l (min m (l.getD e 0)) W<=_;omega
  ·exact ih.2 e he
theorem xA{l:LI}:∀ {W:LN} {m:Int},0<m->(∀ e∈W,0<l.getD e 0)->0<lG l m W
 |[],_,h,_=>h
 |x::W,m,h,hW=>xA (W:=W) (m:=min m (l.getD x 0)) (by have:=hW x (by simp);omega) λ e he=>hW e (by simp[he])
theorem xD(l:LI):∀ (W:LN) (m:Int),lG l m W=m\/∃ e∈W,lG l m W=l.getD e 0
 |[],m=>.inl rfl
 |x::W,m=>by
  rcases xD l W (min m (l.getD x 0)) with h|⟨e,he,h⟩
  ·rcases Int.le_total m (l.getD x 0) with hle|hle
   ·exact .inl (h.trans (by omega))
   ·exact .inr ⟨x,by simp,h.trans (by omega)⟩
  ·exact .inr ⟨e,by simp[he],h⟩
def fY(w:Wk)(k:Int)(W:LN):Int:=if k=99 then w.left.getD (W.headD 0) 0 else max w.val (-w.val)
def e7(N:aU)(w:Wk):Int×LN×Int:=((tg N w).1,(tg N w).2,lG w.left (fY w (tg N w).1 (tg N w).2) (tg N w).2)
def vh(N:aU)(w:Wk):Wk:=⟨gS (-(e7 N w).2.2) (e7 N w).2.1 w.left,if (e7 N w).1=112 then w.val-(e7 N w).2.2 else if (e7 N w).1=98 then w.val+(e7 N w).2.2 else w.val⟩
def l8(l:LI):Nat:=l.countP fL
theorem wu:∀ (l m:LI),m.length=l.length->(∀ i,0<m.getD i 0->0<l.getD i 0)->l8 m<=l8 l
 |[],[],_,_=>GF _
 |[],_::_,h,_=>by simp at h
 |_::_,[],h,_=>by simp at h
 |x::l,y::m,hl,h=>by
  have ih:=wu l m (by simpa using hl) λ i hi=>by have:=h (i+1);simpa using this (by simpa using hi)
  have h0:0<y->0<x:=by have:=h 0;simpa using this
  unfold l8 fL at*;simp only[List.countP_cons,G3];split<;>split<;>omega
theorem zO:∀ (l m:LI),m.length=l.length->(∀ i,0<m.getD i 0->0<l.getD i 0)->∀ k,0<l.getD k 0->¬ 0<m.getD k 0->l8 m<l8 l
 |[],_,_,_,k,h,_=>by simp at h
 |_::_,[],h,_,_,_,_=>by simp at h
 |x::l,y::m,hl,h,0,h1,h2=>by
  have ih:=wu l m (by simpa using hl) λ i hi=>by have:=h (i+1);simpa using this (by simpa using hi)
  have h1':0<x:=by simpa using h1
  have h2':¬ 0<y:=by simpa using h2
  unfold l8 fL at*;simp only[List.countP_cons,G3];rw[if_pos h1',if_neg h2'];omega
 |x::l,y::m,hl,h,k+1,h1,h2=>by
  have ih:=zO l m (by simpa using hl) (λ i hi=>by have:=h (i+1);simpa using this (by simpa using hi)) k (by simpa using h1) (by simpa using h2);have h0:0<y->0<x:=by have:=h 0;simpa using this
  unfold l8 fL at*;simp only[List.countP_cons,G3];split<;>split<;>omega
def Wk.size(w:Wk):Nat:=l8 w.left+if w.val=0 then 0 else 1
theorem nY{m:Int}{W:LN}{f:LI}(hW:W.Nodup)(hi:∀ i∈W,i<f.length)(j:Nat):(gS m W f).getD j 0=if j∈W then f.getD j 0+m else f.getD j 0:=by
 rw[Gw,u7 m W f j hW hi];split
 ·rfl
 ·rw[<- Gw]
theorem mx{N:aU}(hR:N.Right){w:Wk}(h:w.OK N)(hp:bH w.left<w.left.length):(vh N w).OK N/\(vh N w).size<w.size/\0<(e7 N w).2.2/\wR N w (e7 N w).1 (e7 N w).2.1/\(∀ e∈(e7 N w).2.1,(e7 N w).2.2<=w.left.getD e 0):=by
 have e99a:¬ (99:Int)=112:=by decide
 have e99b:¬ (99:Int)=98:=by decide
 have e98:¬ (98:Int)=112:=by decide
 have p112:(112:Int)=112:=rfl;have p98:(98:Int)=98:=rfl;have hP:wR N w (e7 N w).1 (e7 N w).2.1:=yH hR h hp;have hm:(e7 N w).2.2=lG w.left (fY w (e7 N w).1 (e7 N w).2.1) (e7 N w).2.1:=rfl;unfold vh
 generalize e7 N w=t at*
 obtain⟨k,W,m⟩:=t;simp only at hP hm ⊢
 obtain⟨a,z,hW⟩:∃ a z,jM N w.left W a z:=by
  rcases hP with ⟨_,_,h⟩|⟨_,_,h⟩|⟨_,v,h⟩
  ·exact⟨_,_,h⟩
  ·exact⟨_,_,h⟩
  ·exact⟨_,_,h⟩
 have hfl:=h.flow.len;have hlt:∀ i∈W,i<w.left.length:=λ i hi=>by obtain⟨r,hr,_⟩:=hW.room i hi;have:=(Gv.1 hr).1;omega
 have hpos:∀ i∈W,0<w.left.getD i 0:=λ i hi=>by obtain⟨r,_,hr⟩:=hW.room i hi;exact hr
 have hhead:W.headD 0∈W:=by
  cases hc:W with
  |nil=>exact absurd hc hW.ne
  |cons x X=>simp
 have hinit:0<fY w k W:=by
  unfold fY;split
  ·exact hpos _ hhead
  ·rename_i hk
   rcases hP with ⟨_,h,_⟩|⟨_,h,_⟩|⟨h,_⟩
   ·omega
   ·omega
   ·exact absurd h hk
 have hmp:0<m:=by rw[hm];exact xA hinit hpos
 obtain⟨hle,hlee⟩:=AE w.left W (fY w k W);rw[<- hm] at hle hlee;have hgetD:=nY (m:=-m) hW.nodup hlt;have hlen:=i5 (-m) W w.left
 have hrg:Ranged N (gS (-m) W w.left):=by
  refine⟨by rw[hlen];exact hfl,λ p hp=>?_⟩;obtain⟨j,hj⟩:=HA.1 hp;obtain⟨h1,h2⟩:=G7.1 hj;have hjl:j<w.left.length:=by have:=(Gv.1 h1).1;omega
  have h3:w.left[j]?=some (w.left.getD j 0):=by rw[Gw,Gq hjl];rfl
  have h4:=h.flow.all (p.1,w.left.getD j 0) (Gu (G7.2 ⟨h1,h3⟩));have h5:=hgetD j;rw[Gw,h2,G1] at h5;rw[h5];simp only at h4;split
  ·rename_i hjW;have:=hlee j hjW;omega
  ·exact h4
 have hex:=λ v=>nt (N:=N) (m:=-m) (v:=v) W a w.left hfl hW.walk (z:=z)
 have hmono:∀ i,0<(gS (-m) W w.left).getD i 0->0<w.left.getD i 0:=λ i hi=>by
  rw[hgetD i] at hi;split at hi<;>omega
 have hcle:=wu w.left _ hlen hmono;have hchit:∀ e∈W,m=w.left.getD e 0->l8 (gS (-m) W w.left)<l8 w.left:=λ e he hme=>zO w.left _ hlen hmono e (hpos e he) (by rw[hgetD e,if_pos he];omega);refine⟨?_,?_,hmp,hP,hlee⟩
 ·rcases hP with ⟨rfl,hv,hW'⟩|⟨rfl,hv,hW'⟩|⟨rfl,v,hW'⟩
  ·have hx:=λ v=>nt (N:=N) (m:=-m) (v:=v) W N.src w.left hfl hW'.walk (z:=N.snk);refine⟨⟨hrg,λ v hv h1 h2=>?_⟩,?_⟩
   ·rw[hx v,h.flow.kept v hv h1 h2,if_neg (λ e=>h2 e.symm),if_neg (λ e=>h1 e.symm)];rfl
   ·simp only;rw[hx N.snk,h.worth,if_pos rfl,if_neg hR.diff,if_pos an];omega
  ·have hx:=λ v=>nt (N:=N) (m:=-m) (v:=v) W N.snk w.left hfl hW'.walk (z:=N.src);refine⟨⟨hrg,λ v hv h1 h2=>?_⟩,?_⟩
   ·rw[hx v,h.flow.kept v hv h1 h2,if_neg (λ e=>h1 e.symm),if_neg (λ e=>h2 e.symm)];rfl
   ·simp only;rw[hx N.snk,h.worth,if_neg hR.diff,if_pos rfl,if_neg e98,if_pos an];omega
  ·have hx:=λ u=>nt (N:=N) (m:=-m) (v:=u) W v w.left hfl hW'.walk (z:=v);refine⟨⟨hrg,λ u hu h1 h2=>?_⟩,?_⟩
   ·rw[hx u,h.flow.kept u hu h1 h2];omega
   ·simp only;rw[hx N.snk,h.worth,if_neg e99a,if_neg e99b];omega
 ·unfold Wk.size;simp only
  rcases xD w.left W (fY w k W) with hh|⟨e,he,hh⟩
  ·rw[<- hm] at hh;by_cases hk:k=99
   ·subst hk;have:=hchit _ hhead (by rw[hh];unfold fY;rw[if_pos rfl]);rw[if_neg e99a,if_neg e99b];omega
   ·have hi:fY w k W=max w.val (-w.val):=by unfold fY;rw[if_neg hk]
    rcases hP with ⟨rfl,hv,_⟩|⟨rfl,hv,_⟩|⟨h,_⟩
    ·rw[if_pos p112,if_pos (show w.val-m=0 by omega),if_neg (show ¬ w.val=0 by omega)];omega
    ·rw[if_neg e98,if_pos p98,if_pos (show w.val+m=0 by omega),if_neg (show ¬ w.val=0 by omega)];omega
    ·exact absurd h hk
  ·rw[<- hm] at hh;have:=hchit e he hh
   rcases hP with ⟨rfl,hv,_⟩|⟨rfl,hv,_⟩|⟨rfl,_⟩
   ·rw[if_pos p112,if_neg (show ¬ w.val=0 by omega)];split<;>omega
   ·rw[if_neg e98,if_pos p98,if_neg (show ¬ w.val=0 by omega)];split<;>omega
   ·rw[if_neg e99a,if_neg e99b];omega
def iZ(N:aU):Nat->Wk->List (Int×LN×Int)
 |0,_=>[]
 |n+1,w=>if bH w.left<w.left.length then e7 N w::iZ N n (vh N w) else []
theorem wN{l:LI}(h:bH l<l.length):0<l8 l:=by
 unfold l8;exact List.countP_pos_iff.2 ⟨l[bH l],H4 h,List.findIdx_getElem (w:=h)⟩
theorem pO{N:aU}(hR:N.Right):∀ (n m:Nat) (w:Wk),w.OK N->w.size<=n->w.size<=m->iZ N n w=iZ N m w
 |0,0,_,_,_,_=>rfl
 |0,m+1,w,_,h,_=>by
  have:¬ bH w.left<w.left.length:=λ hp=>by have:=wN hp;unfold Wk.size at h;omega
  show []=iZ N (m+1) w;unfold iZ;rw[if_neg this]
 |n+1,0,w,_,_,h=>by
  have:¬ bH w.left<w.left.length:=λ hp=>by have:=wN hp;unfold Wk.size at h;omega
  show iZ N (n+1) w=[];unfold iZ;rw[if_neg this]
 |n+1,m+1,w,hw,h1,h2=>by
  unfold iZ;by_cases hp:bH w.left<w.left.length
  ·have:=mx hR hw hp;rw[if_pos hp,if_pos hp,pO hR n m _ this.1 (by omega) (by omega)]
  ·rw[if_neg hp,if_neg hp]
end Go.Proofs.YtmcnpaelaieniaaGreatDoor
