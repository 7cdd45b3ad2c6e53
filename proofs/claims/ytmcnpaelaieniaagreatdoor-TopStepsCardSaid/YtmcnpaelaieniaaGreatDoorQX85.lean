import Derived.Test.YtmcnpaelaieniaaGreatDoorQX100
import Derived.Test.YtmcnpaelaieniaaGreatDoorQF
/- A part of the proof; see NOTES.md. -/
set_option linter.unusedVariables false
set_option linter.unusedSimpArgs false
namespace Go.Proofs.YtmcnpaelaieniaaGreatDoor
open Go.RowKit
theorem xA{N:aO}(hR:N.Right){f:LI}(hf:aK N f):da (N.arcs.zip f) N.src=-da (N.arcs.zip f) N.snk:=by
 have hs:fu N [N.src]:=⟨In _ _,λ x hx=>by rw[GF.1 hx];exact hR.src,by simp,λ h=>hR.diff (GF.1 h).symm⟩;rw[xz hf hs,kY hR hf hs]
theorem iF:∀ (l m:LI),l.Nodup->(∀ x∈l,x∈m)->l.length<=m.length
 |[],_,_,_=>GI _
 |x::l,m,hn,hs=>by
  have h1:=GZ.1 hn;have hx:=hs x (by simp)
  have ih:=iF l (m.erase x) h1.2 λ y hy=>by
   have hne:y≠x:=λ e=>h1.1 (by rw[<- e];exact hy);rw[List.mem_erase_of_ne hne];exact hs y (by simp[hy])
  rw[List.length_erase_of_mem hx] at ih;have:0<m.length:=List.length_pos_of_mem hx;rw[GG];omega
def lB(N:aO)(i:Nat):Int:=match N.arcs[i]? with|some a=>a.fr|none=>0
def gU(N:aO)(i:Nat):Int:=match N.arcs[i]? with|some a=>a.to|none=>0
theorem iJ{N:aO}{i:Nat}{a:dM}(h:N.arcs[i]?=some a):lB N i=a.fr:=by unfold lB;rw[h]
theorem qp{N:aO}{i:Nat}{a:dM}(h:N.arcs[i]?=some a):gU N i=a.to:=by unfold gU;rw[h]
def kC(N:aO)(l:LI)(v:Int)(i:Nat):Prop:=∃ a,N.arcs[i]?=some a/\a.fr=v/\0<l.getD i 0
def rV(N:aO)(l:LI)(v:Int)(i:Nat):Bool:=match N.arcs[i]? with|some a=>decide (a.fr=v/\0<l.getD i 0)|none=>false
theorem pd{N:aO}{l:LI}{v:Int}{i:Nat}:rV N l v i=true↔kC N l v i:=by
 unfold rV kC
 cases h:N.arcs[i]? with
 |none=>simp
 |some a=>simp
def Ct(N:aO)(l:LI)(v:Int):Option Nat:=(List.range N.arcs.length).find? (rV N l v)
theorem tN{N:aO}{l:LI}{v:Int}{e:Nat}(h:Ct N l v=some e):kC N l v e:=pd.1 (List.find?_some h)
theorem Cq{N:aO}{l:LI}{v:Int}{i:Nat}(h:kC N l v i):∃ e,Ct N l v=some e:=by
 cases hn:Ct N l v with
 |some e=>exact⟨e,rfl⟩
 |none=>
  have hi:i<N.arcs.length:=by obtain⟨a,ha,_⟩:=h;exact (GC.1 ha).1
  exact absurd (pd.2 h) (List.find?_eq_none.1 hn i (Hs.2 hi))
theorem Ef{N:aO}{l:LI}(hr:Ranged N l){v:Int}(hx:da (N.arcs.zip l) v<=0){e:Nat}{a:dM}(ha:N.arcs[e]?=some a)(ht:a.to=v)(hp:0<l.getD e 0):∃ i,kC N l v i:=by
 refine Hn λ hno=>?_;have hno':∀ i,¬ kC N l v i:=λ i h=>hno ⟨i,h⟩
 have hge:∀ x∈(N.arcs.zip l).map (λ p=>(if p.1.to=v then p.2 else 0)-(if p.1.fr=v then p.2 else 0)),0<=x:=by
  intro x hx;obtain⟨p,hp,rfl⟩:=G0.1 hx;have h0:=hr.all p hp
  have hf:(if p.1.fr=v then p.2 else 0)=0:=by
   split
   ·rename_i hfr;obtain⟨j,hj⟩:=HJ.1 hp;obtain⟨h1,h2⟩:=Hr.1 hj;refine Hn λ hne=>hno' j ⟨p.1,h1,hfr,?_⟩;rw[GD,h2];show 0<p.2;omega
   ·rfl
  rw[hf];split<;>omega
 have hel:e<l.length:=by have:=(GC.1 ha).1;have:=hr.len;omega
 have hle:l[e]?=some (l.getD e 0):=by rw[GD,Gy hel];rfl
 have hz:(N.arcs.zip l)[e]?=some (a,l.getD e 0):=Hr.2 ⟨ha,hle⟩;have hmem:=H7 (f:=λ p:dM×Int=>(if p.1.to=v then p.2 else 0)-(if p.1.fr=v then p.2 else 0)) (GB hz);have hs:=mb hge hmem;simp only at hs;have hfr:a.fr≠v:=λ h=>hno' e ⟨a,ha,h,hp⟩;rw[if_pos ht,if_neg hfr] at hs;unfold da at hx;omega
theorem xD{N:aO}{l:LI}(hr:Ranged N l){v:Int}(hx:da (N.arcs.zip l) v<0):∃ i,kC N l v i:=by
 refine Hn λ hno=>?_;have hno':∀ i,¬ kC N l v i:=λ i h=>hno ⟨i,h⟩
 have hge:∀ x∈(N.arcs.zip l).map (λ p=>(if p.1.to=v then p.2 else 0)-(if p.1.fr=v then p.2 else 0)),0<=x:=by
  intro x hx;obtain⟨p,hp,rfl⟩:=G0.1 hx;have h0:=hr.all p hp
  have hf:(if p.1.fr=v then p.2 else 0)=0:=by
   split
   ·rename_i hfr;obtain⟨j,hj⟩:=HJ.1 hp;obtain⟨h1,h2⟩:=Hr.1 hj;refine Hn λ hne=>hno' j ⟨p.1,h1,hfr,?_⟩;rw[GD,h2];show 0<p.2;omega
   ·rfl
  rw[hf];split<;>omega
 have key:∀ L:LI,(∀ x∈L,0<=x)->0<=L.sum:=λ L=>by
  induction L with
  |nil=>intro _;simp
  |cons y L ih=>intro h;have:=h y (by simp);have:=ih λ x hx=>h x (by simp[hx]);rw[GY];omega
 have:=key _ hge;unfold da at hx;omega
theorem oD{N:aO}:∀ {W:LN} {a z:Int} {k e:Nat},iu N a W z->W[k]?=some e->iu N (lB N e) (W.drop k) z
 |[],_,_,_,_,_,h=>by simp at h
 |i::W,a,z,0,e,⟨r,h1,h2,h3⟩,h=>by
  simp only[HP,GA] at h;subst h;exact⟨r,h1,(iJ h1).symm,h3⟩
 |i::W,a,z,k+1,e,⟨r,h1,h2,h3⟩,h=>oD (W:=W) h3 (by simpa using h)
def oJ(N:aO)(l:LI)(kd to_:Int):Nat->LI->LN->Int->Int×LN
 |0,_,arcs,_=>(kd,arcs)
 |n+1,seen,arcs,at_=>match Ct N l at_ with
  |none=>(kd,arcs)
  |some e=>if gU N e=to_ then (kd,arcs++[e]) else if gU N e∈seen then (99,(arcs++[e]).drop (seen.idxOf (gU N e))) else oJ N l kd to_ n (seen++[gU N e]) (arcs++[e]) (gU N e)
structure jS (N:aO) (l:LI) (W:LN) (a z:Int):Prop where
 walk:iu N a W z
 nodup:W.Nodup
 room:∀ i∈W,∃ r:dM,N.arcs[i]?=some r/\0<l.getD i 0
 ne:W≠[]
theorem mI{β α:Type}{g:β->α}:∀ {l:List β},(l.map g).Nodup->l.Nodup
 |[],_=>IX
 |x::l,h=>by
  rw[GM,GZ] at h;exact GZ.2 ⟨λ hx=>h.1 (H7 hx),mI h.2⟩
theorem jQ{N:aO}(hR:N.Right){l:LI}(hr:Ranged N l){kd to_ s0:Int}(hx:∀ v:Int,1<=v/\v<=N.nodes->v≠to_->da (N.arcs.zip l) v<=0):∀ (n:Nat) (seen:LI) (arcs:LN) (at_:Int),N.nodes.toNat+1<=n+seen.length->
 seen=arcs.map (lB N)++[at_]->seen.Nodup->(∀ v∈seen,1<=v/\v<=N.nodes)->iu N s0 arcs at_->(∀ i∈arcs,∃ r:dM,N.arcs[i]?=some r/\0<l.getD i 0)->(∃ i,kC N l at_ i)->
 (∃ W,oJ N l kd to_ n seen arcs at_=(kd,W)/\jS N l W s0 to_)\/(∃ W v,oJ N l kd to_ n seen arcs at_=(99,W)/\jS N l W v v)
 |0,seen,arcs,at_,hn,hs,hd,hrg,_,_,_=>by
  exfalso;have hnn:=hR.nodes
  have:=iF seen ((List.range N.nodes.toNat).map λ (i:Nat)=>(i:Int)+1) hd λ x hx=>by
   have:=hrg x hx;exact G0.2 ⟨(x-1).toNat,Hs.2 (by omega),by omega⟩
  simp only[GH,HH] at this;omega
 |n+1,seen,arcs,at_,hn,hs,hd,hrg,hw,hb,hgo=>by
  obtain⟨i,hi⟩:=hgo;obtain⟨e,he⟩:=Cq hi;obtain⟨a,ha,hfr,hp⟩:=tN he;have hto:=qp ha;have har:=hR.arc a (GB ha);have hw2:iu N s0 (arcs++[e]) (gU N e):=by rw[hto];exact lR ha (by rw[hfr];exact hw)
  have hb2:∀ i∈arcs++[e],∃ r:dM,N.arcs[i]?=some r/\0<l.getD i 0:=λ i hi=>by
   rcases GK.1 hi with h|h
   ·exact hb i h
   ·rw[GF.1 h];exact⟨a,ha,hp⟩
  have hs2:seen=(arcs++[e]).map (lB N):=by rw[hs,G5];simp[iJ ha,hfr]
  have hd2:(arcs++[e]).Nodup:=mI (g:=lB N) (by rw[<- hs2];exact hd);unfold oJ;rw[he];simp only;by_cases h1:gU N e=to_
  ·rw[if_pos h1];exact .inl ⟨_,rfl,by rw[<- h1];exact hw2,hd2,hb2,by simp⟩
  ·rw[if_neg h1];by_cases h2:gU N e∈seen
   ·rw[if_pos h2];have hk:=List.idxOf_lt_length_of_mem h2;have hke:seen[seen.idxOf (gU N e)]?=some (gU N e):=by rw[List.getElem?_eq_getElem hk,List.getElem_idxOf hk]
    generalize seen.idxOf (gU N e)=k at hk hke ⊢
    have hkl:k<(arcs++[e]).length:=by rw[hs2,GH] at hk;exact hk
    obtain⟨j,hj⟩:∃ j,(arcs++[e])[k]?=some j:=⟨_,Gy hkl⟩
    have hjf:lB N j=gU N e:=by
     rw[hs2,GJ,hj] at hke;exact G4 hke
    have hw3:=oD hw2 hj;rw[hjf] at hw3;refine .inr ⟨_,gU N e,rfl,hw3,(List.drop_sublist k _).nodup hd2,λ i hi=>hb2 i (List.mem_of_mem_drop hi),λ h0=>?_⟩;have:=Gz List.length h0;rw[HG] at this;simp only[GX] at this;omega
   ·rw[if_neg h2];refine jQ hR hr hx n (seen++[gU N e]) (arcs++[e]) (gU N e) (by rw[List.length_append];simp only[List.length_cons,List.length_nil];omega) (by rw[hs2]) ?_ ?_ hw2 hb2 ?_
    ·rw[GP];refine⟨hd,by simp,λ x hx y hy=>?_⟩;rw[GF.1 hy];rintro rfl;exact h2 hx
    ·intro v hv
     rcases GK.1 hv with h|h
     ·exact hrg v h
     ·rw[GF.1 h,hto];exact har.2.1
    ·exact Ef hr (hx _ (by rw[hto];exact har.2.1) h1) ha hto.symm hp
structure Wk where
 left:LI
 val:Int
structure Wk.OK (N:aO) (w:Wk):Prop where
 flow:aK N w.left
 worth:da (N.arcs.zip w.left) N.snk=w.val
def fS(x:Int):Bool:=decide (0<x)
def bF(l:LI):Nat:=l.findIdx fS
theorem pL{l:LI}(h:bF l<l.length):0<l.getD (bF l) 0:=by
 have:=List.findIdx_getElem (w:=h);rw[GD,Gy h];exact of_decide_eq_true this
def sS(N:aO)(w:Wk):Int×LN:=
 if 0<w.val then oJ N w.left 112 N.snk (N.nodes.toNat+1) [N.src] [] N.src
 else if w.val<0 then oJ N w.left 98 N.src (N.nodes.toNat+1) [N.snk] [] N.snk
 else oJ N w.left 99 0 (N.nodes.toNat+1) [lB N (bF w.left)] [] (lB N (bF w.left))
theorem xG{N:aO}(hR:N.Right):∀ {W:LN} {a z:Int},iu N a W z->W≠[]->1<=z
 |[],_,_,_,h=>absurd rfl h
 |[i],a,z,⟨r,h1,_,h3⟩,_=>by
  have hz:r.to=z:=h3;have:=(hR.arc r (GB h1)).2.1.1;omega
 |i::j::W,a,z,⟨r,_,_,h3⟩,_=>xG hR (W:=j::W) h3 (by simp)
def w4(N:aO)(w:Wk)(k:Int)(W:LN):Prop:=(k=112/\0<w.val/\jS N w.left W N.src N.snk)\/(k=98/\w.val<0/\jS N w.left W N.snk N.src)\/(k=99/\∃ v,jS N w.left W v v)
theorem zp{N:aO}(hR:N.Right){w:Wk}(h:w.OK N)(hp:bF w.left<w.left.length):w4 N w (sS N w).1 (sS N w).2:=by
 have hr:=h.flow.toRanged;have hsrc:=xA hR h.flow;rw[h.worth] at hsrc;have h1:=hR.src;have h2:=hR.snk;have hd:=hR.diff;have ex0:∀ v:Int,1<=v/\v<=N.nodes->v≠N.src->v≠N.snk->da (N.arcs.zip w.left) v=0:=h.flow.kept;have exS:=h.worth;unfold sS w4;by_cases c1:0<w.val
 ·rw[if_pos c1]
  rcases jQ hR hr (kd:=112) (to_:=N.snk) (s0:=N.src) (λ v hv hne=>by
   by_cases e:v=N.src
   ·rw[e,hsrc];omega
   ·rw[ex0 v hv e hne];omega) (N.nodes.toNat+1) [N.src] [] N.src (by simp only[GG,GX];omega) rfl (by simp) (λ v hv=>by rw[GF.1 hv];exact h1) rfl (λ i hi=>absurd hi GV) (xD hr (by rw[hsrc];omega)) with ⟨W,e,hW⟩|⟨W,v,e,hW⟩
  ·rw[e];exact .inl ⟨rfl,c1,hW⟩
  ·rw[e];exact .inr (.inr ⟨rfl,v,hW⟩)
 ·rw[if_neg c1];by_cases c2:w.val<0
  ·rw[if_pos c2]
   rcases jQ hR hr (kd:=98) (to_:=N.src) (s0:=N.snk) (λ v hv hne=>by
    by_cases e:v=N.snk
    ·rw[e,exS];omega
    ·rw[ex0 v hv hne e];omega) (N.nodes.toNat+1) [N.snk] [] N.snk (by simp only[GG,GX];omega) rfl (by simp) (λ v hv=>by rw[GF.1 hv];exact h2) rfl (λ i hi=>absurd hi GV) (xD hr (by rw[exS];omega)) with ⟨W,e,hW⟩|⟨W,v,e,hW⟩
   ·rw[e];exact .inr (.inl ⟨rfl,c2,hW⟩)
   ·rw[e];exact .inr (.inr ⟨rfl,v,hW⟩)
  ·rw[if_neg c2];have hfl:=h.flow.len
   have hx0:∀ v:Int,1<=v/\v<=N.nodes->v≠0->da (N.arcs.zip w.left) v<=0:=λ v hv _=>by
    by_cases e1:v=N.src
    ·rw[e1,hsrc];omega
    ·by_cases e2:v=N.snk
     ·rw[e2,exS];omega
     ·rw[ex0 v hv e1 e2];omega
   have hpg:=pL hp;obtain⟨a,ha⟩:∃ a,N.arcs[bF w.left]?=some a:=⟨_,Gy (by omega)⟩;have har:=hR.arc a (GB ha);have hfa:=iJ ha
   rcases jQ hR hr (kd:=99) (to_:=0) (s0:=lB N (bF w.left)) hx0 (N.nodes.toNat+1) [lB N (bF w.left)] [] (lB N (bF w.left)) (by simp only[GG,GX];omega) rfl (by simp) (λ v hv=>by rw[GF.1 hv,hfa];exact har.1) rfl (λ i hi=>absurd hi GV) ⟨bF w.left,a,ha,hfa.symm,hpg⟩ with ⟨W,e,hW⟩|⟨W,v,e,hW⟩
   ·exact absurd (xG hR hW.walk hW.ne) (by decide)
   ·rw[e];exact .inr (.inr ⟨rfl,v,hW⟩)
def lC(l:LI)(m:Int)(W:LN):Int:=W.foldl (λ m e=>min m (l.getD e 0)) m
theorem AL(l:LI):∀ (W:LN) (m:Int),lC l m W<=m/\∀ e∈W,lC l m W<=l.getD e 0
 |[],m=>⟨HO _,λ e he=>absurd he GV⟩
 |x::W,m=>by
  have ih:=AL l W (min m (l.getD x 0));show lC l (min m (l.getD x 0)) W<=m/\_;refine⟨by omega,λ e he=>?_⟩
  rcases GL.1 he with rfl|he
  ·show lC l (min m (l.getD e 0)) W<=_;omega
  ·exact ih.2 e he
theorem xv{l:LI}:∀ {W:LN} {m:Int},0<m->(∀ e∈W,0<l.getD e 0)->0<lC l m W
 |[],_,h,_=>h
 |x::W,m,h,hW=>xv (W:=W) (m:=min m (l.getD x 0)) (by have:=hW x (by simp);omega) λ e he=>hW e (by simp[he])
theorem xc(l:LI):∀ (W:LN) (m:Int),lC l m W=m\/∃ e∈W,lC l m W=l.getD e 0
 |[],m=>.inl rfl
 |x::W,m=>by
  rcases xc l W (min m (l.getD x 0)) with h|⟨e,he,h⟩
  ·rcases Int.le_total m (l.getD x 0) with hle|hle
   ·exact .inl (h.trans (by omega))
   ·exact .inr ⟨x,by simp,h.trans (by omega)⟩
  ·exact .inr ⟨e,by simp[he],h⟩
def fU(w:Wk)(k:Int)(W:LN):Int:=if k=99 then w.left.getD (W.headD 0) 0 else max w.val (-w.val)
def e7(N:aO)(w:Wk):Int×LN×Int:=((sS N w).1,(sS N w).2,lC w.left (fU w (sS N w).1 (sS N w).2) (sS N w).2)
def ve(N:aO)(w:Wk):Wk:=⟨gK (-(e7 N w).2.2) (e7 N w).2.1 w.left,if (e7 N w).1=112 then w.val-(e7 N w).2.2 else if (e7 N w).1=98 then w.val+(e7 N w).2.2 else w.val⟩
def l0(l:LI):Nat:=l.countP fS
theorem vL:∀ (l m:LI),m.length=l.length->(∀ i,0<m.getD i 0->0<l.getD i 0)->l0 m<=l0 l
 |[],[],_,_=>GN _
 |[],_::_,h,_=>by simp at h
 |_::_,[],h,_=>by simp at h
 |x::l,y::m,hl,h=>by
  have ih:=vL l m (by simpa using hl) λ i hi=>by have:=h (i+1);simpa using this (by simpa using hi)
  have h0:0<y->0<x:=by have:=h 0;simpa using this
  unfold l0 fS at*;simp only[List.countP_cons,Ha];split<;>split<;>omega
theorem zU:∀ (l m:LI),m.length=l.length->(∀ i,0<m.getD i 0->0<l.getD i 0)->∀ k,0<l.getD k 0->¬ 0<m.getD k 0->l0 m<l0 l
 |[],_,_,_,k,h,_=>by simp at h
 |_::_,[],h,_,_,_,_=>by simp at h
 |x::l,y::m,hl,h,0,h1,h2=>by
  have ih:=vL l m (by simpa using hl) λ i hi=>by have:=h (i+1);simpa using this (by simpa using hi)
  have h1':0<x:=by simpa using h1
  have h2':¬ 0<y:=by simpa using h2
  unfold l0 fS at*;simp only[List.countP_cons,Ha];rw[if_pos h1',if_neg h2'];omega
 |x::l,y::m,hl,h,k+1,h1,h2=>by
  have ih:=zU l m (by simpa using hl) (λ i hi=>by have:=h (i+1);simpa using this (by simpa using hi)) k (by simpa using h1) (by simpa using h2);have h0:0<y->0<x:=by have:=h 0;simpa using this
  unfold l0 fS at*;simp only[List.countP_cons,Ha];split<;>split<;>omega
def Wk.size(w:Wk):Nat:=l0 w.left+if w.val=0 then 0 else 1
theorem nu{m:Int}{W:LN}{f:LI}(hW:W.Nodup)(hi:∀ i∈W,i<f.length)(j:Nat):(gK m W f).getD j 0=if j∈W then f.getD j 0+m else f.getD j 0:=by
 rw[GD,uH m W f j hW hi];split
 ·rfl
 ·rw[<- GD]
theorem ma{N:aO}(hR:N.Right){w:Wk}(h:w.OK N)(hp:bF w.left<w.left.length):(ve N w).OK N/\(ve N w).size<w.size/\0<(e7 N w).2.2/\w4 N w (e7 N w).1 (e7 N w).2.1/\(∀ e∈(e7 N w).2.1,(e7 N w).2.2<=w.left.getD e 0):=by
 have e99a:¬ (99:Int)=112:=by decide
 have e99b:¬ (99:Int)=98:=by decide
 have e98:¬ (98:Int)=112:=by decide
 have p112:(112:Int)=112:=rfl;have p98:(98:Int)=98:=rfl;have hP:w4 N w (e7 N w).1 (e7 N w).2.1:=zp hR h hp;have hm:(e7 N w).2.2=lC w.left (fU w (e7 N w).1 (e7 N w).2.1) (e7 N w).2.1:=rfl;unfold ve
 generalize e7 N w=t at*
 obtain⟨k,W,m⟩:=t;simp only at hP hm ⊢
 obtain⟨a,z,hW⟩:∃ a z,jS N w.left W a z:=by
  rcases hP with ⟨_,_,h⟩|⟨_,_,h⟩|⟨_,v,h⟩
  ·exact⟨_,_,h⟩
  ·exact⟨_,_,h⟩
  ·exact⟨_,_,h⟩
 have hfl:=h.flow.len;have hlt:∀ i∈W,i<w.left.length:=λ i hi=>by obtain⟨r,hr,_⟩:=hW.room i hi;have:=(GC.1 hr).1;omega
 have hpos:∀ i∈W,0<w.left.getD i 0:=λ i hi=>by obtain⟨r,_,hr⟩:=hW.room i hi;exact hr
 have hhead:W.headD 0∈W:=by
  cases hc:W with
  |nil=>exact absurd hc hW.ne
  |cons x X=>simp
 have hinit:0<fU w k W:=by
  unfold fU;split
  ·exact hpos _ hhead
  ·rename_i hk
   rcases hP with ⟨_,h,_⟩|⟨_,h,_⟩|⟨h,_⟩
   ·omega
   ·omega
   ·exact absurd h hk
 have hmp:0<m:=by rw[hm];exact xv hinit hpos
 obtain⟨hle,hlee⟩:=AL w.left W (fU w k W);rw[<- hm] at hle hlee;have hgetD:=nu (m:=-m) hW.nodup hlt;have hlen:=i7 (-m) W w.left
 have hrg:Ranged N (gK (-m) W w.left):=by
  refine⟨by rw[hlen];exact hfl,λ p hp=>?_⟩;obtain⟨j,hj⟩:=HJ.1 hp;obtain⟨h1,h2⟩:=Hr.1 hj;have hjl:j<w.left.length:=by have:=(GC.1 h1).1;omega
  have h3:w.left[j]?=some (w.left.getD j 0):=by rw[GD,Gy hjl];rfl
  have h4:=h.flow.all (p.1,w.left.getD j 0) (GB (Hr.2 ⟨h1,h3⟩));have h5:=hgetD j;rw[GD,h2,G9] at h5;rw[h5];simp only at h4;split
  ·rename_i hjW;have:=hlee j hjW;omega
  ·exact h4
 have hex:=λ v=>m0 (N:=N) (m:=-m) (v:=v) W a w.left hfl hW.walk (z:=z)
 have hmono:∀ i,0<(gK (-m) W w.left).getD i 0->0<w.left.getD i 0:=λ i hi=>by
  rw[hgetD i] at hi;split at hi<;>omega
 have hcle:=vL w.left _ hlen hmono;have hchit:∀ e∈W,m=w.left.getD e 0->l0 (gK (-m) W w.left)<l0 w.left:=λ e he hme=>zU w.left _ hlen hmono e (hpos e he) (by rw[hgetD e,if_pos he];omega);refine⟨?_,?_,hmp,hP,hlee⟩
 ·rcases hP with ⟨rfl,hv,hW'⟩|⟨rfl,hv,hW'⟩|⟨rfl,v,hW'⟩
  ·have hx:=λ v=>m0 (N:=N) (m:=-m) (v:=v) W N.src w.left hfl hW'.walk (z:=N.snk);refine⟨⟨hrg,λ v hv h1 h2=>?_⟩,?_⟩
   ·rw[hx v,h.flow.kept v hv h1 h2,if_neg (λ e=>h2 e.symm),if_neg (λ e=>h1 e.symm)];rfl
   ·simp only;rw[hx N.snk,h.worth,if_pos rfl,if_neg hR.diff,if_pos an];omega
  ·have hx:=λ v=>m0 (N:=N) (m:=-m) (v:=v) W N.snk w.left hfl hW'.walk (z:=N.src);refine⟨⟨hrg,λ v hv h1 h2=>?_⟩,?_⟩
   ·rw[hx v,h.flow.kept v hv h1 h2,if_neg (λ e=>h1 e.symm),if_neg (λ e=>h2 e.symm)];rfl
   ·simp only;rw[hx N.snk,h.worth,if_neg hR.diff,if_pos rfl,if_neg e98,if_pos an];omega
  ·have hx:=λ u=>m0 (N:=N) (m:=-m) (v:=u) W v w.left hfl hW'.walk (z:=v);refine⟨⟨hrg,λ u hu h1 h2=>?_⟩,?_⟩
   ·rw[hx u,h.flow.kept u hu h1 h2];omega
   ·simp only;rw[hx N.snk,h.worth,if_neg e99a,if_neg e99b];omega
 ·unfold Wk.size;simp only
  rcases xc w.left W (fU w k W) with hh|⟨e,he,hh⟩
  ·rw[<- hm] at hh;by_cases hk:k=99
   ·subst hk;have:=hchit _ hhead (by rw[hh];unfold fU;rw[if_pos rfl]);rw[if_neg e99a,if_neg e99b];omega
   ·have hi:fU w k W=max w.val (-w.val):=by unfold fU;rw[if_neg hk]
    rcases hP with ⟨rfl,hv,_⟩|⟨rfl,hv,_⟩|⟨h,_⟩
    ·rw[if_pos p112,if_pos (show w.val-m=0 by omega),if_neg (show ¬ w.val=0 by omega)];omega
    ·rw[if_neg e98,if_pos p98,if_pos (show w.val+m=0 by omega),if_neg (show ¬ w.val=0 by omega)];omega
    ·exact absurd h hk
  ·rw[<- hm] at hh;have:=hchit e he hh
   rcases hP with ⟨rfl,hv,_⟩|⟨rfl,hv,_⟩|⟨rfl,_⟩
   ·rw[if_pos p112,if_neg (show ¬ w.val=0 by omega)];split<;>omega
   ·rw[if_neg e98,if_pos p98,if_neg (show ¬ w.val=0 by omega)];split<;>omega
   ·rw[if_neg e99a,if_neg e99b];omega
def iS(N:aO):Nat->Wk->List (Int×LN×Int)
 |0,_=>[]
 |n+1,w=>if bF w.left<w.left.length then e7 N w::iS N n (ve N w) else []
theorem w9{l:LI}(h:bF l<l.length):0<l0 l:=by
 unfold l0;exact List.countP_pos_iff.2 ⟨l[bF l],H9 h,List.findIdx_getElem (w:=h)⟩
theorem pk{N:aO}(hR:N.Right):∀ (n m:Nat) (w:Wk),w.OK N->w.size<=n->w.size<=m->iS N n w=iS N m w
 |0,0,_,_,_,_=>rfl
 |0,m+1,w,_,h,_=>by
  have:¬ bF w.left<w.left.length:=λ hp=>by have:=w9 hp;unfold Wk.size at h;omega
  show []=iS N (m+1) w;unfold iS;rw[if_neg this]
 |n+1,0,w,_,_,h=>by
  have:¬ bF w.left<w.left.length:=λ hp=>by have:=w9 hp;unfold Wk.size at h;omega
  show iS N (n+1) w=[];unfold iS;rw[if_neg this]
 |n+1,m+1,w,hw,h1,h2=>by
  unfold iS;by_cases hp:bF w.left<w.left.length
  ·have:=ma hR hw hp;rw[if_pos hp,if_pos hp,pk hR n m _ this.1 (by omega) (by omega)]
  ·rw[if_neg hp,if_neg hp]
end Go.Proofs.YtmcnpaelaieniaaGreatDoor
