/- The greatest flow of a graph's network, and its matchings. -/
import Derived.Test.YtpbmihpjgjbndaaGreatQX24
import Derived.Test.YtpbmihpjgjbndaaGreatRightN
set_option linter.unusedVariables false
set_option linter.unusedSimpArgs false
namespace Go.Proofs.YtpbmihpjgjbndaaGreat
/-! ### Sums by place -/
theorem mE:∀ (L:List Int) (j0:Nat),(∀ j x,L[j]?=some x→j≠j0→x=0)→L.sum=L.getD j0 0
 |[],_,_=>by simp
 |x::L,0,h=>by
  have:L.sum=0:=by
   have:∀ y∈L,y=0:=fun y hy=>by
    obtain⟨j,hj,rfl⟩:=List.mem_iff_getElem.1 hy
    exact h (j+1) _ (by rw[List.getElem?_cons_succ,List.getElem?_eq_getElem hj]) (by omega)
   clear h
   induction L with
   |nil=>rfl
   |cons z L ih=>rw[List.sum_cons,this z (by simp),ih fun y hy=>this y (by simp[hy])];rfl
  rw[List.sum_cons,this];simp
 |x::L,j0+1,h=>by
  have h0:=h 0 x rfl (by omega)
  rw[List.sum_cons,h0,mE L j0 fun j y hy hne=>h (j+1) y (by rw[List.getElem?_cons_succ];exact hy) (by omega)]
  simp
theorem nW:∀ (L:List Int) (i j:Nat) (x y:Int),(∀ z∈L,0≤z)→i<j→L[i]?=some x→L[j]?=some y→x+y≤L.sum
 |[],i,_,_,_,_,_,h,_=>by simp at h
 |z::L,0,j+1,x,y,h0,_,hi,hj=>by
  simp only[List.getElem?_cons_zero,Option.some.injEq] at hi
  subst hi
  rw[List.getElem?_cons_succ] at hj
  have:=jH (fun x hx=>h0 x (by simp[hx])) (List.mem_of_getElem? hj)
  rw[List.sum_cons];omega
 |z::L,i+1,j+1,x,y,h0,hij,hi,hj=>by
  rw[List.getElem?_cons_succ] at hi hj
  have:=nW L i j x y (fun x hx=>h0 x (by simp[hx])) (by omega) hi hj
  have:=h0 z (by simp)
  rw[List.sum_cons];omega
theorem jb:∀ (L:List Int),(∀ x∈L,x=0)→L.sum=0
 |[],_=>rfl
 |z::L,h=>by rw[List.sum_cons,h z (by simp),jb L fun y hy=>h y (by simp[hy])];rfl
/-! ### The greatest value -/
theorem vw {N:bt} (hR:N.Right) {f:List Int} (hf:lR N f):∃ s,wO N s∧oh N f s:=by
 have hnn:=hR.nodes
 obtain⟨n,hn⟩:∃ n:Nat,N.nodes=n:=⟨N.nodes.toNat,by omega⟩
 have hlr:∀ v:Nat,((List.range (n+1)).map fun (v:Nat)=>cU (tj N (aK (N.arcs.zip f)) 1 v))[v]?=some true↔v≤n∧tj N (aK (N.arcs.zip f)) 1 v:=by
  intro v
  rw[List.getElem?_map]
  by_cases hv:v<n+1
  ·rw[List.getElem?_range hv]
   show some (cU _)=some true↔_
   by_cases hr:tj N (aK (N.arcs.zip f)) 1 v
   ·rw[az hr];exact⟨fun _=>⟨by omega,hr⟩,fun _=>rfl⟩
   ·rw[aA hr];exact⟨fun h=>(by cases h),fun h=>absurd h.2 hr⟩
  ·rw[List.getElem?_eq_none (by simp;omega)]
   simp;omega
 exact⟨_,th hR hf.1 hn hf.2 hlr⟩
section
variable {g:Gr} {nl nr:Nat}
theorem js (hl:g.left=nl) {i:Nat} (h:i<nl):(b5 g).arcs[i]?=some ⟨1,3+i,1⟩:=by
 unfold b5
 simp only
 rw[List.append_assoc,List.getElem?_append_left (by simp;omega),List.getElem?_map,List.getElem?_range (by omega)]
 rfl
theorem gT (hl:g.left=nl) {k:Nat} {e:fJ} (h:g.edges[k]?=some e):(b5 g).arcs[nl+k]?=some ⟨2+e.l,2+g.left+e.r,1⟩:=by
 have hk:=(List.getElem?_eq_some_iff.1 h).1
 have hl':g.left.toNat=nl:=by omega
 unfold b5
 simp only
 rw[List.append_assoc,List.getElem?_append_right (by simp;omega),List.length_map,List.length_range,hl',Nat.add_sub_cancel_left,List.getElem?_append_left (by simp;omega),List.getElem?_map,h]
 rfl
theorem jm (hl:g.left=nl) (hr:g.right=nr) {i:Nat} (h:i<nr):(b5 g).arcs[nl+g.edges.length+i]?=some ⟨3+g.left+i,2,1⟩:=by
 have hl':g.left.toNat=nl:=by omega
 unfold b5
 simp only
 rw[List.getElem?_append_right (by simp;omega),List.length_append,List.length_map,List.length_range,List.length_map,hl',Nat.add_sub_cancel_left,List.getElem?_map,List.getElem?_range (by omega)]
 rfl
theorem hQ (hl:g.left=nl) (hr:g.right=nr) {j:Nat} {a:dQ} (h:(b5 g).arcs[j]?=some a):
 (j<nl∧a=⟨1,3+j,1⟩)∨(∃ k e,j=nl+k∧g.edges[k]?=some e∧a=⟨2+e.l,2+g.left+e.r,1⟩)∨(∃ i,i<nr∧j=nl+g.edges.length+i∧a=⟨3+g.left+i,2,1⟩):=by
 have hj:=(List.getElem?_eq_some_iff.1 h).1
 rw[iS] at hj
 by_cases h1:j<nl
 ·rw[js hl h1] at h
  simp only[Option.some.injEq] at h
  exact .inl ⟨h1,h.symm⟩
 ·by_cases h2:j<nl+g.edges.length
  ·obtain⟨k,rfl⟩:∃ k,j=nl+k:=⟨j-nl,by omega⟩
   have he:g.edges[k]?=some g.edges[k]:=List.getElem?_eq_getElem (by omega)
   rw[gT hl he] at h
   simp only[Option.some.injEq] at h
   exact .inr (.inl ⟨k,_,rfl,he,h.symm⟩)
  ·obtain⟨i,rfl⟩:∃ i,j=nl+g.edges.length+i:=⟨j-(nl+g.edges.length),by omega⟩
   have hi:i<nr:=by omega
   rw[jm hl hr hi] at h
   simp only[Option.some.injEq] at h
   exact .inr (.inr ⟨i,hi,rfl,h.symm⟩)
end
/-! ### A matching is a flow -/
section
variable {g:Gr} {nl nr:Nat}
end
/-! ### A flow is a matching -/
def pU (v:Int) (ps:List (dQ×Int)):List Int:=ps.map fun p=>if p.1.to=v then p.2 else 0
def jv (v:Int) (ps:List (dQ×Int)):List Int:=ps.map fun p=>if p.1.fr=v then p.2 else 0
theorem gQ (v:Int):∀ ps:List (dQ×Int),ex ps v=(pU v ps).sum-(jv v ps).sum
 |[]=>by simp[ex,pU,jv]
 |p::ps=>by
  have ih:=gQ v ps
  simp only[ex,pU,jv,List.map_cons,List.sum_cons] at ih ⊢
  rw[ih];omega
theorem ek {f:List Int} {nl k:Nat} {x:Int}:x∈bX f nl k↔∃ i:Nat,i<k∧0<f.getD (nl+i) 0∧x=i:=by
 unfold bX
 simp only[List.mem_map,List.mem_filter,List.mem_range,decide_eq_true_eq]
 constructor
 ·rintro⟨i,⟨h1,h2⟩,rfl⟩;exact⟨i,h1,h2,rfl⟩
 ·rintro⟨i,h1,h2,rfl⟩;exact⟨i,⟨h1,h2⟩,rfl⟩
theorem gj (f:List Int) (nl:Nat):∀ k,(bX f nl k).Pairwise (·<·)
 |0=>by simp[bX]
 |k+1=>by
  rw[iN]
  split
  ·refine kj (gj f nl k) fun x hx=>?_
   obtain⟨i,h1,_,rfl⟩:=ek.1 hx
   omega
  ·rw[List.append_nil];exact gj f nl k
section
variable {g:Gr} {nl nr:Nat} {f:List Int}
theorem fN (hf:aT (b5 g) f) {j:Nat} {a:dQ} (h:(b5 g).arcs[j]?=some a):((b5 g).arcs.zip f)[j]?=some (a,f.getD j 0)∧0≤f.getD j 0∧f.getD j 0≤1:=by
 have hj:=(List.getElem?_eq_some_iff.1 h).1
 have hl:=hf.len
 have hx:f[j]?=some (f.getD j 0):=by rw[List.getD_eq_getElem?_getD,List.getElem?_eq_getElem (by omega)];rfl
 have hz:((b5 g).arcs.zip f)[j]?=some (a,f.getD j 0):=List.getElem?_zip_eq_some.2 ⟨h,hx⟩
 have h1:=hf.all _ (List.mem_of_getElem? hz)
 have h2:=oH a (List.mem_of_getElem? h)
 simp only at h1
 exact⟨hz,h1.1,by omega⟩
theorem gZ {j:Nat} {p:dQ×Int} (h:((b5 g).arcs.zip f)[j]?=some p):(b5 g).arcs[j]?=some p.1∧f.getD j 0=p.2:=by
 obtain⟨h1,h2⟩:=List.getElem?_zip_eq_some.1 h
 exact⟨h1,by rw[List.getD_eq_getElem?_getD,h2];rfl⟩
theorem oA (hg:g.Right) (hf:aT (b5 g) f) (hl:g.left=nl) (hr:g.right=nr) {i k:Nat} {a b:fJ} (hik:i<k) (ha:g.edges[i]?=some a) (hb:g.edges[k]?=some b) (h1:0<f.getD (nl+i) 0) (h2:0<f.getD (nl+k) 0):a.l≠b.l∧a.r≠b.r:=by
 have hba:=hg.edge a (List.mem_of_getElem? ha)
 have hbb:=hg.edge b (List.mem_of_getElem? hb)
 have hgl:=hg.left
 have hgr:=hg.right
 obtain⟨z1,y1,_⟩:=fN hf (gT hl ha)
 obtain⟨z2,y2,_⟩:=fN hf (gT hl hb)
 have hnn:∀ p∈(b5 g).arcs.zip f,0≤p.2:=fun p hp=>(hf.all p hp).1
 constructor
 ·intro e
  have hk:=hf.kept (2+a.l) (by show 1≤2+a.l∧2+a.l≤2+g.left+g.right;omega) (by show 2+a.l≠1;omega) (by show 2+a.l≠2;omega)
  rw[gQ] at hk
  have hin:(pU (2+a.l) ((b5 g).arcs.zip f)).sum≤1:=by
   obtain⟨z3,y3,y4⟩:=fN hf (js (g:=g) hl (i:=a.l.toNat-1) (by omega))
   rw[mE _ (a.l.toNat-1)]
   ·unfold pU
    rw[List.getD_eq_getElem?_getD,List.getElem?_map,z3]
    show (if _ then _ else _:Int)≤1
    split
    ·exact y4
    ·decide
   ·intro j x hx hne
    unfold pU at hx
    rw[List.getElem?_map] at hx
    cases hz:((b5 g).arcs.zip f)[j]? with
    |none=>rw[hz] at hx;simp at hx
    |some p=>
     rw[hz] at hx
     simp only[Option.map_some,Option.some.injEq] at hx
     rw[← hx]
     refine if_neg fun ht=>?_
     rcases hQ hl hr (gZ hz).1 with ⟨q1,q2⟩|⟨k',e',q1,q2,q3⟩|⟨i',q1,q2,q3⟩
     ·rw[q2] at ht;simp only at ht;omega
     ·rw[q3] at ht;simp only at ht
      have:=hg.edge e' (List.mem_of_getElem? q2)
      omega
     ·rw[q3] at ht;simp only at ht;omega
  have hout:=nW (jv (2+a.l) ((b5 g).arcs.zip f)) (nl+i) (nl+k) (f.getD (nl+i) 0) (f.getD (nl+k) 0) (fun z hz=>by
   obtain⟨p,hp,rfl⟩:=List.mem_map.1 hz
   have:=hnn p hp
   split<;>omega) (by omega) (by unfold jv;rw[List.getElem?_map,z1];exact congrArg some (if_pos rfl))
   (by unfold jv;rw[List.getElem?_map,z2];exact congrArg some (if_pos (by show 2+b.l=2+a.l;omega)))
  omega
 ·intro e
  have hk:=hf.kept (2+g.left+a.r) (by show 1≤2+g.left+a.r∧2+g.left+a.r≤2+g.left+g.right;omega) (by show 2+g.left+a.r≠1;omega) (by show 2+g.left+a.r≠2;omega)
  rw[gQ] at hk
  have hout:(jv (2+g.left+a.r) ((b5 g).arcs.zip f)).sum≤1:=by
   obtain⟨z3,y3,y4⟩:=fN hf (jm (g:=g) hl hr (i:=a.r.toNat-1) (by omega))
   rw[mE _ (nl+g.edges.length+(a.r.toNat-1))]
   ·unfold jv
    rw[List.getD_eq_getElem?_getD,List.getElem?_map,z3]
    show (if _ then _ else _:Int)≤1
    split
    ·exact y4
    ·decide
   ·intro j x hx hne
    unfold jv at hx
    rw[List.getElem?_map] at hx
    cases hz:((b5 g).arcs.zip f)[j]? with
    |none=>rw[hz] at hx;simp at hx
    |some p=>
     rw[hz] at hx
     simp only[Option.map_some,Option.some.injEq] at hx
     rw[← hx]
     refine if_neg fun ht=>?_
     rcases hQ hl hr (gZ hz).1 with ⟨q1,q2⟩|⟨k',e',q1,q2,q3⟩|⟨i',q1,q2,q3⟩
     ·rw[q2] at ht;simp only at ht;omega
     ·rw[q3] at ht;simp only at ht
      have:=hg.edge e' (List.mem_of_getElem? q2)
      omega
     ·rw[q3] at ht;simp only at ht;omega
  have hin:=nW (pU (2+g.left+a.r) ((b5 g).arcs.zip f)) (nl+i) (nl+k) (f.getD (nl+i) 0) (f.getD (nl+k) 0) (fun z hz=>by
   obtain⟨p,hp,rfl⟩:=List.mem_map.1 hz
   have:=hnn p hp
   split<;>omega) (by omega) (by unfold pU;rw[List.getElem?_map,z1];exact congrArg some (if_pos rfl))
   (by unfold pU;rw[List.getElem?_map,z2];exact congrArg some (if_pos (by show 2+g.left+b.r=2+g.left+a.r;omega)))
  omega
theorem mN (hg:g.Right) (hf:aT (b5 g) f) (hl:g.left=nl) (hr:g.right=nr):bC g (bX f nl g.edges.length):=by
 refine⟨gj _ _ _,fun x hx=>?_,?_⟩
 ·obtain⟨i,h1,_,rfl⟩:=ek.1 hx;omega
 ·refine (gj f nl g.edges.length).imp_of_mem ?_
  intro x y hx hy hxy a b ha hb
  obtain⟨i,h1,h2,rfl⟩:=ek.1 hx
  obtain⟨k,h3,h4,rfl⟩:=ek.1 hy
  rw[Int.toNat_natCast] at ha hb
  exact oA hg hf hl hr (by omega) ha hb h2 h4
end
end Go.Proofs.YtpbmihpjgjbndaaGreat
