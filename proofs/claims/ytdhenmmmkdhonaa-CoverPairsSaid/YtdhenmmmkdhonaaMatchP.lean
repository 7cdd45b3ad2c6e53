
/- The greatest flow of a graph's network, and its matchings. -/
import Derived.Test.YtdhenmmmkdhonaaPairsN
import Derived.Test.YtdhenmmmkdhonaaRightN
set_option linter.unusedVariables false
set_option linter.unusedSimpArgs false
namespace Go.Proofs.Ytdhenmmmkdhonaa
/-! ### Sums by place -/
theorem sum_at : ∀ (L : List Int) (j0 : Nat),(∀ j x,L[j]? = some x → j ≠ j0 → x = 0) → L.sum = L.getD j0 0
  | [],_,_=>by simp
  | x :: L,0,h=>by
    have : L.sum = 0:=by
      have : ∀ y ∈ L,y = 0:=fun y hy=>by
        obtain ⟨j,hj,rfl⟩:=List.mem_iff_getElem.1 hy
        exact h (j + 1) _ (by rw [List.getElem?_cons_succ,List.getElem?_eq_getElem hj]) (by omega)
      clear h
      induction L with
      | nil=>rfl
      | cons z L ih=>rw [List.sum_cons,this z (by simp),ih fun y hy=>this y (by simp [hy])]; rfl
    rw [List.sum_cons,this]; simp
  | x :: L,j0 + 1,h=>by
    have h0:=h 0 x rfl (by omega)
    rw [List.sum_cons,h0,sum_at L j0 fun j y hy hne=>h (j + 1) y (by rw [List.getElem?_cons_succ]; exact hy) (by omega)]
    simp
theorem sum_two : ∀ (L : List Int) (i j : Nat) (x y : Int),(∀ z ∈ L,0 ≤ z) → i < j → L[i]? = some x → L[j]? = some y → x + y ≤ L.sum
  | [],i,_,_,_,_,_,h,_=>by simp at h
  | z :: L,0,j + 1,x,y,h0,_,hi,hj=>by
    simp only [List.getElem?_cons_zero,Option.some.injEq] at hi
    subst hi
    rw [List.getElem?_cons_succ] at hj
    have:=le_sum_mem (fun x hx=>h0 x (by simp [hx])) (List.mem_of_getElem? hj)
    rw [List.sum_cons]; omega
  | z :: L,i + 1,j + 1,x,y,h0,hij,hi,hj=>by
    rw [List.getElem?_cons_succ] at hi hj
    have:=sum_two L i j x y (fun x hx=>h0 x (by simp [hx])) (by omega) hi hj
    have:=h0 z (by simp)
    rw [List.sum_cons]; omega
theorem sum_noughts : ∀ (L : List Int),(∀ x ∈ L,x = 0) → L.sum = 0
  | [],_=>rfl
  | z :: L,h=>by rw [List.sum_cons,h z (by simp),sum_noughts L fun y hy=>h y (by simp [hy])]; rfl
/-! ### The greatest value -/
theorem max_cut {N : Net} (hR : N.Right) {f : List Int} (hf : MaxFlow N f) : ∃ s,IsCut N s ∧ Closed N f s:=by
  have hnn:=hR.nodes
  obtain ⟨n,hn⟩ : ∃ n : Nat,N.nodes = n:=⟨N.nodes.toNat,by omega⟩
  have hlr : ∀ v : Nat,((List.range (n + 1)).map fun (v : Nat)=>cdec (Rch N (roomL (N.arcs.zip f)) 1 v))[v]? = some true ↔ v ≤ n ∧ Rch N (roomL (N.arcs.zip f)) 1 v:=by
    intro v
    rw [List.getElem?_map]
    by_cases hv : v < n + 1
    · rw [List.getElem?_range hv]
      show some (cdec _) = some true ↔ _
      by_cases hr : Rch N (roomL (N.arcs.zip f)) 1 v
      · rw [cdec_yes hr]; exact ⟨fun _=>⟨by omega,hr⟩,fun _=>rfl⟩
      · rw [cdec_no hr]; exact ⟨fun h=>(by cases h),fun h=>absurd h.2 hr⟩
    · rw [List.getElem?_eq_none (by simp; omega)]
      simp; omega
  exact ⟨_,first_cut hR hf.1 hn hf.2 hlr⟩
theorem max_value {N : Net} (hR : N.Right) {f f' : List Int} (hf : MaxFlow N f) (hf' : IsFlow N f') : exZ (N.arcs.zip f') N.snk ≤ exZ (N.arcs.zip f) N.snk:=by
  obtain ⟨s,hs,hc⟩:=max_cut hR hf
  rw [← (closed_cut hR hf.1 hs).2 hc]
  exact weak_cut hR hf' hs
/-! ### The arcs of a graph's network -/
section
variable {g : Gr} {nl nr : Nat}
theorem gnet_arcL (hl : g.left = nl) {i : Nat} (h : i < nl) : (gnet g).arcs[i]? = some ⟨1,3 + i,1⟩:=by
  unfold gnet
  simp only
  rw [List.append_assoc,List.getElem?_append_left (by simp; omega),List.getElem?_map,List.getElem?_range (by omega)]
  rfl
theorem gnet_arcE (hl : g.left = nl) {k : Nat} {e : Edg} (h : g.edges[k]? = some e) : (gnet g).arcs[nl + k]? = some ⟨2 + e.l,2 + g.left + e.r,1⟩:=by
  have hk:=(List.getElem?_eq_some_iff.1 h).1
  have hl' : g.left.toNat = nl:=by omega
  unfold gnet
  simp only
  rw [List.append_assoc,List.getElem?_append_right (by simp; omega),List.length_map,List.length_range,hl',Nat.add_sub_cancel_left,List.getElem?_append_left (by simp; omega),List.getElem?_map,h]
  rfl
theorem gnet_arcR (hl : g.left = nl) (hr : g.right = nr) {i : Nat} (h : i < nr) : (gnet g).arcs[nl + g.edges.length + i]? = some ⟨3 + g.left + i,2,1⟩:=by
  have hl' : g.left.toNat = nl:=by omega
  unfold gnet
  simp only
  rw [List.getElem?_append_right (by simp; omega),List.length_append,List.length_map,List.length_range,List.length_map,hl',Nat.add_sub_cancel_left,List.getElem?_map,List.getElem?_range (by omega)]
  rfl
theorem gnet_arc (hl : g.left = nl) (hr : g.right = nr) {j : Nat} {a : Arc} (h : (gnet g).arcs[j]? = some a) :
    (j < nl ∧ a = ⟨1,3 + j,1⟩) ∨ (∃ k e,j = nl + k ∧ g.edges[k]? = some e ∧ a = ⟨2 + e.l,2 + g.left + e.r,1⟩) ∨ (∃ i,i < nr ∧ j = nl + g.edges.length + i ∧ a = ⟨3 + g.left + i,2,1⟩):=by
  have hj:=(List.getElem?_eq_some_iff.1 h).1
  rw [gnet_len] at hj
  by_cases h1 : j < nl
  · rw [gnet_arcL hl h1] at h
    simp only [Option.some.injEq] at h
    exact .inl ⟨h1,h.symm⟩
  · by_cases h2 : j < nl + g.edges.length
    · obtain ⟨k,rfl⟩ : ∃ k,j = nl + k:=⟨j - nl,by omega⟩
      have he : g.edges[k]? = some g.edges[k]:=List.getElem?_eq_getElem (by omega)
      rw [gnet_arcE hl he] at h
      simp only [Option.some.injEq] at h
      exact .inr (.inl ⟨k,_,rfl,he,h.symm⟩)
    · obtain ⟨i,rfl⟩ : ∃ i,j = nl + g.edges.length + i:=⟨j - (nl + g.edges.length),by omega⟩
      have hi : i < nr:=by omega
      rw [gnet_arcR hl hr hi] at h
      simp only [Option.some.injEq] at h
      exact .inr (.inr ⟨i,hi,rfl,h.symm⟩)
end
/-! ### A matching is a flow -/
section
variable {g : Gr} {nl nr : Nat}
def pairW (nl ne : Nat) (e : Edg) (k : Nat) : List Nat:=[e.l.toNat - 1,nl + k,nl + ne + (e.r.toNat - 1)]
theorem pairW_walk (hg : g.Right) (hl : g.left = nl) (hr : g.right = nr) {k : Nat} {e : Edg} (he : g.edges[k]? = some e) : isWalk (gnet g) 1 (pairW nl g.edges.length e k) 2:=by
  have hb:=hg.edge e (List.mem_of_getElem? he)
  refine ⟨_,gnet_arcL hl (by omega),rfl,_,gnet_arcE hl he,?_,_,gnet_arcR hl hr (by omega),?_,rfl⟩
  · show 2 + e.l = 3 + ((e.l.toNat - 1 : Nat) : Int); omega
  · show 3 + g.left + ((e.r.toNat - 1 : Nat) : Int) = 2 + g.left + e.r; omega
theorem match_flow (hg : g.Right) {l : List Int} (hM : IsMatch g l) (hl : g.left = nl) (hr : g.right = nr) : ∀ k, k ≤ l.length → ∃ f, IsFlow (gnet g) f ∧ exZ ((gnet g).arcs.zip f) 2 = k ∧
    ∀ j,f.getD j 0 ≠ 0 → ∃ x ∈ l.take k,∃ e,g.edges[x.toNat]? = some e ∧ j ∈ pairW nl g.edges.length e x.toNat
  | 0,_=>by
    have hR:=gnet_right hg
    refine ⟨_,zeroFlow _ hR,?_,fun j hj=>?_⟩
    · have hz : ∀ (l : List Arc) (v : Int), exZ (l.zip (List.replicate l.length 0)) v = 0 := by
        intro l v
        unfold exZ
        refine sum_noughts _ fun x hx=>?_
        obtain ⟨p,hp,rfl⟩:=List.mem_map.1 hx
        have : p.2 = 0:=List.eq_of_mem_replicate (List.of_mem_zip hp).2
        rw [this]; split <;> split <;> rfl
      exact hz _ _
    · exfalso; apply hj
      rw [List.getD_eq_getElem?_getD,List.getElem?_replicate]
      split <;> rfl
  | k + 1,hk=>by
    have hR:=gnet_right hg
    obtain ⟨f,hf,hv,hs⟩:=match_flow hg hM hl hr k (by omega)
    have hx : l[k]? = some l[k]:=List.getElem?_eq_getElem hk
    generalize l[k] = x at hx
    have hxr:=hM.rng x (List.mem_of_getElem? hx)
    have he : g.edges[x.toNat]? = some (g.edges[x.toNat]'(by omega)):=List.getElem?_eq_getElem (by omega)
    generalize g.edges[x.toNat]'(by omega) = e at he
    have hb:=hg.edge e (List.mem_of_getElem? he)
    have htk : l.take (k + 1) = l.take k ++ [x]:=by rw [List.take_add_one,hx]; rfl
    have hpre : IsMatch g (l.take k ++ [x]):=by rw [← htk]; exact IsMatch.pre (m:=l.drop (k + 1)) (by rw [List.take_append_drop]; exact hM)
    have hsn:=(IsMatch.snoc he).1 hpre
    have hfree : ∀ j ∈ pairW nl g.edges.length e x.toNat,f.getD j 0 = 0:=by
      intro j hj
      refine Classical.byContradiction fun h0=>?_
      obtain ⟨y,hy,a,ha,hja⟩:=hs j h0
      have hya:=hsn.2.2.2.2 y hy a ha
      have hyl:=hsn.2.1 y hy
      have hyr:=hM.rng y (List.mem_of_mem_take hy)
      have hab:=hg.edge a (List.mem_of_getElem? ha)
      simp only [pairW,List.mem_cons,List.not_mem_nil,or_false] at hj hja
      omega
    have hw:=pairW_walk hg hl hr he
    have hroom : ∀ i ∈ pairW nl g.edges.length e x.toNat,∃ r : Arc,(gnet g).arcs[i]? = some r ∧ f.getD i 0 + 1 ≤ r.cap:=by
      intro i hi
      rw [hfree i hi]
      simp only [pairW,List.mem_cons,List.not_mem_nil,or_false] at hi
      rcases hi with rfl | rfl | rfl
      · exact ⟨_,gnet_arcL hl (by omega),by show (0 : Int) + 1 ≤ 1; decide⟩
      · exact ⟨_,gnet_arcE hl he,by show (0 : Int) + 1 ≤ 1; decide⟩
      · exact ⟨_,gnet_arcR hl hr (by omega),by show (0 : Int) + 1 ≤ 1; decide⟩
    have hnd : (pairW nl g.edges.length e x.toNat).Nodup:=by simp [pairW]; omega
    have hfl:=hf.len
    rw [gnet_len] at hfl
    refine ⟨addW 1 (pairW nl g.edges.length e x.toNat) f,addW_flow hf hw hnd (by decide) hroom,?_,fun j hj=>?_⟩
    · rw [addW_ex _ _ _ hf.len hw,hv,if_pos rfl,if_neg (by decide)]; omega
    · rw [List.getD_eq_getElem?_getD, addW_get 1 _ f j hnd (fun i hi => by
        obtain ⟨r,h1,_⟩:=hroom i hi
        have:=(List.getElem?_eq_some_iff.1 h1).1
        have:=hf.len
        omega)] at hj
      rw [htk]
      split at hj
      · rename_i hin; exact ⟨x,by simp,e,he,hin⟩
      · obtain ⟨y,hy,r⟩:=hs j (by rw [List.getD_eq_getElem?_getD]; exact hj)
        exact ⟨y,by simp [hy],r⟩
end
/-! ### A flow is a matching -/
def inS (v : Int) (ps : List (Arc × Int)) : List Int:=ps.map fun p=>if p.1.to = v then p.2 else 0
def outS (v : Int) (ps : List (Arc × Int)) : List Int:=ps.map fun p=>if p.1.fr = v then p.2 else 0
theorem exZ_split (v : Int) : ∀ ps : List (Arc × Int),exZ ps v = (inS v ps).sum - (outS v ps).sum
  | []=>by simp [exZ,inS,outS]
  | p :: ps=>by
    have ih:=exZ_split v ps
    simp only [exZ,inS,outS,List.map_cons,List.sum_cons] at ih ⊢
    rw [ih]; omega
theorem mem_pairsL {f : List Int} {nl k : Nat} {x : Int} : x ∈ pairsL f nl k ↔ ∃ i : Nat,i < k ∧ 0 < f.getD (nl + i) 0 ∧ x = i:=by
  unfold pairsL
  simp only [List.mem_map,List.mem_filter,List.mem_range,decide_eq_true_eq]
  constructor
  · rintro ⟨i,⟨h1,h2⟩,rfl⟩; exact ⟨i,h1,h2,rfl⟩
  · rintro ⟨i,h1,h2,rfl⟩; exact ⟨i,⟨h1,h2⟩,rfl⟩
theorem pairsL_rise (f : List Int) (nl : Nat) : ∀ k,(pairsL f nl k).Pairwise (· < ·)
  | 0=>by simp [pairsL]
  | k + 1=>by
    rw [pairsL_succ]
    split
    · refine rise_app (pairsL_rise f nl k) fun x hx=>?_
      obtain ⟨i,h1,_,rfl⟩:=mem_pairsL.1 hx
      omega
    · rw [List.append_nil]; exact pairsL_rise f nl k
section
variable {g : Gr} {nl nr : Nat} {f : List Int}
theorem gflow_get (hf : IsFlow (gnet g) f) {j : Nat} {a : Arc} (h : (gnet g).arcs[j]? = some a) : ((gnet g).arcs.zip f)[j]? = some (a,f.getD j 0) ∧ 0 ≤ f.getD j 0 ∧ f.getD j 0 ≤ 1:=by
  have hj:=(List.getElem?_eq_some_iff.1 h).1
  have hl:=hf.len
  have hx : f[j]? = some (f.getD j 0):=by rw [List.getD_eq_getElem?_getD,List.getElem?_eq_getElem (by omega)]; rfl
  have hz : ((gnet g).arcs.zip f)[j]? = some (a,f.getD j 0):=List.getElem?_zip_eq_some.2 ⟨h,hx⟩
  have h1:=hf.all _ (List.mem_of_getElem? hz)
  have h2:=gnet_cap a (List.mem_of_getElem? h)
  simp only at h1
  exact ⟨hz,h1.1,by omega⟩
theorem gflow_at {j : Nat} {p : Arc × Int} (h : ((gnet g).arcs.zip f)[j]? = some p) : (gnet g).arcs[j]? = some p.1 ∧ f.getD j 0 = p.2:=by
  obtain ⟨h1,h2⟩:=List.getElem?_zip_eq_some.1 h
  exact ⟨h1,by rw [List.getD_eq_getElem?_getD,h2]; rfl⟩
theorem gflow_apart (hg : g.Right) (hf : IsFlow (gnet g) f) (hl : g.left = nl) (hr : g.right = nr) {i k : Nat} {a b : Edg} (hik : i < k) (ha : g.edges[i]? = some a) (hb : g.edges[k]? = some b) (h1 : 0 < f.getD (nl + i) 0) (h2 : 0 < f.getD (nl + k) 0) : a.l ≠ b.l ∧ a.r ≠ b.r:=by
  have hba:=hg.edge a (List.mem_of_getElem? ha)
  have hbb:=hg.edge b (List.mem_of_getElem? hb)
  have hgl:=hg.left
  have hgr:=hg.right
  obtain ⟨z1,y1,_⟩:=gflow_get hf (gnet_arcE hl ha)
  obtain ⟨z2,y2,_⟩:=gflow_get hf (gnet_arcE hl hb)
  have hnn : ∀ p ∈ (gnet g).arcs.zip f,0 ≤ p.2:=fun p hp=>(hf.all p hp).1
  constructor
  · intro e
    have hk:=hf.kept (2 + a.l) (by show 1 ≤ 2 + a.l ∧ 2 + a.l ≤ 2 + g.left + g.right; omega) (by show 2 + a.l ≠ 1; omega) (by show 2 + a.l ≠ 2; omega)
    rw [exZ_split] at hk
    have hin : (inS (2 + a.l) ((gnet g).arcs.zip f)).sum ≤ 1:=by
      obtain ⟨z3,y3,y4⟩:=gflow_get hf (gnet_arcL (g:=g) hl (i:=a.l.toNat - 1) (by omega))
      rw [sum_at _ (a.l.toNat - 1)]
      · unfold inS
        rw [List.getD_eq_getElem?_getD,List.getElem?_map,z3]
        show (if _ then _ else _ : Int) ≤ 1
        split
        · exact y4
        · decide
      · intro j x hx hne
        unfold inS at hx
        rw [List.getElem?_map] at hx
        cases hz : ((gnet g).arcs.zip f)[j]? with
        | none=>rw [hz] at hx; simp at hx
        | some p =>
          rw [hz] at hx
          simp only [Option.map_some,Option.some.injEq] at hx
          rw [← hx]
          refine if_neg fun ht=>?_
          rcases gnet_arc hl hr (gflow_at hz).1 with ⟨q1,q2⟩ | ⟨k',e',q1,q2,q3⟩ | ⟨i',q1,q2,q3⟩
          · rw [q2] at ht; simp only at ht; omega
          · rw [q3] at ht; simp only at ht
            have:=hg.edge e' (List.mem_of_getElem? q2)
            omega
          · rw [q3] at ht; simp only at ht; omega
    have hout:=sum_two (outS (2 + a.l) ((gnet g).arcs.zip f)) (nl + i) (nl + k) (f.getD (nl + i) 0) (f.getD (nl + k) 0) (fun z hz=>by
      obtain ⟨p,hp,rfl⟩:=List.mem_map.1 hz
      have:=hnn p hp
      split <;> omega) (by omega) (by unfold outS; rw [List.getElem?_map,z1]; exact congrArg some (if_pos rfl))
      (by unfold outS; rw [List.getElem?_map,z2]; exact congrArg some (if_pos (by show 2 + b.l = 2 + a.l; omega)))
    omega
  · intro e
    have hk:=hf.kept (2 + g.left + a.r) (by show 1 ≤ 2 + g.left + a.r ∧ 2 + g.left + a.r ≤ 2 + g.left + g.right; omega) (by show 2 + g.left + a.r ≠ 1; omega) (by show 2 + g.left + a.r ≠ 2; omega)
    rw [exZ_split] at hk
    have hout : (outS (2 + g.left + a.r) ((gnet g).arcs.zip f)).sum ≤ 1:=by
      obtain ⟨z3,y3,y4⟩:=gflow_get hf (gnet_arcR (g:=g) hl hr (i:=a.r.toNat - 1) (by omega))
      rw [sum_at _ (nl + g.edges.length + (a.r.toNat - 1))]
      · unfold outS
        rw [List.getD_eq_getElem?_getD,List.getElem?_map,z3]
        show (if _ then _ else _ : Int) ≤ 1
        split
        · exact y4
        · decide
      · intro j x hx hne
        unfold outS at hx
        rw [List.getElem?_map] at hx
        cases hz : ((gnet g).arcs.zip f)[j]? with
        | none=>rw [hz] at hx; simp at hx
        | some p =>
          rw [hz] at hx
          simp only [Option.map_some,Option.some.injEq] at hx
          rw [← hx]
          refine if_neg fun ht=>?_
          rcases gnet_arc hl hr (gflow_at hz).1 with ⟨q1,q2⟩ | ⟨k',e',q1,q2,q3⟩ | ⟨i',q1,q2,q3⟩
          · rw [q2] at ht; simp only at ht; omega
          · rw [q3] at ht; simp only at ht
            have:=hg.edge e' (List.mem_of_getElem? q2)
            omega
          · rw [q3] at ht; simp only at ht; omega
    have hin:=sum_two (inS (2 + g.left + a.r) ((gnet g).arcs.zip f)) (nl + i) (nl + k) (f.getD (nl + i) 0) (f.getD (nl + k) 0) (fun z hz=>by
      obtain ⟨p,hp,rfl⟩:=List.mem_map.1 hz
      have:=hnn p hp
      split <;> omega) (by omega) (by unfold inS; rw [List.getElem?_map,z1]; exact congrArg some (if_pos rfl))
      (by unfold inS; rw [List.getElem?_map,z2]; exact congrArg some (if_pos (by show 2 + g.left + b.r = 2 + g.left + a.r; omega)))
    omega
theorem flow_match (hg : g.Right) (hf : IsFlow (gnet g) f) (hl : g.left = nl) (hr : g.right = nr) : IsMatch g (pairsL f nl g.edges.length):=by
  refine ⟨pairsL_rise _ _ _,fun x hx=>?_,?_⟩
  · obtain ⟨i,h1,_,rfl⟩:=mem_pairsL.1 hx; omega
  · refine (pairsL_rise f nl g.edges.length).imp_of_mem ?_
    intro x y hx hy hxy a b ha hb
    obtain ⟨i,h1,h2,rfl⟩:=mem_pairsL.1 hx
    obtain ⟨k,h3,h4,rfl⟩:=mem_pairsL.1 hy
    rw [Int.toNat_natCast] at ha hb
    exact gflow_apart hg hf hl hr (by omega) ha hb h2 h4
def leftS (nl : Nat) : List Int:=1 :: (List.range nl).map fun (i : Nat)=>((3 + i : Nat) : Int)
theorem mem_leftS {x : Int} : x ∈ leftS nl ↔ x = 1 ∨ (3 ≤ x ∧ x < 3 + nl):=by
  unfold leftS
  rw [List.mem_cons,List.mem_map]
  constructor
  · rintro (h | ⟨i,h,rfl⟩)
    · exact .inl h
    · have:=List.mem_range.1 h; right; omega
  · rintro (h | h)
    · exact .inl h
    · exact .inr ⟨(x - 3).toNat,List.mem_range.2 (by omega),by omega⟩
theorem leftS_cut (hg : g.Right) (hl : g.left = nl) : IsCut (gnet g) (leftS nl):=by
  have hgl:=hg.left
  have hgr:=hg.right
  refine ⟨?_,fun x hx=>?_,mem_leftS.2 (.inl rfl),fun h=>?_⟩
  · unfold leftS
    rw [List.pairwise_cons]
    refine ⟨fun x hx=>?_,?_⟩
    · obtain ⟨i,_,rfl⟩:=List.mem_map.1 hx; omega
    · rw [List.pairwise_map]
      exact List.pairwise_lt_range.imp fun h=>by omega
  · have:=mem_leftS.1 hx
    show 1 ≤ x ∧ x ≤ 2 + g.left + g.right
    omega
  · have:=mem_leftS.1 h
    have e : (gnet g).snk = 2:=rfl
    omega
theorem pairs_sum (hf : IsFlow (gnet g) f) (hl : g.left = nl) : ∀ k,k ≤ g.edges.length → ((pairsL f nl k).length : Int) = ((f.drop nl).take k).sum
  | 0,_=>by simp [pairsL]
  | k + 1,hk=>by
    have ih:=pairs_sum hf hl k (by omega)
    have he : g.edges[k]? = some g.edges[k]:=List.getElem?_eq_getElem hk
    obtain ⟨_,y1,y2⟩:=gflow_get hf (gnet_arcE hl he)
    have hlen:=hf.len
    rw [gnet_len] at hlen
    have hx : (f.drop nl)[k]? = some (f.getD (nl + k) 0):=by rw [List.getElem?_drop,List.getD_eq_getElem?_getD,List.getElem?_eq_getElem (by omega)]; rfl
    rw [pairsL_succ,List.take_add_one,hx,List.length_append,List.sum_append,← ih]
    generalize f.getD (nl + k) 0 = z at y1 y2
    by_cases hz : 0 < z
    · rw [if_pos hz]; simp; omega
    · rw [if_neg hz]; simp; omega
theorem flow_pairs (hg : g.Right) (hf : IsFlow (gnet g) f) (hl : g.left = nl) (hr : g.right = nr) : exZ ((gnet g).arcs.zip f) 2 = (pairsL f nl g.edges.length).length:=by
  have hgl:=hg.left
  have hgr:=hg.right
  have hlen:=hf.len
  rw [gnet_len] at hlen
  have hc : exZ ((gnet g).arcs.zip f) 2 = _:=value_cut (gnet_right hg) hf (leftS_cut hg hl)
  rw [hc,pairs_sum hf hl _ (Nat.le_refl _)]
  have hsplit : f = f.take nl ++ (f.drop nl).take g.edges.length ++ (f.drop nl).drop g.edges.length:=by rw [List.append_assoc,List.take_append_drop,List.take_append_drop]
  have hl' : g.left.toNat = nl:=by omega
  have hz : (gnet g).arcs.zip f = (((List.range g.left.toNat).map fun (i : Nat)=>(⟨1,3 + i,1⟩ : Arc)).zip (f.take nl)) ++ ((g.edges.map fun e=>(⟨2 + e.l,2 + g.left + e.r,1⟩ : Arc)).zip ((f.drop nl).take g.edges.length)) ++ (((List.range g.right.toNat).map fun (i : Nat)=>(⟨3 + g.left + i,2,1⟩ : Arc)).zip ((f.drop nl).drop g.edges.length)):=by
    conv=>lhs; rw [hsplit]
    unfold gnet
    simp only
    rw [List.zip_append (by simp; omega),List.zip_append (by simp; omega)]
  rw [hz]
  unfold outIn
  rw [List.map_append,List.map_append,List.sum_append,List.sum_append]
  have e1 : ∀ (L : List Int),(∀ x ∈ L,x = 0) → L.sum = 0:=sum_noughts
  rw [e1 _ (fun x hx => by
      obtain ⟨p,hp,rfl⟩:=List.mem_map.1 hx
      obtain ⟨i,hi,hpi⟩:=List.mem_map.1 (List.of_mem_zip hp).1
      have:=List.mem_range.1 hi
      rw [← hpi]
      simp only
      rw [if_pos (mem_leftS.2 (.inl rfl)),if_pos (mem_leftS.2 (.inr (by omega)))]
      omega),
    e1 (((List.range g.right.toNat).map fun (i : Nat)=>(⟨3 + g.left + i,2,1⟩ : Arc)).zip _ |>.map _) (fun x hx=>by
      obtain ⟨p,hp,rfl⟩:=List.mem_map.1 hx
      obtain ⟨i,hi,hpi⟩:=List.mem_map.1 (List.of_mem_zip hp).1
      rw [← hpi]
      simp only
      rw [if_neg (fun h=>by have:=mem_leftS.1 h; omega),if_neg (fun h=>by have:=mem_leftS.1 h; omega)]
      rfl)]
  have e2 : ((g.edges.map fun e=>(⟨2 + e.l,2 + g.left + e.r,1⟩ : Arc)).zip ((f.drop nl).take g.edges.length)).map (fun p : Arc × Int=>(if p.1.fr ∈ leftS nl then p.2 else 0) - (if p.1.to ∈ leftS nl then p.2 else 0)) = ((g.edges.map fun e=>(⟨2 + e.l,2 + g.left + e.r,1⟩ : Arc)).zip ((f.drop nl).take g.edges.length)).map (·.2):=by
    refine List.map_congr_left fun p hp=>?_
    obtain ⟨e,he,hpe⟩:=List.mem_map.1 (List.of_mem_zip hp).1
    have hb:=hg.edge e he
    rw [← hpe]
    simp only
    rw [if_pos (mem_leftS.2 (.inr (by omega))),if_neg (fun h=>by have:=mem_leftS.1 h; omega)]
    omega
  rw [e2,List.map_snd_zip (by simp; omega)]
  omega
theorem pairs_best (hg : g.Right) (hf : MaxFlow (gnet g) f) (hl : g.left = nl) (hr : g.right = nr) : IsMatch g (pairsL f nl g.edges.length) ∧ ∀ l,IsMatch g l → l.length ≤ (pairsL f nl g.edges.length).length:=by
  refine ⟨flow_match hg hf.1 hl hr,fun l hM=>?_⟩
  obtain ⟨f',h1,h2,_⟩:=match_flow hg hM hl hr l.length (Nat.le_refl _)
  have h3 : exZ ((gnet g).arcs.zip f') 2 ≤ exZ ((gnet g).arcs.zip f) 2:=max_value (gnet_right hg) hf h1
  rw [h2,flow_pairs hg hf.1 hl hr] at h3
  omega
end
end Go.Proofs.Ytdhenmmmkdhonaa
