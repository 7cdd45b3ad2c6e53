
/- Matchings and covers: no matching has more edges than a cover has nodes, and where they are as many. -/
import Derived.Test.YtdhenmmmkdhonaaOfR
set_option linter.unusedVariables false
set_option linter.unusedSimpArgs false
namespace Go.Proofs.Ytdhenmmmkdhonaa
theorem nodup_len : ∀ (l m : List Int),l.Nodup → (∀ x ∈ l,x ∈ m) → l.length ≤ m.length
  | [],_,_,_=>Nat.zero_le _
  | x :: l,m,hn,hs=>by
    have h1:=List.nodup_cons.1 hn
    have hx:=hs x (by simp)
    have ih:=nodup_len l (m.erase x) h1.2 fun y hy=>by
      have hne : y ≠ x:=fun e=>h1.1 (by rw [← e]; exact hy)
      rw [List.mem_erase_of_ne hne]
      exact hs y (by simp [hy])
    rw [List.length_erase_of_mem hx] at ih
    have : 0 < m.length:=List.length_pos_of_mem hx
    rw [List.length_cons]; omega
theorem filter_len (p : Int → Bool) : ∀ l : List Int,(l.filter p).length + (l.filter fun x=>!p x).length = l.length
  | []=>rfl
  | x :: l=>by
    have ih:=filter_len p l
    simp only [List.filter_cons,List.length_cons]
    cases p x <;> simp <;> omega
def eL (g : Gr) (x : Int) : Int:=match g.edges[x.toNat]? with | some e=>e.l | none=>0
def eR (g : Gr) (x : Int) : Int:=match g.edges[x.toNat]? with | some e=>e.r | none=>0
theorem eL_of {g : Gr} {x : Int} {e : Edg} (h : g.edges[x.toNat]? = some e) : eL g x = e.l:=by unfold eL; rw [h]
theorem eR_of {g : Gr} {x : Int} {e : Edg} (h : g.edges[x.toNat]? = some e) : eR g x = e.r:=by unfold eR; rw [h]
section
variable {g : Gr} {l sl sr : List Int}
theorem IsMatch.at (hM : IsMatch g l) {x : Int} (hx : x ∈ l) : ∃ e,g.edges[x.toNat]? = some e ∧ e ∈ g.edges:=by
  have:=hM.rng x hx
  have h : g.edges[x.toNat]? = some (g.edges[x.toNat]'(by omega)):=List.getElem?_eq_getElem (by omega)
  exact ⟨_,h,List.mem_of_getElem? h⟩
theorem IsMatch.apartL (hM : IsMatch g l) : l.Pairwise fun x y=>eL g x ≠ eL g y ∧ eR g x ≠ eR g y:=by
  refine hM.apart.imp_of_mem ?_
  intro x y hx hy h
  obtain ⟨a,ha,_⟩:=hM.at hx
  obtain ⟨b,hb,_⟩:=hM.at hy
  have:=h a b ha hb
  rw [eL_of ha,eL_of hb,eR_of ha,eR_of hb]
  exact this
theorem IsMatch.nodL (hM : IsMatch g l) (p : Int → Bool) : ((l.filter p).map (eL g)).Nodup:=by
  rw [List.nodup_iff_pairwise_ne,List.pairwise_map]
  exact (hM.apartL.imp fun h=>h.1).filter _
theorem IsMatch.nodR (hM : IsMatch g l) (p : Int → Bool) : ((l.filter p).map (eR g)).Nodup:=by
  rw [List.nodup_iff_pairwise_ne,List.pairwise_map]
  exact (hM.apartL.imp fun h=>h.2).filter _
theorem IsSide.nodup {m : Int} {s : List Int} (h : IsSide m s) : s.Nodup:=h.rise.imp fun h=>by omega
theorem cover_parts (hM : IsMatch g l) (hC : IsCover g sl sr) : (∀ y ∈ (l.filter fun x=>decide (eL g x ∈ sl)).map (eL g),y ∈ sl) ∧ (∀ y ∈ (l.filter fun x=>!decide (eL g x ∈ sl)).map (eR g),y ∈ sr):=by
  constructor
  · intro y hy
    obtain ⟨x,hx,rfl⟩:=List.mem_map.1 hy
    simpa using (List.mem_filter.1 hx).2
  · intro y hy
    obtain ⟨x,hx,rfl⟩:=List.mem_map.1 hy
    obtain ⟨hxl,hno⟩:=List.mem_filter.1 hx
    have hno' : ¬ eL g x ∈ sl:=by simpa using hno
    obtain ⟨e,he,hem⟩:=hM.at hxl
    rw [eL_of he] at hno'
    rw [eR_of he]
    exact (hC.meet e hem).resolve_left hno'
theorem cover_most (hM : IsMatch g l) (hC : IsCover g sl sr) : l.length ≤ sl.length + sr.length:=by
  obtain ⟨h1,h2⟩:=cover_parts hM hC
  have k1:=nodup_len _ _ (hM.nodL _) h1
  have k2:=nodup_len _ _ (hM.nodR _) h2
  have k3:=filter_len (fun x=>decide (eL g x ∈ sl)) l
  rw [List.length_map] at k1 k2
  omega
theorem of_cover (hg : g.Right) (hM : IsMatch g l) (hno : ∀ w, AltR g l w → Met g (·.r) l w) (hsl : IsSide g.left sl) (hsr : IsSide g.right sr) (hl : ∀ v : Nat, 1 ≤ v → (v : Int) ≤ g.left → ((v : Int) ∈ sl ↔ ¬ AltL g l v)) (hr : ∀ w : Nat, 1 ≤ w → (w : Int) ≤ g.right → ((w : Int) ∈ sr ↔ AltR g l w)) :
    IsCover g sl sr ∧ sl.length + sr.length = l.length:=by
  have hlE : ∀ e ∈ g.edges,(e.l ∈ sl ↔ ¬ AltL g l e.l.toNat):=fun e he=>by
    have hb:=hg.edge e he
    have:=hl e.l.toNat (by omega) (by omega)
    rwa [show ((e.l.toNat : Nat) : Int) = e.l by omega] at this
  have hrE : ∀ e ∈ g.edges,(e.r ∈ sr ↔ AltR g l e.r.toNat):=fun e he=>by
    have hb:=hg.edge e he
    have:=hr e.r.toNat (by omega) (by omega)
    rwa [show ((e.r.toNat : Nat) : Int) = e.r by omega] at this
  have hC : IsCover g sl sr:=by
    refine ⟨hsl,hsr,fun e he=>?_⟩
    have hb:=hg.edge e he
    by_cases h : AltL g l e.l.toNat
    · exact .inr ((hrE e he).2 ⟨e,he,h,by omega⟩)
    · exact .inl ((hlE e he).2 h)
  refine ⟨hC,?_⟩
  have k0:=cover_most hM hC
  have k3:=filter_len (fun x=>decide (eL g x ∈ sl)) l
  -- each node of the cover is of a pair
  have k1:=nodup_len sl ((l.filter fun x=>decide (eL g x ∈ sl)).map (eL g)) hsl.nodup fun v hv=>by
    have hvr:=hsl.rng v hv
    have hn:=(hl v.toNat (by omega) (by omega)).1 (by rw [show ((v.toNat : Nat) : Int) = v by omega]; exact hv)
    have hm : Met g (·.l) l v:=Classical.byContradiction fun h=>hn (.free v.toNat (by omega) (by omega) (by rw [show ((v.toNat : Nat) : Int) = v by omega]; exact h))
    obtain ⟨x,hx,e,he,hel⟩:=hm
    have hel' : eL g x = v:=by rw [eL_of he]; exact hel
    exact List.mem_map.2 ⟨x,List.mem_filter.2 ⟨hx,by rw [hel']; simpa using hv⟩,hel'⟩
  have k2:=nodup_len sr ((l.filter fun x=>!decide (eL g x ∈ sl)).map (eR g)) hsr.nodup fun w hw=>by
    have hwr:=hsr.rng w hw
    have ha:=(hr w.toNat (by omega) (by omega)).1 (by rw [show ((w.toNat : Nat) : Int) = w by omega]; exact hw)
    obtain ⟨x,hx,a,hxa,har⟩:=hno _ ha
    have har' : a.r = w:=by have : a.r = ((w.toNat : Nat) : Int):=har; omega
    obtain ⟨e,he,hal,her⟩:=ha
    have hal2 : AltL g l a.l.toNat:=.step e a x hal he hx hxa (by omega)
    have hnl : a.l ∉ sl:=fun h=>(hlE a (List.mem_of_getElem? hxa)).1 h hal2
    refine List.mem_map.2 ⟨x,List.mem_filter.2 ⟨hx,?_⟩,by rw [eR_of hxa]; exact har'⟩
    rw [eL_of hxa]; simpa using hnl
  rw [List.length_map] at k1 k2
  omega
end
/-! ### A greatest flow's pairs -/
theorem closed_fwd {N : Net} {f s : List Int} (hf : IsFlow N f) (hc : Closed N f s) {j : Nat} {a : Arc} (ha : N.arcs[j]? = some a) (h : f.getD j 0 + 1 ≤ a.cap) (hin : a.fr ∈ s) : a.to ∈ s:=by
  have hj:=(List.getElem?_eq_some_iff.1 ha).1
  have hl:=hf.len
  have hx : f[j]? = some (f.getD j 0):=by rw [List.getD_eq_getElem?_getD,List.getElem?_eq_getElem (by omega)]; rfl
  obtain ⟨g1,_⟩:=roomL_get (zip_some ha hx)
  have he : endsZ N (2 * j) = (a.fr,a.to):=by
    unfold endsZ
    rw [show 2 * j / 2 = j by omega,ha]
    simp only
    unfold endsOf
    rw [if_neg (by omega)]
  have:=hc (2 * j) (by omega) (by rw [List.getD_eq_getElem?_getD,g1,Option.getD_some]; simp only; omega) (by rw [he]; exact hin)
  rwa [he] at this
theorem closed_back {N : Net} {f s : List Int} (hf : IsFlow N f) (hc : Closed N f s) {j : Nat} {a : Arc} (ha : N.arcs[j]? = some a) (h : 1 ≤ f.getD j 0) (hin : a.to ∈ s) : a.fr ∈ s:=by
  have hj:=(List.getElem?_eq_some_iff.1 ha).1
  have hl:=hf.len
  have hx : f[j]? = some (f.getD j 0):=by rw [List.getD_eq_getElem?_getD,List.getElem?_eq_getElem (by omega)]; rfl
  obtain ⟨_,g2⟩:=roomL_get (zip_some ha hx)
  have he : endsZ N (2 * j + 1) = (a.to,a.fr):=by
    unfold endsZ
    rw [show (2 * j + 1) / 2 = j by omega,ha]
    simp only
    unfold endsOf
    rw [if_pos (by omega)]
  have:=hc (2 * j + 1) (by omega) (by rw [List.getD_eq_getElem?_getD,g2,Option.getD_some]; exact h) (by rw [he]; exact hin)
  rwa [he] at this
section
variable {g : Gr} {nl nr : Nat} {f : List Int}
theorem free_left (hg : g.Right) (hf : IsFlow (gnet g) f) (hl : g.left = nl) (hr : g.right = nr) {v : Nat} (h1 : 1 ≤ v) (h2 : v ≤ nl) (hno : ¬ Met g (·.l) (pairsL f nl g.edges.length) v) : f.getD (v - 1) 0 = 0:=by
  have hgl:=hg.left
  have hgr:=hg.right
  have hk:=hf.kept (2 + v) (by show 1 ≤ 2 + (v : Int) ∧ 2 + (v : Int) ≤ 2 + g.left + g.right; omega) (by show 2 + (v : Int) ≠ 1; omega) (by show 2 + (v : Int) ≠ 2; omega)
  rw [exZ_split] at hk
  obtain ⟨z3,y3,_⟩:=gflow_get hf (gnet_arcL (g:=g) hl (i:=v - 1) (by omega))
  have hin : (inS (2 + v) ((gnet g).arcs.zip f)).sum = f.getD (v - 1) 0:=by
    rw [sum_at _ (v - 1)]
    · unfold inS
      rw [List.getD_eq_getElem?_getD,List.getElem?_map,z3]
      exact if_pos (by show 3 + ((v - 1 : Nat) : Int) = 2 + v; omega)
    · intro j x hx hne
      unfold inS at hx
      rw [List.getElem?_map] at hx
      cases hz : ((gnet g).arcs.zip f)[j]? with
      | none=>rw [hz] at hx; simp at hx
      | some p =>
        rw [hz] at hx
        simp only [Option.map_some,Option.some.injEq] at hx
        rw [← hx]
        refine if_neg fun ht=>?_
        rcases gnet_arc hl hr (gflow_at hz).1 with ⟨q1,q2⟩ | ⟨k',e',q1,q2,q3⟩ | ⟨i',q1,q2,q3⟩
        · rw [q2] at ht; simp only at ht; omega
        · rw [q3] at ht; simp only at ht
          have:=hg.edge e' (List.mem_of_getElem? q2)
          omega
        · rw [q3] at ht; simp only at ht; omega
  have hout : (outS (2 + v) ((gnet g).arcs.zip f)).sum = 0:=by
    refine sum_noughts _ fun x hx=>?_
    obtain ⟨j,hj,rfl⟩:=List.mem_iff_getElem.1 hx
    have hx' : (outS (2 + v) ((gnet g).arcs.zip f))[j]? = some _:=List.getElem?_eq_getElem hj
    unfold outS at hx'
    rw [List.getElem?_map] at hx'
    cases hz : ((gnet g).arcs.zip f)[j]? with
    | none=>rw [hz] at hx'; simp at hx'
    | some p =>
      rw [hz] at hx'
      simp only [Option.map_some,Option.some.injEq] at hx'
      unfold outS
      rw [← hx']
      by_cases ht : p.1.fr = 2 + v
      · rw [if_pos ht]
        obtain ⟨g1,g2⟩:=gflow_at hz
        rcases gnet_arc hl hr g1 with ⟨q1,q2⟩ | ⟨k',e',q1,q2,q3⟩ | ⟨i',q1,q2,q3⟩
        · rw [q2] at ht; simp only at ht; omega
        · rw [q3] at ht; simp only at ht
          have hp:=hf.all p (List.mem_of_getElem? hz)
          refine Classical.byContradiction fun h0=>hno ⟨k',mem_pairsL.2 ⟨k',(List.getElem?_eq_some_iff.1 q2).1,?_,rfl⟩,e',by rw [Int.toNat_natCast]; exact q2,by show e'.l = _; omega⟩
          rw [← q1,g2]; omega
        · rw [q3] at ht; simp only at ht; omega
      · exact if_neg ht
  omega
theorem free_right (hg : g.Right) (hf : IsFlow (gnet g) f) (hl : g.left = nl) (hr : g.right = nr) {w : Nat} (h1 : 1 ≤ w) (h2 : w ≤ nr) (hno : ¬ Met g (·.r) (pairsL f nl g.edges.length) w) : f.getD (nl + g.edges.length + (w - 1)) 0 = 0:=by
  have hgl:=hg.left
  have hgr:=hg.right
  have hk:=hf.kept (2 + g.left + w) (by show 1 ≤ 2 + g.left + (w : Int) ∧ 2 + g.left + (w : Int) ≤ 2 + g.left + g.right; omega) (by show 2 + g.left + (w : Int) ≠ 1; omega) (by show 2 + g.left + (w : Int) ≠ 2; omega)
  rw [exZ_split] at hk
  obtain ⟨z3,y3,_⟩:=gflow_get hf (gnet_arcR (g:=g) hl hr (i:=w - 1) (by omega))
  have hout : (outS (2 + g.left + w) ((gnet g).arcs.zip f)).sum = f.getD (nl + g.edges.length + (w - 1)) 0:=by
    rw [sum_at _ (nl + g.edges.length + (w - 1))]
    · unfold outS
      rw [List.getD_eq_getElem?_getD,List.getElem?_map,z3]
      exact if_pos (by show 3 + g.left + ((w - 1 : Nat) : Int) = 2 + g.left + w; omega)
    · intro j x hx hne
      unfold outS at hx
      rw [List.getElem?_map] at hx
      cases hz : ((gnet g).arcs.zip f)[j]? with
      | none=>rw [hz] at hx; simp at hx
      | some p =>
        rw [hz] at hx
        simp only [Option.map_some,Option.some.injEq] at hx
        rw [← hx]
        refine if_neg fun ht=>?_
        rcases gnet_arc hl hr (gflow_at hz).1 with ⟨q1,q2⟩ | ⟨k',e',q1,q2,q3⟩ | ⟨i',q1,q2,q3⟩
        · rw [q2] at ht; simp only at ht; omega
        · rw [q3] at ht; simp only at ht
          have:=hg.edge e' (List.mem_of_getElem? q2)
          omega
        · rw [q3] at ht; simp only at ht; omega
  have hin : (inS (2 + g.left + w) ((gnet g).arcs.zip f)).sum = 0:=by
    refine sum_noughts _ fun x hx=>?_
    obtain ⟨j,hj,rfl⟩:=List.mem_iff_getElem.1 hx
    have hx' : (inS (2 + g.left + w) ((gnet g).arcs.zip f))[j]? = some _:=List.getElem?_eq_getElem hj
    unfold inS at hx'
    rw [List.getElem?_map] at hx'
    cases hz : ((gnet g).arcs.zip f)[j]? with
    | none=>rw [hz] at hx'; simp at hx'
    | some p =>
      rw [hz] at hx'
      simp only [Option.map_some,Option.some.injEq] at hx'
      unfold inS
      rw [← hx']
      by_cases ht : p.1.to = 2 + g.left + w
      · rw [if_pos ht]
        obtain ⟨g1,g2⟩:=gflow_at hz
        rcases gnet_arc hl hr g1 with ⟨q1,q2⟩ | ⟨k',e',q1,q2,q3⟩ | ⟨i',q1,q2,q3⟩
        · rw [q2] at ht; simp only at ht; omega
        · rw [q3] at ht; simp only at ht
          have hp:=hf.all p (List.mem_of_getElem? hz)
          refine Classical.byContradiction fun h0=>hno ⟨k',mem_pairsL.2 ⟨k',(List.getElem?_eq_some_iff.1 q2).1,?_,rfl⟩,e',by rw [Int.toNat_natCast]; exact q2,by show e'.r = _; omega⟩
          rw [← q1,g2]; omega
        · rw [q3] at ht; simp only at ht; omega
      · exact if_neg ht
  omega
theorem flow_no_more (hg : g.Right) (hf : MaxFlow (gnet g) f) (hl : g.left = nl) (hr : g.right = nr) : ∀ w,AltR g (pairsL f nl g.edges.length) w → Met g (·.r) (pairsL f nl g.edges.length) w:=by
  have hgl:=hg.left
  have hgr:=hg.right
  have hM:=flow_match hg hf.1 hl hr
  obtain ⟨s,hs,hc⟩:=max_cut (gnet_right hg) hf
  have hsrc : (1 : Int) ∈ s:=hs.src
  have hsnk : (2 : Int) ∉ s:=hs.snk
  -- an edge out of a node that is come to
  have edge : ∀ e ∈ g.edges,2 + e.l ∈ s → (∀ x ∈ pairsL f nl g.edges.length,∀ a,g.edges[x.toNat]? = some a → a.l = e.l → 2 + g.left + a.r ∈ s) → 2 + g.left + e.r ∈ s:=by
    intro e he hin hp
    obtain ⟨k,hk,rfl⟩:=List.mem_iff_getElem.1 he
    have hke : g.edges[k]? = some g.edges[k]:=List.getElem?_eq_getElem hk
    by_cases h0 : 0 < f.getD (nl + k) 0
    · exact hp k (mem_pairsL.2 ⟨k,hk,h0,rfl⟩) g.edges[k] (by rw [Int.toNat_natCast]; exact hke) rfl
    · exact closed_fwd hf.1 hc (gnet_arcE hl hke) (by show f.getD (nl + k) 0 + 1 ≤ 1; omega) hin
  have key : ∀ v,AltL g (pairsL f nl g.edges.length) v → (1 ≤ v ∧ v ≤ nl) ∧ 2 + (v : Int) ∈ s ∧ ∀ x ∈ pairsL f nl g.edges.length,∀ a,g.edges[x.toNat]? = some a → a.l = v → 2 + g.left + a.r ∈ s:=by
    intro v hv
    induction hv with
    | free v h1 h2 hno =>
      refine ⟨⟨h1,by omega⟩,?_,fun x hx a ha hal=>absurd ⟨x,hx,a,ha,hal⟩ hno⟩
      have h0:=free_left hg hf.1 hl hr h1 (by omega) hno
      have:=closed_fwd hf.1 hc (gnet_arcL (g:=g) hl (i:=v - 1) (by omega)) (by show f.getD (v - 1) 0 + 1 ≤ 1; omega) hsrc
      rwa [show (3 : Int) + ((v - 1 : Nat) : Int) = 2 + v by omega] at this
    | step e a x _ he hx ha har ih =>
      have hb:=hg.edge e he
      have hab:=hg.edge a (List.mem_of_getElem? ha)
      obtain ⟨_,ih1,ih2⟩:=ih
      have her:=edge e he (by rwa [show ((e.l.toNat : Nat) : Int) = e.l by omega] at ih1) fun y hy b hb' hbl=>ih2 y hy b hb' (by omega)
      obtain ⟨k,hk,hpos,rfl⟩:=mem_pairsL.1 hx
      rw [Int.toNat_natCast] at ha
      have hlin:=closed_back hf.1 hc (gnet_arcE hl ha) (by omega) (by show 2 + g.left + a.r ∈ s; rw [har]; exact her)
      refine ⟨by omega,by rw [show ((a.l.toNat : Nat) : Int) = a.l by omega]; exact hlin,fun y hy b hb' hbl=>?_⟩
      have hyk : y = (k : Int):=match_left hM hy hx hb' (by rw [Int.toNat_natCast]; exact ha) (.inl (by omega))
      rw [hyk,Int.toNat_natCast,ha] at hb'
      rw [← Option.some.inj hb',har]
      exact her
  rintro w ⟨e,he,hal,her⟩
  have hb:=hg.edge e he
  obtain ⟨_,k1,k2⟩:=key _ hal
  have hw:=edge e he (by rwa [show ((e.l.toNat : Nat) : Int) = e.l by omega] at k1) fun y hy b hb' hbl=>k2 y hy b hb' (by omega)
  refine Classical.byContradiction fun hno=>hsnk ?_
  have h0:=free_right hg hf.1 hl hr (w:=w) (by omega) (by omega) hno
  exact closed_fwd hf.1 hc (gnet_arcR (g:=g) hl hr (i:=w - 1) (by omega)) (by show f.getD (nl + g.edges.length + (w - 1)) 0 + 1 ≤ 1; omega) (by show 3 + g.left + ((w - 1 : Nat) : Int) ∈ s; rwa [show 3 + g.left + ((w - 1 : Nat) : Int) = 2 + g.left + e.r by omega])
end
end Go.Proofs.Ytdhenmmmkdhonaa
