/- The engine and the words that all chapters share: several texts in one. -/
import Derived.Test.YtdhenmmmkdhonaaCovQ

/- A graph turned. -/
set_option linter.unusedVariables false
set_option linter.unusedSimpArgs false
namespace Go.Proofs.Ytdhenmmmkdhonaa
theorem proveZ_ok {g : Gr} {l sl sr : List Int} (hM : IsMatch g l) (hC : IsCover g sl sr) (h : sl.length + sr.length = l.length) : proveZ g l sl sr = 0:=by
  unfold proveZ
  rw [cdec_yes ⟨hM,hC⟩,if_pos rfl,if_pos h]
theorem edgs_at {l : List Edg} {A B : Option Addr} (h : edgs l ≠ [] → A = B) (hl : l ≠ []) : A = B:=h fun h0=>by
  have h5 : (edgs l).length = 0:=by rw [h0]; rfl
  rw [edgs_length] at h5
  exact hl (List.length_eq_zero_iff.1 (by omega))
theorem ints_at {l : List Int} {A B : Option Addr} (h : ints l ≠ [] → A = B) (hl : l ≠ []) : A = B:=h fun h0=>by
  have h5 : (ints l).length = 0:=by rw [h0]; rfl
  rw [ints_length] at h5
  exact hl (List.length_eq_zero_iff.1 h5)
end Go.Proofs.Ytdhenmmmkdhonaa


/- The first cut of a greatest flow of a graph's network, and the cover: as many nodes as the source, the nodes of the left side that are not of the cover, and those of the right side that are. -/
set_option linter.unusedVariables false
set_option linter.unusedSimpArgs false
namespace Go.Proofs.Ytdhenmmmkdhonaa
open Go.RowKit
section
variable {g : Gr} {nl nr : Nat} {f : List Int}
theorem alt_in (hg : g.Right) (hf : MaxFlow (gnet g) f) (hl : g.left = nl) (hr : g.right = nr) {s : List Int} (hs : IsCut (gnet g) s) (hc : Closed (gnet g) f s) :
    (∀ v,AltL g (pairsL f nl g.edges.length) v → (1 ≤ v ∧ v ≤ nl) ∧ 2 + (v : Int) ∈ s) ∧ ∀ w,AltR g (pairsL f nl g.edges.length) w → (1 ≤ w ∧ w ≤ nr) ∧ 2 + g.left + (w : Int) ∈ s:=by
  have hgl:=hg.left
  have hgr:=hg.right
  have hM:=flow_match hg hf.1 hl hr
  have hsrc : (1 : Int) ∈ s:=hs.src
  have edge : ∀ e ∈ g.edges,2 + e.l ∈ s → (∀ x ∈ pairsL f nl g.edges.length,∀ a,g.edges[x.toNat]? = some a → a.l = e.l → 2 + g.left + a.r ∈ s) → 2 + g.left + e.r ∈ s:=by
    intro e he hin hp
    obtain ⟨k,hk,rfl⟩:=List.mem_iff_getElem.1 he
    have hke : g.edges[k]? = some g.edges[k]:=List.getElem?_eq_getElem hk
    by_cases h0 : 0 < f.getD (nl + k) 0
    · exact hp k (mem_pairsL.2 ⟨k,hk,h0,rfl⟩) g.edges[k] (by rw [Int.toNat_natCast]; exact hke) rfl
    · exact closed_fwd hf.1 hc (gnet_arcE hl hke) (by show f.getD (nl + k) 0 + 1 ≤ 1; omega) hin
  have key : ∀ v,AltL g (pairsL f nl g.edges.length) v → (1 ≤ v ∧ v ≤ nl) ∧ 2 + (v : Int) ∈ s ∧ ∀ x ∈ pairsL f nl g.edges.length,∀ a,g.edges[x.toNat]? = some a → a.l = v → 2 + g.left + a.r ∈ s:=by
    intro v hv
    induction hv with
    | free v h1 h2 hno =>
      refine ⟨⟨h1,by omega⟩,?_,fun x hx a ha hal=>absurd ⟨x,hx,a,ha,hal⟩ hno⟩
      have h0:=free_left hg hf.1 hl hr h1 (by omega) hno
      have:=closed_fwd hf.1 hc (gnet_arcL (g:=g) hl (i:=v - 1) (by omega)) (by show f.getD (v - 1) 0 + 1 ≤ 1; omega) hsrc
      rwa [show (3 : Int) + ((v - 1 : Nat) : Int) = 2 + v by omega] at this
    | step e a x _ he hx ha har ih =>
      have hb:=hg.edge e he
      have hab:=hg.edge a (List.mem_of_getElem? ha)
      obtain ⟨_,ih1,ih2⟩:=ih
      have her:=edge e he (by rwa [show ((e.l.toNat : Nat) : Int) = e.l by omega] at ih1) fun y hy b hb' hbl=>ih2 y hy b hb' (by omega)
      obtain ⟨k,hk,hpos,rfl⟩:=mem_pairsL.1 hx
      rw [Int.toNat_natCast] at ha
      have hlin:=closed_back hf.1 hc (gnet_arcE hl ha) (by omega) (by show 2 + g.left + a.r ∈ s; rw [har]; exact her)
      refine ⟨by omega,by rw [show ((a.l.toNat : Nat) : Int) = a.l by omega]; exact hlin,fun y hy b hb' hbl=>?_⟩
      have hyk : y = (k : Int):=match_left hM hy hx hb' (by rw [Int.toNat_natCast]; exact ha) (.inl (by omega))
      rw [hyk,Int.toNat_natCast,ha] at hb'
      rw [← Option.some.inj hb',har]
      exact her
  refine ⟨fun v hv=>⟨(key v hv).1,(key v hv).2.1⟩,?_⟩
  rintro w ⟨e,he,hal,her⟩
  have hb:=hg.edge e he
  obtain ⟨_,k1,k2⟩:=key _ hal
  have hw:=edge e he (by rwa [show ((e.l.toNat : Nat) : Int) = e.l by omega] at k1) fun y hy b hb' hbl=>k2 y hy b hb' (by omega)
  exact ⟨by omega,by rw [← her]; exact hw⟩
theorem met_right (hg : g.Right) (hf : IsFlow (gnet g) f) (hl : g.left = nl) (hr : g.right = nr) {w : Nat} (h1 : 1 ≤ w) (h2 : w ≤ nr) (hm : Met g (·.r) (pairsL f nl g.edges.length) w) : 1 ≤ f.getD (nl + g.edges.length + (w - 1)) 0:=by
  have hgl:=hg.left
  have hgr:=hg.right
  have hk:=hf.kept (2 + g.left + w) (by show 1 ≤ 2 + g.left + (w : Int) ∧ 2 + g.left + (w : Int) ≤ 2 + g.left + g.right; omega) (by show 2 + g.left + (w : Int) ≠ 1; omega) (by show 2 + g.left + (w : Int) ≠ 2; omega)
  rw [exZ_split] at hk
  obtain ⟨z3,y3,_⟩:=gflow_get hf (gnet_arcR (g:=g) hl hr (i:=w - 1) (by omega))
  have hout : (outS (2 + g.left + w) ((gnet g).arcs.zip f)).sum = f.getD (nl + g.edges.length + (w - 1)) 0:=by
    rw [sum_at _ (nl + g.edges.length + (w - 1))]
    · unfold outS
      rw [List.getD_eq_getElem?_getD,List.getElem?_map,z3]
      exact if_pos (by show 3 + g.left + ((w - 1 : Nat) : Int) = 2 + g.left + w; omega)
    · intro j x hx hne
      unfold outS at hx
      rw [List.getElem?_map] at hx
      cases hz : ((gnet g).arcs.zip f)[j]? with
      | none=>rw [hz] at hx; simp at hx
      | some p =>
        rw [hz] at hx
        simp only [Option.map_some,Option.some.injEq] at hx
        rw [← hx]
        refine if_neg fun ht=>?_
        rcases gnet_arc hl hr (gflow_at hz).1 with ⟨q1,q2⟩ | ⟨k',e',q1,q2,q3⟩ | ⟨i',q1,q2,q3⟩
        · rw [q2] at ht; simp only at ht; omega
        · rw [q3] at ht; simp only at ht
          have:=hg.edge e' (List.mem_of_getElem? q2)
          omega
        · rw [q3] at ht; simp only at ht; omega
  obtain ⟨x,hx,a,ha,har⟩:=hm
  obtain ⟨k,hk2,hpos,rfl⟩:=mem_pairsL.1 hx
  rw [Int.toNat_natCast] at ha
  obtain ⟨z4,y4,_⟩:=gflow_get hf (gnet_arcE (g:=g) hl ha)
  have hin : 1 ≤ (inS (2 + g.left + w) ((gnet g).arcs.zip f)).sum:=by
    have hmem : f.getD (nl + k) 0 ∈ inS (2 + g.left + w) ((gnet g).arcs.zip f):=by
      unfold inS
      refine List.mem_map.2 ⟨_,List.mem_of_getElem? z4,if_pos ?_⟩
      have : a.r = (w : Int):=har
      show 2 + g.left + a.r = 2 + g.left + w
      omega
    have:=le_sum_mem (l:=inS (2 + g.left + w) ((gnet g).arcs.zip f)) (fun y hy=>by
      unfold inS at hy
      obtain ⟨p,hp,rfl⟩:=List.mem_map.1 hy
      have:=hf.all p hp
      split <;> omega) hmem
    omega
  omega
theorem reach_alt (hg : g.Right) (hf : MaxFlow (gnet g) f) (hl : g.left = nl) (hr : g.right = nr) {x : Int} (h : Rch (gnet g) (roomL ((gnet g).arcs.zip f)) 1 x) :
    x = 1 ∨ (∃ v : Nat,AltL g (pairsL f nl g.edges.length) v ∧ x = 2 + v) ∨ ∃ w : Nat,AltR g (pairsL f nl g.edges.length) w ∧ x = 2 + g.left + w:=by
  have hgl:=hg.left
  have hgr:=hg.right
  have hM:=flow_match hg hf.1 hl hr
  have hno:=flow_no_more hg hf hl hr
  have hflen:=hf.1.len
  induction h with
  | src=>exact .inl rfl
  | step u r _ h1 h2 h3 ih =>
    rw [roomL_length,List.length_zip,hflen,Nat.min_self] at h1
    obtain ⟨a,ha⟩ : ∃ a,(gnet g).arcs[r / 2]? = some a:=⟨(gnet g).arcs[r / 2]'(by omega),List.getElem?_eq_getElem (by omega)⟩
    have hx : f[r / 2]? = some (f.getD (r / 2) 0):=by rw [List.getD_eq_getElem?_getD,List.getElem?_eq_getElem (by omega)]; rfl
    have hz:=zip_some ha hx
    obtain ⟨g1,g2⟩:=roomL_get hz
    have he : endsZ (gnet g) r = endsOf a r:=by unfold endsZ; rw [ha]
    rw [he] at h2 ⊢
    simp only at g1 g2
    by_cases hm : r % 2 = 1
    · have e : endsOf a r = (a.to,a.fr):=by unfold endsOf; rw [if_pos hm]
      rw [e] at h2 ⊢
      simp only at h2 ⊢
      rw [show 2 * (r / 2) + 1 = r by omega] at g2
      rw [List.getD_eq_getElem?_getD,g2,Option.getD_some] at h3
      rcases gnet_arc hl hr ha with ⟨q1,q2⟩ | ⟨k',e',q1,q2,q3⟩ | ⟨i',q1,q2,q3⟩
      · rw [q2]; exact .inl rfl
      · have hb:=hg.edge e' (List.mem_of_getElem? q2)
        rw [q3] at h2 ⊢
        simp only at h2 ⊢
        rcases ih with ih | ⟨v,hv,ih⟩ | ⟨w,hw,ih⟩
        · omega
        · exfalso
          have : (v : Int) ≤ nl:=by
            obtain ⟨s,hs,hc⟩:=max_cut (gnet_right hg) hf
            have:=((alt_in hg hf hl hr hs hc).1 v hv).1
            omega
          omega
        · obtain ⟨e1,he1,hal1,her1⟩:=id hw
          have hk':=(List.getElem?_eq_some_iff.1 q2).1
          refine .inr (.inl ⟨e'.l.toNat,.step e1 e' (k' : Int) hal1 he1 (mem_pairsL.2 ⟨k',hk',by rw [← q1]; omega,rfl⟩) (by rw [Int.toNat_natCast]; exact q2) (by omega),by omega⟩)
      · rw [q3] at h2
        simp only at h2
        rcases ih with ih | ⟨v,hv,ih⟩ | ⟨w,hw,ih⟩
        · omega
        · have : 1 ≤ v := by
            obtain ⟨s,hs,hc⟩:=max_cut (gnet_right hg) hf
            exact ((alt_in hg hf hl hr hs hc).1 v hv).1.1
          omega
        · omega
    · have e : endsOf a r = (a.fr,a.to):=by unfold endsOf; rw [if_neg hm]
      rw [e] at h2 ⊢
      simp only at h2 ⊢
      rw [show 2 * (r / 2) = r by omega] at g1
      rw [List.getD_eq_getElem?_getD,g1,Option.getD_some] at h3
      rcases gnet_arc hl hr ha with ⟨q1,q2⟩ | ⟨k',e',q1,q2,q3⟩ | ⟨i',q1,q2,q3⟩
      · rw [q2] at h3 ⊢
        simp only at h3 ⊢
        refine .inr (.inl ⟨r / 2 + 1,.free _ (by omega) (by omega) fun ⟨x,hx,a',ha',hal'⟩=>?_,by omega⟩)
        obtain ⟨k,hk,hpos,rfl⟩:=mem_pairsL.1 hx
        rw [Int.toNat_natCast] at ha'
        -- the node is met: what it sends on it gets from the source
        have hb:=hg.edge a' (List.mem_of_getElem? ha')
        have hk0:=hf.1.kept (2 + a'.l) (by show 1 ≤ 2 + a'.l ∧ 2 + a'.l ≤ 2 + g.left + g.right; omega) (by show 2 + a'.l ≠ 1; omega) (by show 2 + a'.l ≠ 2; omega)
        rw [exZ_split] at hk0
        obtain ⟨z4,y4,_⟩:=gflow_get hf.1 (gnet_arcE (g:=g) hl ha')
        have hal2 : a'.l = ((r / 2 + 1 : Nat) : Int):=hal'
        have hin : (inS (2 + a'.l) ((gnet g).arcs.zip f)).sum = f.getD (r / 2) 0:=by
          rw [sum_at _ (r / 2)]
          · unfold inS
            rw [List.getD_eq_getElem?_getD,List.getElem?_map,hz,q2]
            exact if_pos (by show 3 + ((r / 2 : Nat) : Int) = 2 + a'.l; omega)
          · intro j x hx hne
            unfold inS at hx
            rw [List.getElem?_map] at hx
            cases hzj : ((gnet g).arcs.zip f)[j]? with
            | none=>rw [hzj] at hx; simp at hx
            | some p =>
              rw [hzj] at hx
              simp only [Option.map_some,Option.some.injEq] at hx
              rw [← hx]
              refine if_neg fun ht=>?_
              rcases gnet_arc hl hr (gflow_at hzj).1 with ⟨q1,q2⟩ | ⟨k',e',q1,q2,q3⟩ | ⟨i',q1,q2,q3⟩
              · rw [q2] at ht; simp only at ht; omega
              · rw [q3] at ht; simp only at ht
                have:=hg.edge e' (List.mem_of_getElem? q2)
                omega
              · rw [q3] at ht; simp only at ht; omega
        have hout : 1 ≤ (outS (2 + a'.l) ((gnet g).arcs.zip f)).sum:=by
          have hmem : f.getD (nl + k) 0 ∈ outS (2 + a'.l) ((gnet g).arcs.zip f):=by
            unfold outS
            exact List.mem_map.2 ⟨_,List.mem_of_getElem? z4,if_pos rfl⟩
          have:=le_sum_mem (l:=outS (2 + a'.l) ((gnet g).arcs.zip f)) (fun y hy=>by
            unfold outS at hy
            obtain ⟨p,hp,rfl⟩:=List.mem_map.1 hy
            have:=hf.1.all p hp
            split <;> omega) hmem
          omega
        omega
      · have hb:=hg.edge e' (List.mem_of_getElem? q2)
        rw [q3] at h2 ⊢
        simp only at h2 ⊢
        rcases ih with ih | ⟨v,hv,ih⟩ | ⟨w,hw,ih⟩
        · omega
        · exact .inr (.inr ⟨e'.r.toNat,⟨e',List.mem_of_getElem? q2,by rw [show e'.l.toNat = v by omega]; exact hv,by omega⟩,by omega⟩)
        · exfalso
          have : 1 ≤ w:=by
            obtain ⟨s,hs,hc⟩:=max_cut (gnet_right hg) hf
            exact ((alt_in hg hf hl hr hs hc).2 w hw).1.1
          omega
      · rw [q3] at h2 h3
        simp only at h2 h3
        exfalso
        rcases ih with ih | ⟨v,hv,ih⟩ | ⟨w,hw,ih⟩
        · omega
        · have : (v : Int) ≤ nl := by
            obtain ⟨s,hs,hc⟩:=max_cut (gnet_right hg) hf
            have:=((alt_in hg hf hl hr hs hc).1 v hv).1
            omega
          omega
        · have:=met_right hg hf.1 hl hr (w:=w) (by omega) (by omega) (hno w hw)
          rw [show nl + g.edges.length + (w - 1) = r / 2 by omega] at this
          omega
theorem first_size (hg : g.Right) (hf : MaxFlow (gnet g) f) (hl : g.left = nl) (hr : g.right = nr) {sl sr s : List Int} (hsl : IsSide g.left sl) (hsr : IsSide g.right sr)
    (h3 : ∀ v : Nat,1 ≤ v → (v : Int) ≤ g.left → ((v : Int) ∈ sl ↔ ¬ AltL g (pairsL f nl g.edges.length) v)) (h4 : ∀ w : Nat,1 ≤ w → (w : Int) ≤ g.right → ((w : Int) ∈ sr ↔ AltR g (pairsL f nl g.edges.length) w))
    (hs : IsCut (gnet g) s) (hc : Closed (gnet g) f s) (hst : ∀ x ∈ s,Rch (gnet g) (roomL ((gnet g).arcs.zip f)) 1 x) : s.length + sl.length = 1 + nl + sr.length:=by
  have hgl:=hg.left
  have hgr:=hg.right
  obtain ⟨hin1,hin2⟩:=alt_in hg hf hl hr hs hc
  have hnS : s.Nodup:=hs.rise.imp fun h=>by omega
  -- all nodes of the left side
  obtain ⟨W,hW⟩ : ∃ W : List Int,W = (List.range nl).map fun (i : Nat)=>((i + 1 : Nat) : Int):=⟨_,rfl⟩
  have hWm : ∀ x : Int,x ∈ W ↔ 1 ≤ x ∧ x ≤ nl:=by
    intro x
    rw [hW,List.mem_map]
    constructor
    · rintro ⟨i,hi,rfl⟩
      have:=List.mem_range.1 hi
      omega
    · rintro ⟨h1,h2⟩
      exact ⟨(x - 1).toNat,List.mem_range.2 (by omega),by omega⟩
  have hWn : W.Nodup:=by
    rw [hW]
    exact (List.pairwise_map.2 (List.pairwise_lt_range.imp fun h=>by omega))
  have hWl : W.length = nl:=by rw [hW]; simp
  have hfl:=filter_len (fun x=>decide (x ∈ sl)) W
  have hA1:=nodup_len (W.filter fun x=>decide (x ∈ sl)) sl (hWn.filter _) fun x hx=>by simpa using (List.mem_filter.1 hx).2
  have hA2:=nodup_len sl (W.filter fun x=>decide (x ∈ sl)) hsl.nodup fun x hx=>by
    have:=hsl.rng x hx
    exact List.mem_filter.2 ⟨(hWm x).2 (by omega),by simpa using hx⟩
  -- the nodes,listed
  obtain ⟨T,hT⟩ : ∃ T : List Int,T = 1 :: ((W.filter fun x=>!decide (x ∈ sl)).map (fun x=>2 + x) ++ sr.map fun x=>2 + g.left + x):=⟨_,rfl⟩
  have hTl : T.length = 1 + (W.filter fun x=>!decide (x ∈ sl)).length + sr.length:=by rw [hT]; simp; omega
  have hTn : T.Nodup:=by
    rw [hT,List.nodup_cons]
    refine ⟨fun h=>?_,List.nodup_append.2 ⟨?_,?_,?_⟩⟩
    · rcases List.mem_append.1 h with h | h
      · obtain ⟨x,hx,hx1⟩:=List.mem_map.1 h
        have:=(hWm x).1 (List.mem_filter.1 hx).1
        omega
      · obtain ⟨x,hx,hx1⟩:=List.mem_map.1 h
        have:=hsr.rng x hx
        omega
    · exact List.pairwise_map.2 ((hWn.filter _).imp fun h h'=>h (by omega))
    · exact List.pairwise_map.2 (hsr.nodup.imp fun h h'=>h (by omega))
    · intro a ha b hb hab
      obtain ⟨x,hx,hx1⟩:=List.mem_map.1 ha
      obtain ⟨y,hy,hy1⟩:=List.mem_map.1 hb
      have:=(hWm x).1 (List.mem_filter.1 hx).1
      have:=hsr.rng y hy
      omega
  have hB1:=nodup_len T s hTn fun x hx=>by
    rw [hT] at hx
    rcases List.mem_cons.1 hx with rfl | hx
    · exact hs.src
    rcases List.mem_append.1 hx with hx | hx
    · obtain ⟨v,hv,rfl⟩:=List.mem_map.1 hx
      obtain ⟨hv1,hv2⟩:=List.mem_filter.1 hv
      have hvr:=(hWm v).1 hv1
      have e : ((v.toNat : Nat) : Int) = v:=by omega
      have hv3 : v ∉ sl:=by simpa using hv2
      have:=h3 v.toNat (by omega) (by omega)
      rw [e] at this
      have hal : AltL g (pairsL f nl g.edges.length) v.toNat:=Classical.byContradiction fun h=>hv3 (this.2 h)
      have:=(hin1 _ hal).2
      rwa [e] at this
    · obtain ⟨w,hw,rfl⟩:=List.mem_map.1 hx
      have hwr:=hsr.rng w hw
      have e : ((w.toNat : Nat) : Int) = w:=by omega
      have:=(hin2 _ ((h4 w.toNat (by omega) (by omega)).1 (by rw [e]; exact hw))).2
      rwa [e] at this
  have hB2:=nodup_len s T hnS fun x hx=>by
    rw [hT]
    rcases reach_alt hg hf hl hr (hst x hx) with rfl | ⟨v,hv,rfl⟩ | ⟨w,hw,rfl⟩
    · simp
    · have hvr:=(hin1 v hv).1
      refine List.mem_cons_of_mem _ (List.mem_append_left _ (List.mem_map.2 ⟨v,List.mem_filter.2 ⟨(hWm v).2 (by omega),?_⟩,rfl⟩))
      have : (v : Int) ∉ sl:=fun h=>(h3 v hvr.1 (by omega)).1 h hv
      simpa using this
    · have hwr:=(hin2 w hw).1
      exact List.mem_cons_of_mem _ (List.mem_append_right _ (List.mem_map.2 ⟨w,(h4 w hwr.1 (by omega)).2 hw,rfl⟩))
  omega
end
end Go.Proofs.Ytdhenmmmkdhonaa
