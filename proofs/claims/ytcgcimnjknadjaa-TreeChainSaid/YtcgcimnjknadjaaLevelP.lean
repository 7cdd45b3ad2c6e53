
/- Levels, in plain terms. -/
import Derived.Test.YtcgcimnjknadjaaPlainQ
set_option linter.unusedVariables false
set_option linter.unusedSimpArgs false
namespace Go.Proofs.Ytcgcimnjknadjaa
open Go.RowKit
def lvZ (lv : List Int) (v : Nat) : Int := lv.getD v (-1)
theorem lvZ_get {lv : List Int} {v : Nat} {x : Int} (h : lv[v]? = some x) : lvZ lv v = x := by unfold lvZ; rw [List.getD_eq_getElem?_getD, h]; rfl
theorem lvZ_at {lv : List Int} {v : Nat} (h : v < lv.length) : lv[v]? = some (lvZ lv v) := by unfold lvZ; rw [List.getD_eq_getElem?_getD, List.getElem?_eq_getElem h]; rfl
theorem lvZ_set {lv : List Int} {t v : Nat} {x : Int} (h : t < lv.length) : lvZ (lv.set t x) v = if t = v then x else lvZ lv v := getD_set h
theorem lvZ_out {lv : List Int} {v : Nat} (h : lv.length ≤ v) : lvZ lv v = -1 := by unfold lvZ; rw [List.getD_eq_getElem?_getD, List.getElem?_eq_none h]; rfl
/-- The levels of a network's nodes, by tracks that have room. -/
structure IsLev (N : Net) (rm : List Int) (least : Int) (lv : List Int) : Prop where
  len : lv.length = N.nodes.toNat + 1
  src : lvZ lv N.src.toNat = 0
  nil : lvZ lv 0 = -1
  rng : ∀ v, -1 ≤ lvZ lv v ∧ lvZ lv v < N.nodes
  zero : ∀ v, lvZ lv v = 0 → v = N.src.toNat
  step : ∀ r, r < 2 * N.arcs.length → least ≤ rm.getD r 0 → 0 ≤ lvZ lv (frN N r) → 0 ≤ lvZ lv (toN N r) ∧ lvZ lv (toN N r) ≤ lvZ lv (frN N r) + 1
  back : ∀ v, 0 < lvZ lv v → ∃ r, r < 2 * N.arcs.length ∧ least ≤ rm.getD r 0 ∧ toN N r = v ∧ lvZ lv (frN N r) = lvZ lv v - 1
/-- Ahead of a turn: 'fr' are the nodes of the last level. -/
structure LH (N : Net) (rm : List Int) (least : Int) (k : Nat) (fr : List Nat) (lv : List Int) : Prop where
  k1 : 1 ≤ k
  len : lv.length = N.nodes.toNat + 1
  src : lvZ lv N.src.toNat = 0
  nil : lvZ lv 0 = -1
  rng : ∀ v, lvZ lv v = -1 ∨ 0 ≤ lvZ lv v ∧ lvZ lv v ≤ (k : Int) - 1
  zero : ∀ v, lvZ lv v = 0 → v = N.src.toNat
  front : ∀ v, lvZ lv v = (k : Int) - 1 ↔ v ∈ fr
  done : ∀ r, r < 2 * N.arcs.length → least ≤ rm.getD r 0 → 0 ≤ lvZ lv (frN N r) → lvZ lv (frN N r) < (k : Int) - 1 → 0 ≤ lvZ lv (toN N r) ∧ lvZ lv (toN N r) ≤ lvZ lv (frN N r) + 1
  back : ∀ v, 0 < lvZ lv v → ∃ r, r < 2 * N.arcs.length ∧ least ≤ rm.getD r 0 ∧ toN N r = v ∧ lvZ lv (frN N r) = lvZ lv v - 1
  cnt : k + fr.length + lv.count (-1) ≤ N.nodes.toNat + 2
/-- Within a turn: the first 'i' nodes of the last level are done, and 'j' tracks of the next. -/
structure LV (N : Net) (rm : List Int) (least : Int) (k : Nat) (now : List Nat) (i j : Nat) (nxt : List Nat) (lv : List Int) : Prop where
  k1 : 1 ≤ k
  len : lv.length = N.nodes.toNat + 1
  src : lvZ lv N.src.toNat = 0
  nil : lvZ lv 0 = -1
  rng : ∀ v, lvZ lv v = -1 ∨ 0 ≤ lvZ lv v ∧ lvZ lv v ≤ (k : Int)
  zero : ∀ v, lvZ lv v = 0 → v = N.src.toNat
  old : ∀ v, lvZ lv v = (k : Int) - 1 ↔ v ∈ now
  new : ∀ v, lvZ lv v = (k : Int) ↔ v ∈ nxt
  done : ∀ r, r < 2 * N.arcs.length → least ≤ rm.getD r 0 → 0 ≤ lvZ lv (frN N r) → (lvZ lv (frN N r) < (k : Int) - 1 ∨ frN N r ∈ now.take i ∨ (now[i]? = some (frN N r) ∧ ∃ a, a < j ∧ (tr N (2 * N.arcs.length) (frN N r))[a]? = some (r : Int))) →
    0 ≤ lvZ lv (toN N r) ∧ lvZ lv (toN N r) ≤ lvZ lv (frN N r) + 1
  back : ∀ v, 0 < lvZ lv v → ∃ r, r < 2 * N.arcs.length ∧ least ≤ rm.getD r 0 ∧ toN N r = v ∧ lvZ lv (frN N r) = lvZ lv v - 1
  cnt : k + nxt.length + lv.count (-1) ≤ N.nodes.toNat + 1
section
variable {N : Net} {rm : List Int} {least : Int} {k : Nat} {lv : List Int}
theorem count_set_int : ∀ (l : List Int) (t : Nat) (x : Int), l[t]? = some (-1) → x ≠ -1 → (l.set t x).count (-1) + 1 = l.count (-1)
  | [], _, _, h, _ => by simp at h
  | y :: l, 0, x, h, hx => by
    simp only [List.getElem?_cons_zero, Option.some.injEq] at h
    subst h
    simp [hx]
  | y :: l, t + 1, x, h, hx => by
    have := count_set_int l t x (by simpa using h) hx
    simp only [List.set_cons_succ, List.count_cons]
    omega
theorem LH.init (hR : N.Right) : LH N rm least 1 [N.src.toNat] ((List.replicate (N.nodes.toNat + 1) (-1)).set N.src.toNat 0) := by
  have hsr := hR.src
  have hnn := hR.nodes
  have hlt : N.src.toNat < (List.replicate (N.nodes.toNat + 1) (-1 : Int)).length := by rw [List.length_replicate]; omega
  have hr : ∀ v, lvZ (List.replicate (N.nodes.toNat + 1) (-1)) v = -1 := by
    intro v
    by_cases h : v < N.nodes.toNat + 1
    · exact lvZ_get (by rw [List.getElem?_replicate, if_pos h])
    · exact lvZ_out (by rw [List.length_replicate]; omega)
  have hv : ∀ v, lvZ ((List.replicate (N.nodes.toNat + 1) (-1)).set N.src.toNat 0) v = if N.src.toNat = v then 0 else -1 := fun v => by rw [lvZ_set hlt, hr]
  refine ⟨Nat.le_refl _, by simp, by rw [hv, if_pos rfl], by rw [hv, if_neg (by omega)], fun v => ?_, fun v h => ?_, fun v => ?_, fun r _ _ h1 h2 => by omega, fun v h => ?_, ?_⟩
  · rw [hv]; split
    · exact .inr ⟨by omega, by omega⟩
    · exact .inl rfl
  · rw [hv] at h; split at h
    · rename_i e; exact e.symm
    · omega
  · rw [hv, List.mem_singleton]
    constructor
    · intro h
      split at h
      · rename_i e; exact e.symm
      · omega
    · rintro rfl; rw [if_pos rfl]; omega
  · rw [hv] at h; split at h <;> omega
  · have := count_set_int (List.replicate (N.nodes.toNat + 1) (-1)) N.src.toNat 0 (by rw [List.getElem?_replicate, if_pos (by omega)]) (by decide)
    have h2 : (List.replicate (N.nodes.toNat + 1) (-1 : Int)).count (-1) = N.nodes.toNat + 1 := by simp
    simp only [List.length_singleton]
    omega
theorem LH.turn {fr : List Nat} (h : LH N rm least k fr lv) (hne : fr ≠ []) : LV N rm least k fr 0 0 [] lv := by
  have hk := h.k1
  have hlen : 0 < fr.length := List.length_pos_iff.2 hne
  refine ⟨h.k1, h.len, h.src, h.nil, fun v => ?_, h.zero, h.front, fun v => ⟨fun e => ?_, fun e => by cases e⟩, fun r h1 h2 h3 h4 => ?_, h.back, ?_⟩
  · rcases h.rng v with e | e
    · exact .inl e
    · exact .inr ⟨e.1, by omega⟩
  · rcases h.rng v with e' | e' <;> omega
  · rcases h4 with h4 | h4 | ⟨_, a, ha, _⟩
    · exact h.done r h1 h2 h3 h4
    · simp at h4
    · omega
  · have := h.cnt
    simp only [List.length_nil]; omega
theorem LV.row {now nxt : List Nat} {i j : Nat} (h : LV N rm least k now i j nxt lv) (hj : ∀ v, now[i]? = some v → (tr N (2 * N.arcs.length) v).length ≤ j) : LV N rm least k now (i + 1) 0 nxt lv := by
  refine ⟨h.k1, h.len, h.src, h.nil, h.rng, h.zero, h.old, h.new, fun r h1 h2 h3 h4 => ?_, h.back, h.cnt⟩
  rcases h4 with h4 | h4 | ⟨_, a, ha, _⟩
  · exact h.done r h1 h2 h3 (.inl h4)
  · rw [List.take_add_one] at h4
    rcases List.mem_append.1 h4 with h4 | h4
    · exact h.done r h1 h2 h3 (.inr (.inl h4))
    · cases hv : now[i]? with
      | none => rw [hv] at h4; simp at h4
      | some v =>
        rw [hv] at h4
        have e : frN N r = v := by simpa using h4
        refine h.done r h1 h2 h3 (.inr (.inr ⟨by rw [hv, e], ?_⟩))
        have hm : (r : Int) ∈ tr N (2 * N.arcs.length) (frN N r) := by
          refine mem_tr.2 ⟨r, h1, ?_, rfl⟩
          unfold frN
          have hfz : 0 ≤ (endsZ N r).1 := by
            by_cases hz : 0 ≤ (endsZ N r).1
            · exact hz
            · exfalso
              have : frN N r = 0 := by unfold frN; omega
              rw [this, h.nil] at h3
              omega
          omega
        obtain ⟨a, ha, hae⟩ := List.mem_iff_getElem.1 hm
        exact ⟨a, Nat.lt_of_lt_of_le ha (e ▸ hj v hv), by rw [List.getElem?_eq_getElem ha, hae]⟩
  · omega
theorem LV.final {now nxt : List Nat} {i j : Nat} (h : LV N rm least k now i j nxt lv) (hi : now.length ≤ i) : LH N rm least (k + 1) nxt lv := by
  have hk := h.k1
  refine ⟨by omega, h.len, h.src, h.nil, fun v => ?_, h.zero, fun v => ?_, fun r h1 h2 h3 h4 => ?_, h.back, ?_⟩
  · rcases h.rng v with e | e
    · exact .inl e
    · exact .inr ⟨e.1, by omega⟩
  · have := h.new v
    rw [show (((k + 1 : Nat) : Int) - 1) = (k : Int) by omega]
    exact this
  · refine h.done r h1 h2 h3 ?_
    by_cases e : lvZ lv (frN N r) < (k : Int) - 1
    · exact .inl e
    · refine .inr (.inl ?_)
      rw [List.take_of_length_le hi]
      exact (h.old _).1 (by omega)
  · have := h.cnt; omega
theorem LV.pass {now nxt : List Nat} {i j r : Nat} (h : LV N rm least k now i j nxt lv) (hr : ∃ v, now[i]? = some v ∧ (tr N (2 * N.arcs.length) v)[j]? = some (r : Int)) (hf : rm.getD r 0 < least ∨ lvZ lv (toN N r) ≠ -1) : LV N rm least k now i (j + 1) nxt lv := by
  refine ⟨h.k1, h.len, h.src, h.nil, h.rng, h.zero, h.old, h.new, fun q h1 h2 h3 h4 => ?_, h.back, h.cnt⟩
  rcases h4 with h4 | h4 | ⟨h4, a, ha, hq⟩
  · exact h.done q h1 h2 h3 (.inl h4)
  · exact h.done q h1 h2 h3 (.inr (.inl h4))
  · by_cases e : a = j
    · subst e
      obtain ⟨v, hv, hvr⟩ := hr
      rw [hv] at h4
      simp only [Option.some.injEq] at h4
      rw [← h4, hvr] at hq
      have e2 : r = q := by
            have e3 : (r : Int) = q := by simpa using hq
            omega
      subst e2
      have hlv := (h.old v).2 (List.mem_of_getElem? hv)
      rcases hf with hf | hf
      · omega
      · rcases h.rng (toN N r) with e3 | e3
        · exact absurd e3 hf
        · rw [h4] at hlv; exact ⟨e3.1, by omega⟩
    · exact h.done q h1 h2 h3 (.inr (.inr ⟨h4, a, by omega, hq⟩))
theorem LV.put {now nxt : List Nat} {i j r : Nat} (h : LV N rm least k now i j nxt lv) (hr : ∃ v, now[i]? = some v ∧ frN N r = v ∧ (tr N (2 * N.arcs.length) v)[j]? = some (r : Int)) (hrl : r < 2 * N.arcs.length) (ht : 1 ≤ toN N r ∧ toN N r < lv.length) (hl : least ≤ rm.getD r 0) (hf : lvZ lv (toN N r) = -1) :
    LV N rm least k now i (j + 1) (nxt ++ [toN N r]) (lv.set (toN N r) (k : Int)) := by
  obtain ⟨v, hv, hfr, hvr⟩ := hr
  obtain ⟨t, rfl⟩ : ∃ t, t = toN N r := ⟨_, rfl⟩
  have hk := h.k1
  have hs : ∀ u, lvZ (lv.set (toN N r) (k : Int)) u = if toN N r = u then (k : Int) else lvZ lv u := fun u => lvZ_set ht.2
  have hvl := (h.old v).2 (List.mem_of_getElem? hv)
  have hne : toN N r ≠ v := fun e => by rw [e] at hf; omega
  refine ⟨h.k1, by rw [List.length_set]; exact h.len, ?_, ?_, fun u => ?_, fun u hu => ?_, fun u => ?_, fun u => ?_, fun q h1 h2 h3 h4 => ?_, fun u hu => ?_, ?_⟩
  · rw [hs, if_neg (fun e => by rw [e, h.src] at hf; omega)]; exact h.src
  · rw [hs, if_neg (by omega)]; exact h.nil
  · rw [hs]; split
    · exact .inr ⟨by omega, by omega⟩
    · exact h.rng u
  · rw [hs] at hu; split at hu
    · omega
    · exact h.zero u hu
  · rw [hs]; split
    · rename_i e
      subst e
      constructor
      · intro e; omega
      · intro e; have := (h.old _).2 e; omega
    · exact h.old u
  · rw [hs, List.mem_append, List.mem_singleton]; split
    · rename_i e; exact ⟨fun _ => .inr e.symm, fun _ => rfl⟩
    · rename_i e
      rw [h.new u]
      exact ⟨.inl, fun hh => hh.resolve_right fun e2 => e e2.symm⟩
  · rw [hs] at h3 h4 ⊢
    have key : toN N r ≠ frN N q := by
      intro e
      rw [if_pos e] at h4
      rcases h4 with h4 | h4 | ⟨h4, _⟩
      · omega
      · have := (h.old _).2 (List.mem_of_mem_take h4)
        rw [← e] at this; omega
      · rw [hv] at h4
        simp only [Option.some.injEq] at h4
        exact hne (e.trans h4.symm)
    rw [if_neg key] at h3 h4
    have hfq : lvZ (lv.set (toN N r) (k : Int)) (frN N q) = lvZ lv (frN N q) := by rw [hs, if_neg key]
    rw [hfq]
    have hle : lvZ lv (frN N q) ≤ k ∧ (∀ (_ : frN N q = v), lvZ lv (frN N q) = k - 1) := by
      constructor
      · rcases h.rng (frN N q) with e | e <;> omega
      · intro e; rw [e]; exact hvl
    by_cases e : toN N r = toN N q
    · rw [if_pos e]
      refine ⟨by omega, ?_⟩
      rcases h4 with h4 | h4 | ⟨h4, _⟩
      · have := h.done q h1 h2 h3 (.inl h4)
        rw [← e, hf] at this; omega
      · have := (h.old _).2 (List.mem_of_mem_take h4)
        omega
      · rw [hv] at h4
        simp only [Option.some.injEq] at h4
        have := hle.2 h4.symm
        omega
    · rw [if_neg e]
      rcases h4 with h4 | h4 | ⟨h4, a, ha, hq⟩
      · exact h.done q h1 h2 h3 (.inl h4)
      · exact h.done q h1 h2 h3 (.inr (.inl h4))
      · by_cases ea : a = j
        · subst ea
          rw [hv] at h4
          simp only [Option.some.injEq] at h4
          rw [← h4, hvr] at hq
          have e2 : r = q := by
            have e3 : (r : Int) = q := by simpa using hq
            omega
          exact absurd (by rw [e2]) e
        · exact h.done q h1 h2 h3 (.inr (.inr ⟨h4, a, by omega, hq⟩))
  · rw [hs] at hu
    by_cases e : toN N r = u
    · refine ⟨r, hrl, hl, e, ?_⟩
      rw [hs, hs, if_pos e, if_neg (fun e2 => hne (e2.trans hfr)), hfr, hvl]
    · rw [if_neg e] at hu
      obtain ⟨q, g1, g2, g3, g4⟩ := h.back u hu
      refine ⟨q, g1, g2, g3, ?_⟩
      rw [hs, hs, if_neg e, if_neg, g4]
      intro e2
      rw [← e2, hf] at g4
      omega
  · have := h.cnt
    have hc := count_set_int lv (toN N r) (k : Int) (by rw [lvZ_at ht.2, hf]) (by omega)
    rw [List.length_append, List.length_singleton]; omega
theorem LH.lev (hR : N.Right) (h : LH N rm least k [] lv) : IsLev N rm least lv := by
  have hk := h.k1
  have hnn := hR.nodes
  have hc : 1 ≤ lv.count (-1) := by
    have h0 : (-1 : Int) ∈ lv := by
      have := lvZ_at (lv := lv) (v := 0) (by rw [h.len]; omega)
      rw [h.nil] at this
      exact List.mem_of_getElem? this
    exact List.one_le_count_iff.2 h0
  have hcnt := h.cnt
  have hf : ∀ v, lvZ lv v ≠ (k : Int) - 1 := fun v e => by have := (h.front v).1 e; simp at this
  refine ⟨h.len, h.src, h.nil, fun v => ?_, h.zero, fun r h1 h2 h3 => ?_, h.back⟩
  · have := hf v
    simp only [List.length_nil] at hcnt
    rcases h.rng v with e | e <;> omega
  · refine h.done r h1 h2 h3 ?_
    have := hf (frN N r)
    rcases h.rng (frN N r) with e | e <;> omega
end
/-- The tracks that lead one level on. -/
def leadsL (N : Net) (rm : List Int) (least : Int) (lv : List Int) (k : Nat) : List Nat := (List.range k).filter fun r => decide (least ≤ rm.getD r 0 ∧ lvZ lv (frN N r) ≠ -1 ∧ lvZ lv (toN N r) = lvZ lv (frN N r) + 1)
def ldAt (N : Net) (ls : List Nat) (v : Nat) : List Nat := ls.filter fun r => decide (frN N r = v)
theorem mem_leads {N : Net} {rm : List Int} {least : Int} {lv : List Int} {k r : Nat} : r ∈ leadsL N rm least lv k ↔ r < k ∧ least ≤ rm.getD r 0 ∧ lvZ lv (frN N r) ≠ -1 ∧ lvZ lv (toN N r) = lvZ lv (frN N r) + 1 := by
  unfold leadsL; rw [List.mem_filter, List.mem_range, decide_eq_true_eq]
theorem mem_ldAt {N : Net} {ls : List Nat} {v r : Nat} : r ∈ ldAt N ls v ↔ r ∈ ls ∧ frN N r = v := by
  unfold ldAt; rw [List.mem_filter, decide_eq_true_eq]
theorem graded_leads {N : Net} {rm : List Int} {least : Int} {lv : List Int} (h : IsLev N rm least lv) : Graded N (ldAt N (leadsL N rm least lv (2 * N.arcs.length))) (lvZ lv) := by
  refine ⟨fun v r hr => ?_, h.rng⟩
  obtain ⟨h1, h2⟩ := mem_ldAt.1 hr
  obtain ⟨h3, _, _, h6⟩ := mem_leads.1 h1
  exact ⟨h3, h2, by rw [h6, h2]⟩
theorem lev_LP {N : Net} {rm : List Int} {least : Int} {lv : List Int} (h : IsLev N rm least lv) : ∀ (k v : Nat), lvZ lv v = k → LP N (ldAt N (leadsL N rm least lv (2 * N.arcs.length))) least rm v
  | 0, v, hv => by rw [h.zero v (by simpa using hv)]; exact .src
  | k + 1, v, hv => by
    obtain ⟨r, h1, h2, h3, h4⟩ := h.back v (by omega)
    have ih := lev_LP h k (frN N r) (by omega)
    rw [← h3]
    exact .step ih (mem_ldAt.2 ⟨mem_leads.2 ⟨h1, h2, by omega, by rw [h3]; omega⟩, rfl⟩) h2
/-- Who is come to has a level. -/
theorem Rch_lev {N : Net} {rm : List Int} {least : Int} {lv : List Int} (h : IsLev N rm least lv) (hl : rm.length = 2 * N.arcs.length) : ∀ {v : Int}, Rch N rm least v → 0 ≤ lvZ lv v.toNat := by
  intro v hv
  induction hv with
  | src => rw [h.src]; omega
  | step u r _ h1 h2 h3 ih =>
    have := h.step r (by omega) h3 (by unfold frN; rw [h2]; exact ih)
    exact this.1
end Go.Proofs.Ytcgcimnjknadjaa
