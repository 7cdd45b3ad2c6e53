
/- Levels, found one behind the other over all tracks, in plain terms. -/
import Derived.Test.YtcgcimnjknadjaaQF
set_option linter.unusedVariables false
set_option linter.unusedSimpArgs false
namespace Go.Proofs.Ytcgcimnjknadjaa
open Go.RowKit
theorem nodup_len_le : ∀ (l m : List Int), l.Nodup → (∀ x ∈ l, x ∈ m) → l.length ≤ m.length
  | [], _, _, _ => Nat.zero_le _
  | x :: l, m, hn, hs => by
    have h1 := List.nodup_cons.1 hn
    have hx := hs x (by simp)
    have ih := nodup_len_le l (m.erase x) h1.2 fun y hy => by
      have hne : y ≠ x := fun e => h1.1 (by rw [← e]; exact hy)
      rw [List.mem_erase_of_ne hne]
      exact hs y (by simp [hy])
    rw [List.length_erase_of_mem hx] at ih
    have : 0 < m.length := List.length_pos_of_mem hx
    rw [List.length_cons]; omega
/-- Within round 'k': the first 'j' tracks are looked at. -/
structure RV (N : Net) (rm : List Int) (least : Int) (k j : Nat) (lv : List Int) : Prop where
  len : lv.length = N.nodes.toNat + 1
  src : lvZ lv N.src.toNat = 0
  nil : lvZ lv 0 = -1
  rng : ∀ v, lvZ lv v = -1 ∨ 0 ≤ lvZ lv v ∧ lvZ lv v ≤ (k : Int) + 1
  zero : ∀ v, lvZ lv v = 0 → v = N.src.toNat
  done : ∀ r, r < 2 * N.arcs.length → least ≤ rm.getD r 0 → 0 ≤ lvZ lv (frN N r) → (lvZ lv (frN N r) < k ∨ lvZ lv (frN N r) = k ∧ r < j) → 0 ≤ lvZ lv (toN N r) ∧ lvZ lv (toN N r) ≤ lvZ lv (frN N r) + 1
  back : ∀ v, 0 < lvZ lv v → ∃ r, r < 2 * N.arcs.length ∧ least ≤ rm.getD r 0 ∧ toN N r = v ∧ lvZ lv (frN N r) = lvZ lv v - 1
section
variable {N : Net} {rm : List Int} {least : Int} {k j : Nat} {lv : List Int}
theorem RV.init (hR : N.Right) : RV N rm least 0 0 ((List.replicate (N.nodes.toNat + 1) (-1)).set N.src.toNat 0) := by
  have hsr := hR.src
  have hnn := hR.nodes
  have e : ∀ v, lvZ ((List.replicate (N.nodes.toNat + 1) (-1)).set N.src.toNat 0) v = if N.src.toNat = v then 0 else -1 := by
    intro v
    rw [lvZ_set (by simp; omega)]
    split
    · rfl
    · unfold lvZ
      rw [List.getD_eq_getElem?_getD, List.getElem?_replicate]
      split <;> rfl
  refine ⟨by simp, by rw [e, if_pos rfl], by rw [e, if_neg (by omega)], fun v => ?_, fun v hv => ?_, fun r _ _ h0 h1 => ?_, fun v hv => ?_⟩
  · rw [e]; split
    · exact .inr ⟨Int.le_refl _, by omega⟩
    · exact .inl rfl
  · rw [e] at hv; split at hv
    · omega
    · omega
  · omega
  · rw [e] at hv; split at hv <;> omega
theorem RV.keep (h : RV N rm least k j lv) (hno : ¬ (least ≤ rm.getD j 0 ∧ lvZ lv (frN N j) = k ∧ lvZ lv (toN N j) < 0)) : RV N rm least k (j + 1) lv := by
  refine ⟨h.len, h.src, h.nil, h.rng, h.zero, fun r hr hl h0 h1 => ?_, h.back⟩
  by_cases e : r = j
  · subst e
    by_cases hk : lvZ lv (frN N r) = k
    · have h2 : ¬ lvZ lv (toN N r) < 0 := fun h3 => hno ⟨hl, hk, h3⟩
      have := h.rng (toN N r)
      omega
    · exact h.done r hr hl h0 (by omega)
  · exact h.done r hr hl h0 (by omega)
theorem RV.put (hR : N.Right) (h : RV N rm least k j lv) (hj : j < 2 * N.arcs.length) (hl : least ≤ rm.getD j 0) (hk : lvZ lv (frN N j) = k) (hn : lvZ lv (toN N j) < 0) : RV N rm least k (j + 1) (lv.set (toN N j) ((k : Int) + 1)) := by
  obtain ⟨_, t1, t2⟩ := toN_eq hR hj
  obtain ⟨_, f1, f2⟩ := frN_eq hR hj
  have hlen := h.len
  have hsr := hR.src
  have hlt : toN N j < lv.length := by omega
  have e : ∀ v, lvZ (lv.set (toN N j) ((k : Int) + 1)) v = if toN N j = v then (k : Int) + 1 else lvZ lv v := fun v => lvZ_set hlt
  have hsrc := h.src
  have hne : toN N j ≠ N.src.toNat := fun h1 => by rw [h1] at hn; omega
  refine ⟨by rw [List.length_set]; exact hlen, by rw [e, if_neg hne]; exact hsrc, by rw [e, if_neg (by omega)]; exact h.nil, fun v => ?_, fun v hv => ?_, fun r hr hl' h0 h1 => ?_, fun v hv => ?_⟩
  · rw [e]; split
    · exact .inr ⟨by omega, by omega⟩
    · exact h.rng v
  · rw [e] at hv; split at hv
    · omega
    · exact h.zero v hv
  · have hf : toN N j ≠ frN N r := fun h2 => by rw [e, if_pos h2] at h1; omega
    rw [e, if_neg hf] at h0 h1
    rw [e (frN N r), if_neg hf, e (toN N r)]
    by_cases hrj : r = j
    · subst hrj
      rw [if_pos rfl]; omega
    · have h3 := h.done r hr hl' h0 (by omega)
      rw [if_neg (fun h4 => by rw [← h4] at h3; omega)]
      exact h3
  · rw [e] at hv
    split at hv
    · rename_i h2
      subst h2
      refine ⟨j, hj, hl, rfl, ?_⟩
      rw [e, e, if_pos rfl, if_neg (fun h3 => by rw [← h3] at hk; omega), hk]; omega
    · rename_i h2
      obtain ⟨r, hr, h3, h4, h5⟩ := h.back v hv
      refine ⟨r, hr, h3, h4, ?_⟩
      rw [e, e, if_neg h2, if_neg (fun h6 => by rw [← h6] at h5; omega)]
      exact h5
theorem RV.round (h : RV N rm least k (2 * N.arcs.length) lv) : RV N rm least (k + 1) 0 lv :=
  ⟨h.len, h.src, h.nil, fun v => by have := h.rng v; omega, h.zero, fun r hr hl h0 h1 => h.done r hr hl h0 (by omega), h.back⟩
theorem mem_lv {x : Int} {v : Nat} (h : lvZ lv v = x) (hx : x ≠ -1) : x ∈ lv := by
  have hlt : v < lv.length := Classical.byContradiction fun hc => hx (by rw [← h]; exact lvZ_out (by omega))
  have := lvZ_at hlt
  rw [h] at this
  exact List.mem_of_getElem? this
theorem RV.bound (h : RV N rm least k j lv) {v : Nat} (hv : 0 ≤ lvZ lv v) : lvZ lv v < N.nodes.toNat := by
  have key : ∀ (L v : Nat), lvZ lv v = L → ∀ i : Nat, i ≤ L → (i : Int) ∈ lv := by
    intro L
    induction L with
    | zero => intro v hv i hi; exact mem_lv (v := v) (by rw [hv]; congr 1; omega) (by omega)
    | succ L ih =>
      intro v hv i hi
      by_cases hL : i = L + 1
      · subst hL; exact mem_lv hv (by omega)
      · obtain ⟨r, _, _, _, h5⟩ := h.back v (by omega)
        exact ih (frN N r) (by omega) i (by omega)
  obtain ⟨L, hL⟩ : ∃ L : Nat, lvZ lv v = L := ⟨(lvZ lv v).toNat, by omega⟩
  have hlen := h.len
  have h0 : (-1 : Int) ∈ lv := by
    have := lvZ_at (lv := lv) (v := 0) (by omega)
    rw [h.nil] at this
    exact List.mem_of_getElem? this
  have := nodup_len_le (-1 :: (List.range (L + 1)).map fun (i : Nat) => (i : Int)) lv (by
    rw [List.nodup_cons]
    refine ⟨fun hc => ?_, List.pairwise_map.2 (List.nodup_range.imp fun hne he => hne (by omega))⟩
    obtain ⟨i, _, hi⟩ := List.mem_map.1 hc
    omega) (fun x hx => by
    rcases List.mem_cons.1 hx with rfl | hx
    · exact h0
    · obtain ⟨i, hi, rfl⟩ := List.mem_map.1 hx
      exact key L v hL i (by have := List.mem_range.1 hi; omega))
  simp only [List.length_cons, List.length_map, List.length_range] at this
  omega
theorem RV.lev (hR : N.Right) (h : RV N rm least N.nodes.toNat j lv) : IsLev N rm least lv := by
  have hnn := hR.nodes
  have hb : ∀ v, -1 ≤ lvZ lv v ∧ lvZ lv v < N.nodes := fun v => by
    rcases h.rng v with h1 | h1
    · omega
    · have := h.bound h1.1; omega
  exact ⟨h.len, h.src, h.nil, hb, h.zero, fun r hr hl h0 => h.done r hr hl h0 (.inl (by have := h.bound h0; omega)), h.back⟩
end
end Go.Proofs.Ytcgcimnjknadjaa
