
/- Edges taken one by one, in whatever order, in plain terms. -/
import Derived.Test.YtjbcgjahfalkaaaGrowP
set_option linter.unusedVariables false
set_option linter.unusedSimpArgs false
namespace Go.Proofs.Ytjbcgjahfalkaaa
open Go.RowKit
theorem apart_match {g : Gr} {ch : List Nat} (hn : ch.Nodup) (hlt : ∀ i ∈ ch, i < g.edges.length) (hap : ∀ i ∈ ch, ∀ j ∈ ch, i ≠ j → ∀ a b, g.edges[i]? = some a → g.edges[j]? = some b → a.l ≠ b.l ∧ a.r ≠ b.r) : ∃ l, IsMatch g l ∧ ch.length ≤ l.length := by
  have hmem : ∀ x ∈ ((List.range g.edges.length).filter fun i => decide (i ∈ ch)).map fun (i : Nat) => (i : Int), ∃ i : Nat, x = i ∧ i ∈ ch ∧ i < g.edges.length := by
    intro x hx
    obtain ⟨i, hi, rfl⟩ := List.mem_map.1 hx
    have := List.mem_filter.1 hi
    exact ⟨i, rfl, by simpa using this.2, by simpa using this.1⟩
  have hrise : (((List.range g.edges.length).filter fun i => decide (i ∈ ch)).map fun (i : Nat) => (i : Int)).Pairwise (· < ·) := by
    rw [List.pairwise_map]
    exact List.Pairwise.filter _ (List.pairwise_lt_range.imp fun h => by omega)
  refine ⟨_, ⟨hrise, fun x hx => ?_, ?_⟩, ?_⟩
  · obtain ⟨i, rfl, _, h⟩ := hmem x hx
    omega
  · refine hrise.imp_of_mem ?_
    intro x y hx hy hxy a b ha hb
    obtain ⟨i, rfl, hi, _⟩ := hmem x hx
    obtain ⟨j, rfl, hj, _⟩ := hmem y hy
    exact hap i hi j hj (by omega) a b ha hb
  · rw [List.length_map]
    exact nodup_room' _ _ hn fun i hi => List.mem_filter.2 ⟨List.mem_range.2 (hlt i hi), by simpa using hi⟩
theorem filter_two {α : Type} (p : α → Bool) : ∀ l : List α, (l.filter p).length + (l.filter fun x => !p x).length = l.length
  | [] => rfl
  | x :: l => by
    have ih := filter_two p l
    cases hp : p x <;> simp [List.filter_cons, hp] <;> omega
structure Greed (g : Gr) (nl nr : Nat) (ch : List Nat) (lm rm : List Bool) : Prop where
  nod : ch.Nodup
  lt : ∀ i ∈ ch, i < g.edges.length
  apart : ∀ i ∈ ch, ∀ j ∈ ch, i ≠ j → ∀ a b, g.edges[i]? = some a → g.edges[j]? = some b → a.l ≠ b.l ∧ a.r ≠ b.r
  ll : lm.length = nl + 1
  rl : rm.length = nr + 1
  lmk : ∀ v : Nat, lm[v]? = some true → ∃ i ∈ ch, ∃ e, g.edges[i]? = some e ∧ e.l = v
  lmk' : ∀ i ∈ ch, ∀ e, g.edges[i]? = some e → lm[e.l.toNat]? = some true
  rmk : ∀ v : Nat, rm[v]? = some true → ∃ i ∈ ch, ∃ e, g.edges[i]? = some e ∧ e.r = v
  rmk' : ∀ i ∈ ch, ∀ e, g.edges[i]? = some e → rm[e.r.toNat]? = some true
theorem set_true_iff {l : List Bool} {t v : Nat} (ht : t < l.length) : (l.set t true)[v]? = some true ↔ v = t ∨ l[v]? = some true := by
  rw [List.getElem?_set]
  by_cases h : t = v
  · subst h
    simp [ht]
  · rw [if_neg h]
    constructor
    · exact .inr
    · rintro (rfl | h2)
      · exact absurd rfl h
      · exact h2
theorem Greed.start {g : Gr} {nl nr : Nat} : Greed g nl nr [] (List.replicate (nl + 1) false) (List.replicate (nr + 1) false) := by
  have key : ∀ (m v : Nat), (List.replicate m false)[v]? ≠ some true := by
    intro m v h
    rw [List.getElem?_replicate] at h
    split at h <;> simp at h
  exact ⟨List.nodup_nil, by simp, by simp, by simp, by simp, fun v h => absurd h (key _ v), by simp, fun v h => absurd h (key _ v), by simp⟩
theorem Greed.add {g : Gr} {nl nr : Nat} {ch : List Nat} {lm rm : List Bool} (h : Greed g nl nr ch lm rm) {i : Nat} {e : Edg} (he : g.edges[i]? = some e) {x y : Nat} (hx : e.l = x) (hy : e.r = y) (hxl : x ≤ nl) (hyl : y ≤ nr) (h1 : lm[x]? = some false) (h2 : rm[y]? = some false) : Greed g nl nr (i :: ch) (lm.set x true) (rm.set y true) := by
  have hil := (List.getElem?_eq_some_iff.1 he).1
  have hl1 := h.ll
  have hl2 := h.rl
  have hnew : ∀ j ∈ ch, ∀ b, g.edges[j]? = some b → b.l ≠ e.l ∧ b.r ≠ e.r := by
    intro j hj b hb
    refine ⟨fun hc => ?_, fun hc => ?_⟩
    · have := h.lmk' j hj b hb
      rw [hc, hx, Int.toNat_natCast, h1] at this
      cases this
    · have := h.rmk' j hj b hb
      rw [hc, hy, Int.toNat_natCast, h2] at this
      cases this
  refine ⟨List.nodup_cons.2 ⟨fun hc => (hnew i hc e he).1 rfl, h.nod⟩, fun j hj => ?_, fun j hj k hk hjk a b ha hb => ?_, by simp [h.ll], by simp [h.rl], fun v hv => ?_, fun j hj b hb => ?_, fun v hv => ?_, fun j hj b hb => ?_⟩
  · rcases List.mem_cons.1 hj with rfl | hj
    · exact hil
    · exact h.lt j hj
  · rcases List.mem_cons.1 hj with h3 | h3 <;> rcases List.mem_cons.1 hk with h4 | h4
    · exact absurd (h3.trans h4.symm) hjk
    · rw [h3, he] at ha
      obtain rfl := Option.some.inj ha
      have := hnew k h4 b hb
      exact ⟨fun hc => this.1 hc.symm, fun hc => this.2 hc.symm⟩
    · rw [h4, he] at hb
      obtain rfl := Option.some.inj hb
      exact hnew j h3 a ha
    · exact h.apart j h3 k h4 hjk a b ha hb
  · rcases (set_true_iff (by omega)).1 hv with rfl | hv
    · exact ⟨i, by simp, e, he, hx⟩
    · obtain ⟨j, hj, b, hb, hbv⟩ := h.lmk v hv
      exact ⟨j, by simp [hj], b, hb, hbv⟩
  · refine (set_true_iff (by omega)).2 ?_
    rcases List.mem_cons.1 hj with rfl | hj
    · rw [he] at hb
      obtain rfl := Option.some.inj hb
      exact .inl (by rw [hx, Int.toNat_natCast])
    · exact .inr (h.lmk' j hj b hb)
  · rcases (set_true_iff (by omega)).1 hv with rfl | hv
    · exact ⟨i, by simp, e, he, hy⟩
    · obtain ⟨j, hj, b, hb, hbv⟩ := h.rmk v hv
      exact ⟨j, by simp [hj], b, hb, hbv⟩
  · refine (set_true_iff (by omega)).2 ?_
    rcases List.mem_cons.1 hj with rfl | hj
    · rw [he] at hb
      obtain rfl := Option.some.inj hb
      exact .inl (by rw [hy, Int.toNat_natCast])
    · exact .inr (h.rmk' j hj b hb)
theorem Greed.both {g : Gr} (hg : g.Right) {nl nr : Nat} {ch : List Nat} {lm rm : List Bool} (h : Greed g nl nr ch lm rm) {p : List Int} (hp : IsMatch g p) (hbest : ∀ l, IsMatch g l → l.length ≤ p.length) (hall : ∀ e ∈ g.edges, lm[e.l.toNat]? = some true ∨ rm[e.r.toNat]? = some true) :
    ch.length ≤ p.length ∧ p.length ≤ 2 * ch.length := by
  obtain ⟨l, hl, hcl⟩ := apart_match h.nod h.lt h.apart
  refine ⟨Nat.le_trans hcl (hbest l hl), ?_⟩
  have hat : ∀ x ∈ p, ∃ e, g.edges[x.toNat]? = some e ∧ e ∈ g.edges := by
    intro x hx
    have := hp.rng x hx
    obtain ⟨e, he⟩ : ∃ e, g.edges[x.toNat]? = some e := ⟨g.edges[x.toNat]'(by omega), List.getElem?_eq_getElem _⟩
    exact ⟨e, he, List.mem_of_getElem? he⟩
  obtain ⟨eg, heg⟩ : ∃ eg : Nat → Edg, eg = fun i => g.edges.getD i ⟨0, 0⟩ := ⟨_, rfl⟩
  have hget : ∀ i e, g.edges[i]? = some e → eg i = e := by
    intro i e he
    rw [heg]
    show g.edges.getD i _ = e
    rw [List.getD_eq_getElem?_getD, he]; rfl
  have hpos : ∀ e ∈ g.edges, 0 ≤ e.l ∧ 0 ≤ e.r := fun e he => by
    have := hg.edge e he
    omega
  have h2 := filter_two (fun x : Int => decide (lm[(eg x.toNat).l.toNat]? = some true)) p
  have hA : (p.filter fun x => decide (lm[(eg x.toNat).l.toNat]? = some true)).length ≤ ch.length := by
    have := nodup_room' ((p.filter fun x => decide (lm[(eg x.toNat).l.toNat]? = some true)).map fun x => (eg x.toNat).l.toNat) (ch.map fun i => (eg i).l.toNat) ?_ ?_
    · simpa using this
    · unfold List.Nodup
      rw [List.pairwise_map]
      refine (List.Pairwise.filter _ hp.apart).imp_of_mem ?_
      intro x y hx hy hxy hc
      obtain ⟨a, ha, ham⟩ := hat x (List.mem_filter.1 hx).1
      obtain ⟨b, hb, hbm⟩ := hat y (List.mem_filter.1 hy).1
      rw [hget _ _ ha, hget _ _ hb] at hc
      have := hpos a ham
      have := hpos b hbm
      exact (hxy a b ha hb).1 (by omega)
    · intro v hv
      obtain ⟨x, hx, rfl⟩ := List.mem_map.1 hv
      have hx2 := (List.mem_filter.1 hx).2
      simp only [decide_eq_true_eq] at hx2
      obtain ⟨i, hi, e, he, hev⟩ := h.lmk _ hx2
      exact List.mem_map.2 ⟨i, hi, by rw [hget _ _ he, hev, Int.toNat_natCast]⟩
  have hB : (p.filter fun x => !decide (lm[(eg x.toNat).l.toNat]? = some true)).length ≤ ch.length := by
    have := nodup_room' ((p.filter fun x => !decide (lm[(eg x.toNat).l.toNat]? = some true)).map fun x => (eg x.toNat).r.toNat) (ch.map fun i => (eg i).r.toNat) ?_ ?_
    · simpa using this
    · unfold List.Nodup
      rw [List.pairwise_map]
      refine (List.Pairwise.filter _ hp.apart).imp_of_mem ?_
      intro x y hx hy hxy hc
      obtain ⟨a, ha, ham⟩ := hat x (List.mem_filter.1 hx).1
      obtain ⟨b, hb, hbm⟩ := hat y (List.mem_filter.1 hy).1
      rw [hget _ _ ha, hget _ _ hb] at hc
      have := hpos a ham
      have := hpos b hbm
      exact (hxy a b ha hb).2 (by omega)
    · intro v hv
      obtain ⟨x, hx, rfl⟩ := List.mem_map.1 hv
      have hx2 := (List.mem_filter.1 hx).2
      obtain ⟨a, ha, ham⟩ := hat x (List.mem_filter.1 hx).1
      rw [hget _ _ ha] at hx2 ⊢
      have hr : rm[a.r.toNat]? = some true := by
        rcases hall a ham with h1 | h1
        · rw [h1] at hx2; simp at hx2
        · exact h1
      obtain ⟨i, hi, e, he, hev⟩ := h.rmk _ hr
      exact List.mem_map.2 ⟨i, hi, by rw [hget _ _ he, hev, Int.toNat_natCast]⟩
  omega
end Go.Proofs.Ytjbcgjahfalkaaa
