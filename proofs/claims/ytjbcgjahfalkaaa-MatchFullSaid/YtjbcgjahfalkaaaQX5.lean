/- The engine and the words that all chapters share: several texts in one. -/
import Derived.Test.YtjbcgjahfalkaaaMatchP

/- Matchings of graphs that grow, and that are turned, in plain terms. -/
set_option linter.unusedVariables false
set_option linter.unusedSimpArgs false
namespace Go.Proofs.Ytjbcgjahfalkaaa
open Go.RowKit
theorem nodup_room' : ∀ (l m : List Nat), l.Nodup → (∀ x ∈ l, x ∈ m) → l.length ≤ m.length
  | [], _, _, _ => Nat.zero_le _
  | x :: l, m, h, hs => by
    obtain ⟨h1, h2⟩ := List.nodup_cons.1 h
    have hx := hs x (by simp)
    have ih := nodup_room' l (m.erase x) h2 fun y hy => (List.mem_erase_of_ne (fun e => h1 (by rw [← e]; exact hy))).2 (hs y (by simp [hy]))
    rw [List.length_erase_of_mem hx] at ih
    have : 0 < m.length := List.length_pos_of_mem hx
    simp only [List.length_cons]; omega
def moreG (g : Gr) (e : Edg) : Gr := ⟨g.left, g.right, g.edges ++ [e]⟩
def turnG (g : Gr) : Gr := ⟨g.right, g.left, g.edges.map fun e => ⟨e.r, e.l⟩⟩
theorem more_at {g : Gr} {e : Edg} {x : Int} (hx : 0 ≤ x ∧ x < g.edges.length) : (moreG g e).edges[x.toNat]? = g.edges[x.toNat]? := List.getElem?_append_left (by omega)
theorem IsMatch.more {g : Gr} {e : Edg} {l : List Int} (h : IsMatch g l) : IsMatch (moreG g e) l := by
  have hl : (moreG g e).edges.length = g.edges.length + 1 := by simp [moreG]
  refine ⟨h.rise, fun x hx => ?_, ?_⟩
  · have := h.rng x hx; omega
  · refine h.apart.imp_of_mem fun {x y} hx hy k a b ha hb => ?_
    rw [more_at (h.rng x hx)] at ha
    rw [more_at (h.rng y hy)] at hb
    exact k a b ha hb
theorem IsMatch.turn {g : Gr} {l : List Int} (h : IsMatch g l) : IsMatch (turnG g) l := by
  have hl : (turnG g).edges.length = g.edges.length := by simp [turnG]
  refine ⟨h.rise, fun x hx => by have := h.rng x hx; omega, h.apart.imp fun {x y} k a b ha hb => ?_⟩
  simp only [turnG, List.getElem?_map, Option.map_eq_some_iff] at ha hb
  obtain ⟨a', ha', rfl⟩ := ha
  obtain ⟨b', hb', rfl⟩ := hb
  obtain ⟨k1, k2⟩ := k a' b' ha' hb'
  exact ⟨k2, k1⟩
theorem IsMatch.last {g : Gr} {e : Edg} : IsMatch (moreG g e) [(g.edges.length : Int)] := by
  have hl : (moreG g e).edges.length = g.edges.length + 1 := by simp [moreG]
  exact ⟨List.pairwise_singleton _ _, fun x hx => by rw [List.mem_singleton.1 hx]; omega, List.pairwise_singleton _ _⟩
theorem IsMatch.sides {g : Gr} (hg : g.Right) {l : List Int} (h : IsMatch g l) : (l.length : Int) ≤ g.left ∧ (l.length : Int) ≤ g.right := by
  have key : ∀ (f : Edg → Int) (m : Int), 1 ≤ m → (∀ e ∈ g.edges, 1 ≤ f e ∧ f e ≤ m) → (l.Pairwise fun x y => ∀ a b, g.edges[x.toNat]? = some a → g.edges[y.toNat]? = some b → f a ≠ f b) → (l.length : Int) ≤ m := by
    intro f m hm hf hp
    have hat : ∀ x ∈ l, ∃ a, g.edges[x.toNat]? = some a ∧ 1 ≤ f a ∧ f a ≤ m := by
      intro x hx
      have := h.rng x hx
      have hlt : x.toNat < g.edges.length := by omega
      exact ⟨g.edges[x.toNat], List.getElem?_eq_getElem hlt, hf _ (List.getElem_mem hlt)⟩
    have hn : (l.map fun x => ((g.edges[x.toNat]?.map f).getD 0).toNat).Nodup := by
      rw [List.nodup_iff_pairwise_ne, List.pairwise_map]
      refine hp.imp_of_mem fun {x y} hx hy k => ?_
      obtain ⟨a, ha, ha2⟩ := hat x hx
      obtain ⟨b, hb, hb2⟩ := hat y hy
      have := k a b ha hb
      rw [ha, hb]
      simp only [Option.map_some, Option.getD_some]
      omega
    have hs : ∀ z ∈ l.map (fun x => ((g.edges[x.toNat]?.map f).getD 0).toNat), z ∈ (List.range m.toNat).map (· + 1) := by
      intro z hz
      obtain ⟨x, hx, rfl⟩ := List.mem_map.1 hz
      obtain ⟨a, ha, ha2⟩ := hat x hx
      rw [ha]
      simp only [Option.map_some, Option.getD_some]
      exact List.mem_map.2 ⟨(f a).toNat - 1, List.mem_range.2 (by omega), by omega⟩
    have := nodup_room' _ _ hn hs
    rw [List.length_map, List.length_map, List.length_range] at this
    omega
  exact ⟨key (·.l) g.left hg.left.1 (fun e he => (hg.edge e he).1) (h.apart.imp fun {x y} k a b ha hb => (k a b ha hb).1), key (·.r) g.right hg.right.1 (fun e he => (hg.edge e he).2) (h.apart.imp fun {x y} k a b ha hb => (k a b ha hb).2)⟩
end Go.Proofs.Ytjbcgjahfalkaaa


/- Edges taken one by one, in whatever order, in plain terms. -/
set_option linter.unusedVariables false
set_option linter.unusedSimpArgs false
namespace Go.Proofs.Ytjbcgjahfalkaaa
open Go.RowKit
theorem apart_match {g : Gr} {ch : List Nat} (hn : ch.Nodup) (hlt : ∀ i ∈ ch, i < g.edges.length) (hap : ∀ i ∈ ch, ∀ j ∈ ch, i ≠ j → ∀ a b, g.edges[i]? = some a → g.edges[j]? = some b → a.l ≠ b.l ∧ a.r ≠ b.r) : ∃ l, IsMatch g l ∧ ch.length ≤ l.length := by
  have hmem : ∀ x ∈ ((List.range g.edges.length).filter fun i => decide (i ∈ ch)).map fun (i : Nat) => (i : Int), ∃ i : Nat, x = i ∧ i ∈ ch ∧ i < g.edges.length := by
    intro x hx
    obtain ⟨i, hi, rfl⟩ := List.mem_map.1 hx
    have := List.mem_filter.1 hi
    exact ⟨i, rfl, by simpa using this.2, by simpa using this.1⟩
  have hrise : (((List.range g.edges.length).filter fun i => decide (i ∈ ch)).map fun (i : Nat) => (i : Int)).Pairwise (· < ·) := by
    rw [List.pairwise_map]
    exact List.Pairwise.filter _ (List.pairwise_lt_range.imp fun h => by omega)
  refine ⟨_, ⟨hrise, fun x hx => ?_, ?_⟩, ?_⟩
  · obtain ⟨i, rfl, _, h⟩ := hmem x hx
    omega
  · refine hrise.imp_of_mem ?_
    intro x y hx hy hxy a b ha hb
    obtain ⟨i, rfl, hi, _⟩ := hmem x hx
    obtain ⟨j, rfl, hj, _⟩ := hmem y hy
    exact hap i hi j hj (by omega) a b ha hb
  · rw [List.length_map]
    exact nodup_room' _ _ hn fun i hi => List.mem_filter.2 ⟨List.mem_range.2 (hlt i hi), by simpa using hi⟩
structure Greed (g : Gr) (nl nr : Nat) (ch : List Nat) (lm rm : List Bool) : Prop where
  nod : ch.Nodup
  lt : ∀ i ∈ ch, i < g.edges.length
  apart : ∀ i ∈ ch, ∀ j ∈ ch, i ≠ j → ∀ a b, g.edges[i]? = some a → g.edges[j]? = some b → a.l ≠ b.l ∧ a.r ≠ b.r
  ll : lm.length = nl + 1
  rl : rm.length = nr + 1
  lmk : ∀ v : Nat, lm[v]? = some true → ∃ i ∈ ch, ∃ e, g.edges[i]? = some e ∧ e.l = v
  lmk' : ∀ i ∈ ch, ∀ e, g.edges[i]? = some e → lm[e.l.toNat]? = some true
  rmk : ∀ v : Nat, rm[v]? = some true → ∃ i ∈ ch, ∃ e, g.edges[i]? = some e ∧ e.r = v
  rmk' : ∀ i ∈ ch, ∀ e, g.edges[i]? = some e → rm[e.r.toNat]? = some true
theorem set_true_iff {l : List Bool} {t v : Nat} (ht : t < l.length) : (l.set t true)[v]? = some true ↔ v = t ∨ l[v]? = some true := by
  rw [List.getElem?_set]
  by_cases h : t = v
  · subst h
    simp [ht]
  · rw [if_neg h]
    constructor
    · exact .inr
    · rintro (rfl | h2)
      · exact absurd rfl h
      · exact h2
theorem Greed.start {g : Gr} {nl nr : Nat} : Greed g nl nr [] (List.replicate (nl + 1) false) (List.replicate (nr + 1) false) := by
  have key : ∀ (m v : Nat), (List.replicate m false)[v]? ≠ some true := by
    intro m v h
    rw [List.getElem?_replicate] at h
    split at h <;> simp at h
  exact ⟨List.nodup_nil, by simp, by simp, by simp, by simp, fun v h => absurd h (key _ v), by simp, fun v h => absurd h (key _ v), by simp⟩
theorem Greed.add {g : Gr} {nl nr : Nat} {ch : List Nat} {lm rm : List Bool} (h : Greed g nl nr ch lm rm) {i : Nat} {e : Edg} (he : g.edges[i]? = some e) {x y : Nat} (hx : e.l = x) (hy : e.r = y) (hxl : x ≤ nl) (hyl : y ≤ nr) (h1 : lm[x]? = some false) (h2 : rm[y]? = some false) : Greed g nl nr (i :: ch) (lm.set x true) (rm.set y true) := by
  have hil := (List.getElem?_eq_some_iff.1 he).1
  have hl1 := h.ll
  have hl2 := h.rl
  have hnew : ∀ j ∈ ch, ∀ b, g.edges[j]? = some b → b.l ≠ e.l ∧ b.r ≠ e.r := by
    intro j hj b hb
    refine ⟨fun hc => ?_, fun hc => ?_⟩
    · have := h.lmk' j hj b hb
      rw [hc, hx, Int.toNat_natCast, h1] at this
      cases this
    · have := h.rmk' j hj b hb
      rw [hc, hy, Int.toNat_natCast, h2] at this
      cases this
  refine ⟨List.nodup_cons.2 ⟨fun hc => (hnew i hc e he).1 rfl, h.nod⟩, fun j hj => ?_, fun j hj k hk hjk a b ha hb => ?_, by simp [h.ll], by simp [h.rl], fun v hv => ?_, fun j hj b hb => ?_, fun v hv => ?_, fun j hj b hb => ?_⟩
  · rcases List.mem_cons.1 hj with rfl | hj
    · exact hil
    · exact h.lt j hj
  · rcases List.mem_cons.1 hj with h3 | h3 <;> rcases List.mem_cons.1 hk with h4 | h4
    · exact absurd (h3.trans h4.symm) hjk
    · rw [h3, he] at ha
      obtain rfl := Option.some.inj ha
      have := hnew k h4 b hb
      exact ⟨fun hc => this.1 hc.symm, fun hc => this.2 hc.symm⟩
    · rw [h4, he] at hb
      obtain rfl := Option.some.inj hb
      exact hnew j h3 a ha
    · exact h.apart j h3 k h4 hjk a b ha hb
  · rcases (set_true_iff (by omega)).1 hv with rfl | hv
    · exact ⟨i, by simp, e, he, hx⟩
    · obtain ⟨j, hj, b, hb, hbv⟩ := h.lmk v hv
      exact ⟨j, by simp [hj], b, hb, hbv⟩
  · refine (set_true_iff (by omega)).2 ?_
    rcases List.mem_cons.1 hj with rfl | hj
    · rw [he] at hb
      obtain rfl := Option.some.inj hb
      exact .inl (by rw [hx, Int.toNat_natCast])
    · exact .inr (h.lmk' j hj b hb)
  · rcases (set_true_iff (by omega)).1 hv with rfl | hv
    · exact ⟨i, by simp, e, he, hy⟩
    · obtain ⟨j, hj, b, hb, hbv⟩ := h.rmk v hv
      exact ⟨j, by simp [hj], b, hb, hbv⟩
  · refine (set_true_iff (by omega)).2 ?_
    rcases List.mem_cons.1 hj with rfl | hj
    · rw [he] at hb
      obtain rfl := Option.some.inj hb
      exact .inl (by rw [hy, Int.toNat_natCast])
    · exact .inr (h.rmk' j hj b hb)
end Go.Proofs.Ytjbcgjahfalkaaa
