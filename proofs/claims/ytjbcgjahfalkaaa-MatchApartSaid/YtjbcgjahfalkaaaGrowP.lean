
/- Matchings of graphs that grow, and that are turned, in plain terms. -/
import Derived.Test.YtjbcgjahfalkaaaMatchP
set_option linter.unusedVariables false
set_option linter.unusedSimpArgs false
namespace Go.Proofs.Ytjbcgjahfalkaaa
open Go.RowKit
theorem nodup_room' : ∀ (l m : List Nat), l.Nodup → (∀ x ∈ l, x ∈ m) → l.length ≤ m.length
  | [], _, _, _ => Nat.zero_le _
  | x :: l, m, h, hs => by
    obtain ⟨h1, h2⟩ := List.nodup_cons.1 h
    have hx := hs x (by simp)
    have ih := nodup_room' l (m.erase x) h2 fun y hy => (List.mem_erase_of_ne (fun e => h1 (by rw [← e]; exact hy))).2 (hs y (by simp [hy]))
    rw [List.length_erase_of_mem hx] at ih
    have : 0 < m.length := List.length_pos_of_mem hx
    simp only [List.length_cons]; omega
def moreG (g : Gr) (e : Edg) : Gr := ⟨g.left, g.right, g.edges ++ [e]⟩
def turnG (g : Gr) : Gr := ⟨g.right, g.left, g.edges.map fun e => ⟨e.r, e.l⟩⟩
theorem more_at {g : Gr} {e : Edg} {x : Int} (hx : 0 ≤ x ∧ x < g.edges.length) : (moreG g e).edges[x.toNat]? = g.edges[x.toNat]? := List.getElem?_append_left (by omega)
theorem IsMatch.more {g : Gr} {e : Edg} {l : List Int} (h : IsMatch g l) : IsMatch (moreG g e) l := by
  have hl : (moreG g e).edges.length = g.edges.length + 1 := by simp [moreG]
  refine ⟨h.rise, fun x hx => ?_, ?_⟩
  · have := h.rng x hx; omega
  · refine h.apart.imp_of_mem fun {x y} hx hy k a b ha hb => ?_
    rw [more_at (h.rng x hx)] at ha
    rw [more_at (h.rng y hy)] at hb
    exact k a b ha hb
theorem IsMatch.turn {g : Gr} {l : List Int} (h : IsMatch g l) : IsMatch (turnG g) l := by
  have hl : (turnG g).edges.length = g.edges.length := by simp [turnG]
  refine ⟨h.rise, fun x hx => by have := h.rng x hx; omega, h.apart.imp fun {x y} k a b ha hb => ?_⟩
  simp only [turnG, List.getElem?_map, Option.map_eq_some_iff] at ha hb
  obtain ⟨a', ha', rfl⟩ := ha
  obtain ⟨b', hb', rfl⟩ := hb
  obtain ⟨k1, k2⟩ := k a' b' ha' hb'
  exact ⟨k2, k1⟩
theorem IsMatch.last {g : Gr} {e : Edg} : IsMatch (moreG g e) [(g.edges.length : Int)] := by
  have hl : (moreG g e).edges.length = g.edges.length + 1 := by simp [moreG]
  exact ⟨List.pairwise_singleton _ _, fun x hx => by rw [List.mem_singleton.1 hx]; omega, List.pairwise_singleton _ _⟩
theorem IsMatch.sides {g : Gr} (hg : g.Right) {l : List Int} (h : IsMatch g l) : (l.length : Int) ≤ g.left ∧ (l.length : Int) ≤ g.right := by
  have key : ∀ (f : Edg → Int) (m : Int), 1 ≤ m → (∀ e ∈ g.edges, 1 ≤ f e ∧ f e ≤ m) → (l.Pairwise fun x y => ∀ a b, g.edges[x.toNat]? = some a → g.edges[y.toNat]? = some b → f a ≠ f b) → (l.length : Int) ≤ m := by
    intro f m hm hf hp
    have hat : ∀ x ∈ l, ∃ a, g.edges[x.toNat]? = some a ∧ 1 ≤ f a ∧ f a ≤ m := by
      intro x hx
      have := h.rng x hx
      have hlt : x.toNat < g.edges.length := by omega
      exact ⟨g.edges[x.toNat], List.getElem?_eq_getElem hlt, hf _ (List.getElem_mem hlt)⟩
    have hn : (l.map fun x => ((g.edges[x.toNat]?.map f).getD 0).toNat).Nodup := by
      rw [List.nodup_iff_pairwise_ne, List.pairwise_map]
      refine hp.imp_of_mem fun {x y} hx hy k => ?_
      obtain ⟨a, ha, ha2⟩ := hat x hx
      obtain ⟨b, hb, hb2⟩ := hat y hy
      have := k a b ha hb
      rw [ha, hb]
      simp only [Option.map_some, Option.getD_some]
      omega
    have hs : ∀ z ∈ l.map (fun x => ((g.edges[x.toNat]?.map f).getD 0).toNat), z ∈ (List.range m.toNat).map (· + 1) := by
      intro z hz
      obtain ⟨x, hx, rfl⟩ := List.mem_map.1 hz
      obtain ⟨a, ha, ha2⟩ := hat x hx
      rw [ha]
      simp only [Option.map_some, Option.getD_some]
      exact List.mem_map.2 ⟨(f a).toNat - 1, List.mem_range.2 (by omega), by omega⟩
    have := nodup_room' _ _ hn hs
    rw [List.length_map, List.length_map, List.length_range] at this
    omega
  exact ⟨key (·.l) g.left hg.left.1 (fun e he => (hg.edge e he).1) (h.apart.imp fun {x y} k a b ha hb => (k a b ha hb).1), key (·.r) g.right hg.right.1 (fun e he => (hg.edge e he).2) (h.apart.imp fun {x y} k a b ha hb => (k a b ha hb).2)⟩
end Go.Proofs.Ytjbcgjahfalkaaa
