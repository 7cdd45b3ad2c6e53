
/- Two networks beside one another, from one source to one sink, in plain terms. -/
import Derived.Test.YtcgcimnjknadjaaMoreP
set_option linter.unusedVariables false
set_option linter.unusedSimpArgs false
namespace Go.Proofs.Ytcgcimnjknadjaa
open Go.RowKit
/-- A node of the second network, beside the first one. -/
def mvZ (N M : Net) (v : Int) : Int := if v = M.src then N.src else if v = M.snk then N.snk else N.nodes + v
def mvA (N M : Net) (a : Arc) : Arc := ⟨mvZ N M a.fr, mvZ N M a.to, a.cap⟩
def bothN (N M : Net) : Net := ⟨N.nodes + M.nodes, N.src, N.snk, N.arcs ++ M.arcs.map (mvA N M)⟩
theorem right_small {M : Net} (h1 : 2 ≤ M.nodes ∧ M.nodes ≤ 500) (h2 : 1 ≤ M.src ∧ M.src ≤ M.nodes) (h3 : 1 ≤ M.snk ∧ M.snk ≤ M.nodes) (h4 : M.src ≠ M.snk) (hl : M.arcs.length ≤ 2000) (ha : ∀ a ∈ M.arcs, ((1 ≤ a.fr ∧ a.fr ≤ M.nodes) ∧ (1 ≤ a.to ∧ a.to ≤ M.nodes)) ∧ 0 ≤ a.cap ∧ a.cap ≤ 2000000000000000) : M.Right := by
  refine ⟨h1, h2, h3, h4, hl, fun a h => ?_, ?_⟩
  · have := ha a h
    exact ⟨this.1.1, this.1.2, this.2.1⟩
  · have key : ∀ l : List Arc, (∀ a ∈ l, a.cap ≤ 2000000000000000) → (l.map (·.cap)).sum ≤ 2000000000000000 * l.length := by
      intro l
      induction l with
      | nil => intro _; exact Int.le_refl _
      | cons a l ih =>
        intro h
        have e1 := ih fun b hb => h b (by simp [hb])
        have e2 := h a (by simp)
        simp only [List.map_cons, List.sum_cons, List.length_cons]
        omega
    have := key M.arcs fun a h => (ha a h).2.2
    omega
section
variable {N M : Net} (hN : N.Right) (hM : M.Right)
theorem mv_src : mvZ N M M.src = N.src := by simp [mvZ]
include hM in
theorem mv_snk : mvZ N M M.snk = N.snk := by
  have := hM.diff
  unfold mvZ
  rw [if_neg (fun h => this h.symm), if_pos rfl]
theorem mv_else {v : Int} (h1 : v ≠ M.src) (h2 : v ≠ M.snk) : mvZ N M v = N.nodes + v := by
  unfold mvZ
  rw [if_neg h1, if_neg h2]
include hN in
theorem mv_rng {v : Int} (hv : 1 ≤ v ∧ v ≤ M.nodes) : 1 ≤ mvZ N M v ∧ mvZ N M v ≤ N.nodes + M.nodes := by
  have h1 := hN.src
  have h2 := hN.snk
  have h3 := hN.nodes
  unfold mvZ
  split
  · omega
  · split <;> omega
theorem both_right (hN : N.Right) (hM : M.Right) (h1 : N.nodes + M.nodes ≤ 500) (h2 : N.arcs.length + M.arcs.length ≤ 2000) (c1 : ∀ a ∈ N.arcs, a.cap ≤ 1000000) (c2 : ∀ a ∈ M.arcs, a.cap ≤ 1000000) : (bothN N M).Right := by
  have n1 := hN.nodes
  have n2 := hM.nodes
  have s1 := hN.src
  have s2 := hN.snk
  refine right_small ⟨by show 2 ≤ N.nodes + M.nodes; omega, h1⟩ ⟨s1.1, by show N.src ≤ N.nodes + M.nodes; omega⟩ ⟨s2.1, by show N.snk ≤ N.nodes + M.nodes; omega⟩ hN.diff (by simp [bothN]; omega) fun a ha => ?_
  rcases List.mem_append.1 (show a ∈ N.arcs ++ M.arcs.map (mvA N M) from ha) with h | h
  · have g := hN.arc a h
    have g2 := c1 a h
    exact ⟨⟨⟨g.1.1, by show a.fr ≤ N.nodes + M.nodes; omega⟩, g.2.1.1, by show a.to ≤ N.nodes + M.nodes; omega⟩, g.2.2, by omega⟩
  · obtain ⟨d, hd, rfl⟩ := List.mem_map.1 h
    have g := hM.arc d hd
    have g2 := c2 d hd
    exact ⟨⟨mv_rng hN g.1, mv_rng hN g.2.1⟩, g.2.2, by show d.cap ≤ _; omega⟩
theorem ex_moved {u v : Int} : ∀ (l : List Arc) (g : List Int), (∀ a ∈ l, (mvZ N M a.fr = v ↔ a.fr = u) ∧ (mvZ N M a.to = v ↔ a.to = u)) → exZ ((l.map (mvA N M)).zip g) v = exZ (l.zip g) u
  | [], _, _ => rfl
  | _ :: _, [], _ => rfl
  | a :: l, x :: g, h => by
    have ih := ex_moved l g fun b hb => h b (by simp [hb])
    have ha := h a (by simp)
    unfold exZ at ih ⊢
    simp only [List.map_cons, List.zip_cons_cons, List.sum_cons]
    rw [ih]
    simp only [mvA, ha.1, ha.2]
theorem ex_none {v : Int} : ∀ (l : List Arc) (g : List Int), (∀ a ∈ l, a.fr ≠ v ∧ a.to ≠ v) → exZ (l.zip g) v = 0
  | [], _, _ => rfl
  | _ :: _, [], _ => rfl
  | a :: l, x :: g, h => by
    have ih := ex_none l g fun b hb => h b (by simp [hb])
    have ha := h a (by simp)
    unfold exZ at ih ⊢
    simp only [List.zip_cons_cons, List.map_cons, List.sum_cons]
    rw [ih, if_neg ha.1, if_neg ha.2]; rfl
include hN hM in
/-- Both flows together are one. -/
theorem both_flow {f g : List Int} (hf : IsFlow N f) (hg : IsFlow M g) : IsFlow (bothN N M) (f ++ g) ∧ exZ ((bothN N M).arcs.zip (f ++ g)) N.snk = exZ (N.arcs.zip f) N.snk + exZ (M.arcs.zip g) M.snk := by
  have hz : (bothN N M).arcs.zip (f ++ g) = N.arcs.zip f ++ (M.arcs.map (mvA N M)).zip g := List.zip_append hf.len.symm
  have n1 := hN.nodes
  have n2 := hM.nodes
  have s1 := hN.src
  have s2 := hN.snk
  have sd := hN.diff
  have t1 := hM.src
  have t2 := hM.snk
  have td := hM.diff
  have hin : ∀ {x : Int}, 1 ≤ x ∧ x ≤ M.nodes → x ≠ M.src → x ≠ M.snk → mvZ N M x = N.nodes + x := fun _ h1 h2 => mv_else h1 h2
  refine ⟨⟨⟨?_, fun p hp => ?_⟩, fun v h1 h2 h3 => ?_⟩, ?_⟩
  · show (f ++ g).length = (N.arcs ++ M.arcs.map (mvA N M)).length
    simp [hf.len, hg.len]
  · rw [hz] at hp
    rcases List.mem_append.1 hp with hp | hp
    · exact hf.all p hp
    · rw [List.zip_map_left] at hp
      obtain ⟨⟨a, x⟩, hq, rfl⟩ := List.mem_map.1 hp
      have := hg.all (a, x) hq
      exact this
  · have h1' : 1 ≤ v ∧ v ≤ N.nodes + M.nodes := h1
    have h2' : v ≠ N.src := h2
    have h3' : v ≠ N.snk := h3
    rw [hz, exZ_app]
    by_cases hv : v ≤ N.nodes
    · rw [hf.kept v ⟨h1'.1, hv⟩ h2 h3, ex_none _ g, Int.add_zero]
      intro a ha
      obtain ⟨d, hd, rfl⟩ := List.mem_map.1 ha
      have hdr := hM.arc d hd
      have key : ∀ x : Int, 1 ≤ x ∧ x ≤ M.nodes → mvZ N M x ≠ v := by
        intro x hx
        unfold mvZ
        split
        · exact fun h => h2' h.symm
        · split
          · exact fun h => h3' h.symm
          · omega
      exact ⟨key _ hdr.1, key _ hdr.2.1⟩
    · rw [ex_none N.arcs f (fun a ha => by have := hN.arc a ha; exact ⟨by omega, by omega⟩), Int.zero_add]
      by_cases hu : v - N.nodes = M.src ∨ v - N.nodes = M.snk
      · refine ex_none _ g fun a ha => ?_
        obtain ⟨d, hd, rfl⟩ := List.mem_map.1 ha
        have hdr := hM.arc d hd
        have key : ∀ x : Int, 1 ≤ x ∧ x ≤ M.nodes → mvZ N M x ≠ v := by
          intro x hx
          unfold mvZ
          split
          · exact fun h => h2' h.symm
          · split
            · exact fun h => h3' h.symm
            · omega
        exact ⟨key _ hdr.1, key _ hdr.2.1⟩
      · rw [ex_moved (u := v - N.nodes) M.arcs g]
        · exact hg.kept _ ⟨by omega, by omega⟩ (fun h => hu (.inl h)) (fun h => hu (.inr h))
        · intro a ha
          have hdr := hM.arc a ha
          have key : ∀ x : Int, 1 ≤ x ∧ x ≤ M.nodes → (mvZ N M x = v ↔ x = v - N.nodes) := by
            intro x hx
            unfold mvZ
            split
            · rename_i h0
              exact ⟨fun h => absurd h.symm h2', fun h => absurd (.inl (h ▸ h0)) hu⟩
            · split
              · rename_i h0
                exact ⟨fun h => absurd h.symm h3', fun h => absurd (.inr (h ▸ h0)) hu⟩
              · omega
          exact ⟨key _ hdr.1, key _ hdr.2.1⟩
  · rw [hz, exZ_app, ex_moved (u := M.snk) M.arcs g]
    intro a ha
    have hdr := hM.arc a ha
    have key : ∀ x : Int, 1 ≤ x ∧ x ≤ M.nodes → (mvZ N M x = N.snk ↔ x = M.snk) := by
      intro x hx
      unfold mvZ
      split
      · rename_i h0
        exact ⟨fun h => absurd h sd, fun h => absurd (h0.symm.trans h) td⟩
      · split
        · rename_i h0
          exact ⟨fun _ => h0, fun _ => rfl⟩
        · rename_i h0
          exact ⟨fun h => by omega, fun h => absurd h h0⟩
    exact ⟨key _ hdr.1, key _ hdr.2.1⟩
theorem capZ_congr {s t : List Int} : ∀ (l k : List Arc), l.length = k.length → (∀ (i : Nat) (a d : Arc), l[i]? = some a → k[i]? = some d → (a.fr ∈ s ↔ d.fr ∈ t) ∧ (a.to ∈ s ↔ d.to ∈ t) ∧ a.cap = d.cap) → capZ s l = capZ t k
  | [], [], _, _ => rfl
  | [], _ :: _, h, _ => by simp at h
  | _ :: _, [], h, _ => by simp at h
  | a :: l, d :: k, h, g => by
    have ih := capZ_congr l k (by simpa using h) fun i x y hx hy => g (i + 1) x y (by simpa using hx) (by simpa using hy)
    obtain ⟨g1, g2, g3⟩ := g 0 a d rfl rfl
    unfold capZ at ih ⊢
    simp only [List.map_cons, List.sum_cons]
    rw [ih]
    simp only [g1, g2, g3]
include hN hM in
theorem both_cut {s t : List Int} (hs : IsCut N s) (ht : IsCut M t) : IsCut (bothN N M) (s ++ t.map (N.nodes + ·)) ∧ capZ (s ++ t.map (N.nodes + ·)) (bothN N M).arcs = capZ s N.arcs + capZ t M.arcs := by
  have n1 := hN.nodes
  have n2 := hM.nodes
  have s1 := hN.src
  have s2 := hN.snk
  have hlow : ∀ x : Int, x ≤ N.nodes → (x ∈ s ++ t.map (N.nodes + ·) ↔ x ∈ s) := by
    intro x hx
    rw [List.mem_append]
    refine ⟨fun h => ?_, .inl⟩
    rcases h with h | h
    · exact h
    · obtain ⟨y, hy, rfl⟩ := List.mem_map.1 h
      have := ht.rng y hy
      omega
  have hhigh : ∀ x : Int, 1 ≤ x → (N.nodes + x ∈ s ++ t.map (N.nodes + ·) ↔ x ∈ t) := by
    intro x hx
    rw [List.mem_append]
    refine ⟨fun h => ?_, fun h => .inr (List.mem_map.2 ⟨x, h, rfl⟩)⟩
    rcases h with h | h
    · have := hs.rng _ h
      omega
    · obtain ⟨y, hy, he⟩ := List.mem_map.1 h
      have : y = x := by have : N.nodes + y = N.nodes + x := he; omega
      exact this ▸ hy
  have hmv : ∀ x : Int, 1 ≤ x → (mvZ N M x ∈ s ++ t.map (N.nodes + ·) ↔ x ∈ t) := by
    intro x hx
    unfold mvZ
    split
    · rename_i h0
      rw [hlow _ s1.2, h0]
      exact ⟨fun _ => ht.src, fun _ => hs.src⟩
    · split
      · rename_i h0
        rw [hlow _ s2.2, h0]
        exact ⟨fun h => absurd h hs.snk, fun h => absurd h ht.snk⟩
      · exact hhigh x hx
  refine ⟨⟨?_, fun x hx => ?_, (hlow _ s1.2).2 hs.src, fun h => hs.snk ((hlow _ s2.2).1 h)⟩, ?_⟩
  · rw [List.pairwise_append]
    refine ⟨hs.rise, ?_, fun x hx y hy => ?_⟩
    · rw [List.pairwise_map]
      exact ht.rise.imp fun {a b} h => by omega
    · obtain ⟨z, hz, rfl⟩ := List.mem_map.1 hy
      have h1 := hs.rng x hx
      have h2 := ht.rng z hz
      omega
  · show 1 ≤ x ∧ x ≤ N.nodes + M.nodes
    rcases List.mem_append.1 hx with h | h
    · have := hs.rng x h
      omega
    · obtain ⟨z, hz, rfl⟩ := List.mem_map.1 h
      have := ht.rng z hz
      omega
  · show capZ _ (N.arcs ++ M.arcs.map (mvA N M)) = _
    rw [capZ_app]
    congr 1
    · refine capZ_congr _ _ rfl fun i a d ha hd => ?_
      rw [ha] at hd
      obtain rfl := Option.some.inj hd
      have := hN.arc a (List.mem_of_getElem? ha)
      exact ⟨hlow _ this.1.2, hlow _ this.2.1.2, rfl⟩
    · refine capZ_congr _ _ (by simp) fun i a d ha hd => ?_
      rw [List.getElem?_map, hd] at ha
      obtain rfl := Option.some.inj ha
      have := hM.arc d (List.mem_of_getElem? hd)
      exact ⟨hmv _ this.1.1, hmv _ this.2.1.1, rfl⟩
end
/-- What both let through is what each does. -/
theorem apart_value {N M : Net} (hN : N.Right) (hM : M.Right) (hB : (bothN N M).Right) {f g h l1 l2 l3 : List Int} (hf : IsFlow N f) (hl1 : IsLev N (roomL (N.arcs.zip f)) 1 l1) (h1 : lvZ l1 N.snk.toNat < 0)
    (hg : IsFlow M g) (hl2 : IsLev M (roomL (M.arcs.zip g)) 1 l2) (h2 : lvZ l2 M.snk.toNat < 0) (hh : IsFlow (bothN N M) h) (hl3 : IsLev (bothN N M) (roomL ((bothN N M).arcs.zip h)) 1 l3) (h3 : lvZ l3 N.snk.toNat < 0) :
    exZ ((bothN N M).arcs.zip h) N.snk = exZ (N.arcs.zip f) N.snk + exZ (M.arcs.zip g) M.snk := by
  obtain ⟨s, hs, es⟩ := cut_at hN hf hl1 h1
  obtain ⟨t, ht, et⟩ := cut_at hM hg hl2 h2
  obtain ⟨hc, ec⟩ := both_cut hN hM hs ht
  obtain ⟨hfg, ev⟩ := both_flow hN hM hf hg
  have e1 : exZ ((bothN N M).arcs.zip h) N.snk ≤ _ := weak_cut hB hh hc
  have e2 : exZ ((bothN N M).arcs.zip (f ++ g)) N.snk ≤ exZ ((bothN N M).arcs.zip h) N.snk := great hB hh hfg hl3 h3
  omega
end Go.Proofs.Ytcgcimnjknadjaa
