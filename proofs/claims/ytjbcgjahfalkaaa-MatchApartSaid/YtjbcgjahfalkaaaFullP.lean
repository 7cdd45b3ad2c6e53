
/- Graphs in which each node is beside all but one, graphs beside one another, and graphs twice, in plain terms. -/
import Derived.Test.YtjbcgjahfalkaaaGreedP
set_option linter.unusedVariables false
set_option linter.unusedSimpArgs false
namespace Go.Proofs.Ytjbcgjahfalkaaa
open Go.RowKit
def mvE (g : Gr) (e : Edg) : Edg := ⟨g.left + e.l, g.right + e.r⟩
def bothG (g h : Gr) : Gr := ⟨g.left + h.left, g.right + h.right, g.edges ++ h.edges.map (mvE g)⟩
def twiceG (g : Gr) : Gr := ⟨g.left, g.right, g.edges ++ g.edges⟩
theorem bothG_right {g h : Gr} (hg : g.Right) (hh : h.Right) (h1 : g.left + h.left ≤ 200) (h2 : g.right + h.right ≤ 200) (h3 : g.edges.length + h.edges.length ≤ 1500) : (bothG g h).Right := by
  have g1 := hg.left
  have g2 := hg.right
  have k1 := hh.left
  have k2 := hh.right
  refine ⟨⟨by show 1 ≤ g.left + h.left; omega, h1⟩, ⟨by show 1 ≤ g.right + h.right; omega, h2⟩, by show (g.edges ++ h.edges.map (mvE g)).length ≤ 1500; simp; omega, fun e he => ?_⟩
  show (1 ≤ e.l ∧ e.l ≤ g.left + h.left) ∧ 1 ≤ e.r ∧ e.r ≤ g.right + h.right
  rcases List.mem_append.1 (show e ∈ g.edges ++ h.edges.map (mvE g) from he) with h4 | h4
  · have := hg.edge e h4
    omega
  · obtain ⟨d, hd, rfl⟩ := List.mem_map.1 h4
    have := hh.edge d hd
    show (1 ≤ g.left + d.l ∧ g.left + d.l ≤ g.left + h.left) ∧ 1 ≤ g.right + d.r ∧ g.right + d.r ≤ g.right + h.right
    omega
theorem twiceG_right {g : Gr} (hg : g.Right) (h3 : g.edges.length ≤ 700) : (twiceG g).Right :=
  ⟨hg.left, hg.right, by show (g.edges ++ g.edges).length ≤ 1500; simp; omega, fun e he => by
    rcases List.mem_append.1 (show e ∈ g.edges ++ g.edges from he) with h4 | h4
    · exact hg.edge e h4
    · exact hg.edge e h4⟩
theorem both_at1 {g h : Gr} {i : Nat} (hi : i < g.edges.length) : (bothG g h).edges[i]? = g.edges[i]? := List.getElem?_append_left hi
theorem both_at2 {g h : Gr} {i : Nat} (hi : g.edges.length ≤ i) : (bothG g h).edges[i]? = (h.edges[i - g.edges.length]?).map (mvE g) := by
  show (g.edges ++ h.edges.map (mvE g))[i]? = _
  rw [List.getElem?_append_right hi, List.getElem?_map]
theorem IsMatch.parts {g : Gr} {l : List Int} (h : IsMatch g l) : ∀ x ∈ l, ∀ y ∈ l, x ≠ y → ∀ a b, g.edges[x.toNat]? = some a → g.edges[y.toNat]? = some b → a.l ≠ b.l ∧ a.r ≠ b.r := by
  have hp := h.apart
  have hr := h.rise
  intro x hx y hy hxy a b ha hb
  obtain ⟨i, hi, rfl⟩ := List.mem_iff_getElem.1 hx
  obtain ⟨j, hj, rfl⟩ := List.mem_iff_getElem.1 hy
  rcases Nat.lt_trichotomy i j with h1 | h1 | h1
  · exact (List.pairwise_iff_getElem.1 hp) i j hi hj h1 a b ha hb
  · subst h1; exact absurd rfl hxy
  · have := (List.pairwise_iff_getElem.1 hp) j i hj hi h1 b a hb ha
    exact ⟨fun hc => this.1 hc.symm, fun hc => this.2 hc.symm⟩
theorem IsMatch.nodup {g : Gr} {l : List Int} (h : IsMatch g l) : l.Nodup := h.rise.imp fun h => by omega
theorem nat_nodup {l : List Int} (hn : l.Nodup) (h0 : ∀ x ∈ l, 0 ≤ x) : (l.map Int.toNat).Nodup := by
  unfold List.Nodup
  rw [List.pairwise_map]
  refine List.Pairwise.imp_of_mem ?_ hn
  intro x y hx hy hxy hc
  have := h0 x hx
  have := h0 y hy
  exact hxy (by omega)
theorem both_most {g h : Gr} (hg : g.Right) (hh : h.Right) {p q r : List Int} (hp : IsMatch g p) (bp : ∀ l, IsMatch g l → l.length ≤ p.length) (hq : IsMatch h q) (bq : ∀ l, IsMatch h l → l.length ≤ q.length) (hr : IsMatch (bothG g h) r) (br : ∀ l, IsMatch (bothG g h) l → l.length ≤ r.length) : r.length = p.length + q.length := by
  have hel : (bothG g h).edges.length = g.edges.length + h.edges.length := by simp [bothG]
  have hle : p.length + q.length ≤ r.length := by
    have n1 : (p.map Int.toNat ++ q.map fun x => g.edges.length + x.toNat).Nodup := by
      rw [List.nodup_append]
      refine ⟨nat_nodup hp.nodup fun x hx => (hp.rng x hx).1, ?_, ?_⟩
      · unfold List.Nodup
        rw [List.pairwise_map]
        refine List.Pairwise.imp_of_mem ?_ hq.nodup
        intro x y hx hy hxy hc
        have := hq.rng x hx
        have := hq.rng y hy
        exact hxy (by omega)
      · intro x hx y hy hxy
        obtain ⟨u, hu, rfl⟩ := List.mem_map.1 hx
        obtain ⟨w, hw, rfl⟩ := List.mem_map.1 hy
        have := hp.rng u hu
        omega
    have n2 : ∀ i ∈ (p.map Int.toNat ++ q.map fun x => g.edges.length + x.toNat), i < (bothG g h).edges.length := by
      intro i hi
      rw [hel]
      rcases List.mem_append.1 hi with hi | hi
      · obtain ⟨u, hu, rfl⟩ := List.mem_map.1 hi
        have := hp.rng u hu
        omega
      · obtain ⟨u, hu, rfl⟩ := List.mem_map.1 hi
        have := hq.rng u hu
        omega
    have n3 : ∀ i ∈ (p.map Int.toNat ++ q.map fun x => g.edges.length + x.toNat), ∀ j ∈ (p.map Int.toNat ++ q.map fun x => g.edges.length + x.toNat), i ≠ j → ∀ a b, (bothG g h).edges[i]? = some a → (bothG g h).edges[j]? = some b → a.l ≠ b.l ∧ a.r ≠ b.r := by
      intro i hi j hj hij a b ha hb
      have gpos : ∀ e ∈ g.edges, e.l ≤ g.left ∧ e.r ≤ g.right := fun e he => by have := hg.edge e he; omega
      have hpos : ∀ e ∈ h.edges, 1 ≤ e.l ∧ 1 ≤ e.r := fun e he => by have := hh.edge e he; omega
      have cross : ∀ (x y : Nat) (a b : Edg), x < g.edges.length → g.edges.length ≤ y → (bothG g h).edges[x]? = some a → (bothG g h).edges[y]? = some b → a.l ≠ b.l ∧ a.r ≠ b.r := by
        intro x y a b hx hy ha hb
        rw [both_at1 hx] at ha
        rw [both_at2 hy] at hb
        cases hd : h.edges[y - g.edges.length]? with
        | none => rw [hd] at hb; simp at hb
        | some d =>
          rw [hd] at hb
          obtain rfl : mvE g d = b := by simpa using hb
          have := gpos a (List.mem_of_getElem? ha)
          have := hpos d (List.mem_of_getElem? hd)
          refine ⟨?_, ?_⟩
          · show a.l ≠ g.left + d.l; omega
          · show a.r ≠ g.right + d.r; omega
      rcases List.mem_append.1 hi with hi | hi <;> rcases List.mem_append.1 hj with hj | hj
      · obtain ⟨u, hu, rfl⟩ := List.mem_map.1 hi
        obtain ⟨w, hw, rfl⟩ := List.mem_map.1 hj
        have h1 := hp.rng u hu
        have h2 := hp.rng w hw
        rw [both_at1 (by omega)] at ha hb
        exact hp.parts u hu w hw (fun hc => hij (by rw [hc])) a b ha hb
      · obtain ⟨u, hu, rfl⟩ := List.mem_map.1 hi
        obtain ⟨w, hw, rfl⟩ := List.mem_map.1 hj
        have h1 := hp.rng u hu
        exact cross _ _ a b (by omega) (by omega) ha hb
      · obtain ⟨u, hu, rfl⟩ := List.mem_map.1 hi
        obtain ⟨w, hw, rfl⟩ := List.mem_map.1 hj
        have h1 := hp.rng w hw
        have := cross _ _ b a (by omega) (by omega) hb ha
        exact ⟨fun hc => this.1 hc.symm, fun hc => this.2 hc.symm⟩
      · obtain ⟨u, hu, rfl⟩ := List.mem_map.1 hi
        obtain ⟨w, hw, rfl⟩ := List.mem_map.1 hj
        rw [both_at2 (by omega), show g.edges.length + u.toNat - g.edges.length = u.toNat by omega] at ha
        rw [both_at2 (by omega), show g.edges.length + w.toNat - g.edges.length = w.toNat by omega] at hb
        cases h1 : h.edges[u.toNat]? with
        | none => rw [h1] at ha; simp at ha
        | some d =>
          cases h2 : h.edges[w.toNat]? with
          | none => rw [h2] at hb; simp at hb
          | some d2 =>
            rw [h1] at ha
            rw [h2] at hb
            obtain rfl : mvE g d = a := by simpa using ha
            obtain rfl : mvE g d2 = b := by simpa using hb
            have := hq.parts u hu w hw (fun hc => hij (by rw [hc])) d d2 h1 h2
            refine ⟨?_, ?_⟩
            · show g.left + d.l ≠ g.left + d2.l; omega
            · show g.right + d.r ≠ g.right + d2.r; omega
    obtain ⟨l, hl, hcl⟩ := apart_match n1 n2 n3
    have := br l hl
    simp at hcl
    omega
  have h2 := filter_two (fun x : Int => decide (x < (g.edges.length : Int))) r
  have hA : (r.filter fun x : Int => decide (x < (g.edges.length : Int))).length ≤ p.length := by
    refine bp _ ⟨List.Pairwise.filter _ hr.rise, fun x hx => ?_, ?_⟩
    · have h3 := List.mem_filter.1 hx
      have := hr.rng x h3.1
      exact ⟨this.1, by simpa using h3.2⟩
    · refine (List.Pairwise.filter _ hr.apart).imp_of_mem ?_
      intro x y hx hy hxy a b ha hb
      have h3 := List.mem_filter.1 hx
      have h4 := List.mem_filter.1 hy
      have h5 := hr.rng x h3.1
      have h6 := hr.rng y h4.1
      have h7 : x < g.edges.length := by simpa using h3.2
      have h8 : y < g.edges.length := by simpa using h4.2
      exact hxy a b (by rw [both_at1 (by omega)]; exact ha) (by rw [both_at1 (by omega)]; exact hb)
  have hB : ((r.filter fun x : Int => !decide (x < (g.edges.length : Int))).map fun x : Int => x - (g.edges.length : Int)).length ≤ q.length := by
    refine bq _ ⟨?_, fun x hx => ?_, ?_⟩
    · rw [List.pairwise_map]
      exact (List.Pairwise.filter _ hr.rise).imp fun h => by omega
    · obtain ⟨y, hy, rfl⟩ := List.mem_map.1 hx
      have h3 := List.mem_filter.1 hy
      have h4 := hr.rng y h3.1
      have h5 : ¬ y < g.edges.length := by simpa using h3.2
      rw [hel] at h4
      omega
    · rw [List.pairwise_map]
      refine (List.Pairwise.filter _ hr.apart).imp_of_mem ?_
      intro x y hx hy hxy a b ha hb
      have h3 := List.mem_filter.1 hx
      have h4 := List.mem_filter.1 hy
      have h7 : ¬ x < g.edges.length := by simpa using h3.2
      have h8 : ¬ y < g.edges.length := by simpa using h4.2
      have := hxy (mvE g a) (mvE g b) (by rw [both_at2 (by omega), show x.toNat - g.edges.length = (x - g.edges.length).toNat by omega, ha]; rfl) (by rw [both_at2 (by omega), show y.toNat - g.edges.length = (y - g.edges.length).toNat by omega, hb]; rfl)
      refine ⟨fun hc => this.1 ?_, fun hc => this.2 ?_⟩
      · show g.left + a.l = g.left + b.l; omega
      · show g.right + a.r = g.right + b.r; omega
  rw [List.length_map] at hB
  omega
theorem twice_most {g : Gr} {p r : List Int} (hp : IsMatch g p) (bp : ∀ l, IsMatch g l → l.length ≤ p.length) (hr : IsMatch (twiceG g) r) (br : ∀ l, IsMatch (twiceG g) l → l.length ≤ r.length) : r.length = p.length := by
  have hel : (twiceG g).edges.length = g.edges.length + g.edges.length := by simp [twiceG]
  have h1 : p.length ≤ r.length := br p ⟨hp.rise, fun x hx => by have := hp.rng x hx; rw [hel]; omega, hp.apart.imp_of_mem (by
    intro x y hx hy hxy a b ha hb
    have h3 := hp.rng x hx
    have h4 := hp.rng y hy
    exact hxy a b (by rw [← ha]; exact (List.getElem?_append_left (by omega)).symm) (by rw [← hb]; exact (List.getElem?_append_left (by omega)).symm))⟩
  obtain ⟨dn, hdn⟩ : ∃ dn : Int → Nat, dn = fun x : Int => if x < (g.edges.length : Int) then x.toNat else x.toNat - g.edges.length := ⟨_, rfl⟩
  have hat : ∀ x ∈ r, dn x < g.edges.length ∧ (twiceG g).edges[x.toNat]? = g.edges[dn x]? := by
    intro x hx
    have h3 := hr.rng x hx
    rw [hel] at h3
    rw [hdn]
    simp only
    by_cases h4 : x < g.edges.length
    · rw [if_pos h4]
      exact ⟨by omega, List.getElem?_append_left (by omega)⟩
    · rw [if_neg h4]
      exact ⟨by omega, List.getElem?_append_right (by omega)⟩
  have n1 : (r.map dn).Nodup := by
    unfold List.Nodup
    rw [List.pairwise_map]
    refine List.Pairwise.imp_of_mem ?_ hr.nodup
    intro x y hx hy hxy hc
    obtain ⟨k1, k2⟩ := hat x hx
    obtain ⟨k3, k4⟩ := hat y hy
    have e := List.getElem?_eq_getElem k3
    rw [hc, e] at k2
    rw [e] at k4
    exact (hr.parts x hx y hy hxy _ _ k2 k4).1 rfl
  have n2 : ∀ i ∈ r.map dn, i < g.edges.length := by
    intro i hi
    obtain ⟨x, hx, rfl⟩ := List.mem_map.1 hi
    exact (hat x hx).1
  have n3 : ∀ i ∈ r.map dn, ∀ j ∈ r.map dn, i ≠ j → ∀ a b, g.edges[i]? = some a → g.edges[j]? = some b → a.l ≠ b.l ∧ a.r ≠ b.r := by
    intro i hi j hj hij a b ha hb
    obtain ⟨x, hx, rfl⟩ := List.mem_map.1 hi
    obtain ⟨y, hy, rfl⟩ := List.mem_map.1 hj
    exact hr.parts x hx y hy (fun hc => hij (by rw [hc])) a b (by rw [(hat x hx).2]; exact ha) (by rw [(hat y hy).2]; exact hb)
  obtain ⟨l, hl, hcl⟩ := apart_match n1 n2 n3
  have := bp l hl
  simp at hcl
  omega
end Go.Proofs.Ytjbcgjahfalkaaa
