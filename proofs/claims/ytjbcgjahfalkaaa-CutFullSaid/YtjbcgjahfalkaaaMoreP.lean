
/- Networks with arcs more, and with more capacity, in plain terms. -/
import Derived.Test.YtjbcgjahfalkaaaRiseP
set_option linter.unusedVariables false
set_option linter.unusedSimpArgs false
namespace Go.Proofs.Ytjbcgjahfalkaaa
open Go.RowKit
def addArcs (N : Net) (l : List Arc) : Net := ⟨N.nodes, N.src, N.snk, N.arcs ++ l⟩
theorem exZ_app (p q : List (Arc × Int)) (v : Int) : exZ (p ++ q) v = exZ p v + exZ q v := by simp [exZ]
theorem exZ_noughts : ∀ (l : List Arc) (v : Int), exZ (l.zip (List.replicate l.length 0)) v = 0
  | [], _ => rfl
  | a :: l, v => by
    have := exZ_noughts l v
    unfold exZ at this ⊢
    simp only [List.length_cons, List.replicate_succ, List.zip_cons_cons, List.map_cons, List.sum_cons, ite_self]
    omega
/-- A flow, with nothing on the arcs that come behind. -/
theorem flow_add {N : Net} {f : List Int} {l : List Arc} (hf : IsFlow N f) (hl : ∀ a ∈ l, 0 ≤ a.cap) : IsFlow (addArcs N l) (f ++ List.replicate l.length 0) ∧ ∀ v, exZ ((addArcs N l).arcs.zip (f ++ List.replicate l.length 0)) v = exZ (N.arcs.zip f) v := by
  have hz : (addArcs N l).arcs.zip (f ++ List.replicate l.length 0) = N.arcs.zip f ++ l.zip (List.replicate l.length 0) := List.zip_append hf.len.symm
  have he : ∀ v, exZ ((addArcs N l).arcs.zip (f ++ List.replicate l.length 0)) v = exZ (N.arcs.zip f) v := by
    intro v
    rw [hz, exZ_app, exZ_noughts]; omega
  refine ⟨⟨⟨by simp [addArcs, hf.len], fun p hp => ?_⟩, fun v h1 h2 h3 => by rw [he]; exact hf.kept v h1 h2 h3⟩, he⟩
  rw [hz] at hp
  rcases List.mem_append.1 hp with hp | hp
  · exact hf.all p hp
  · obtain ⟨a, x⟩ := p
    have h1 := List.of_mem_zip hp
    rw [(List.mem_replicate.1 h1.2).2]
    exact ⟨Int.le_refl _, hl a h1.1⟩
theorem cut_of {N M : Net} (h1 : M.nodes = N.nodes) (h2 : M.src = N.src) (h3 : M.snk = N.snk) {s : List Int} (h : IsCut N s) : IsCut M s := ⟨h.rise, fun x hx => by rw [h1]; exact h.rng x hx, by rw [h2]; exact h.src, by rw [h3]; exact h.snk⟩
open Classical in
theorem cut_at {N : Net} (hR : N.Right) {f lv : List Int} (hf : IsFlow N f) (hlv : IsLev N (roomL (N.arcs.zip f)) 1 lv) (hs : lvZ lv N.snk.toNat < 0) : ∃ s, IsCut N s ∧ capZ s N.arcs = exZ (N.arcs.zip f) N.snk := by
  have hnn := hR.nodes
  obtain ⟨n, hn⟩ : ∃ n : Nat, N.nodes = n := ⟨N.nodes.toNat, by omega⟩
  have hno := no_reach hf.toRanged hlv hs
  have hlr : ∀ v : Nat, ((List.range (n + 1)).map fun (v : Nat) => decide (Rch N (roomL (N.arcs.zip f)) 1 (v : Int)))[v]? = some true ↔ v ≤ n ∧ Rch N (roomL (N.arcs.zip f)) 1 v := by
    intro v
    rw [List.getElem?_map]
    by_cases h : v < n + 1
    · rw [List.getElem?_range h]
      simp only [Option.map_some, Option.some.injEq, decide_eq_true_eq]
      exact ⟨fun h2 => ⟨by omega, h2⟩, fun h2 => h2.2⟩
    · rw [List.getElem?_eq_none (by rw [List.length_range]; omega)]
      simp only [Option.map_none]
      exact ⟨fun h2 => (by cases h2), fun h2 => by omega⟩
  obtain ⟨hc, hcl⟩ := first_cut hR hf hn hno hlr
  exact ⟨_, hc, (closed_cut hR hf hc).2 hcl⟩
theorem sum_none (l : List Arc) : (l.map fun _ => (0 : Int)).sum = 0 := by
  induction l with
  | nil => rfl
  | cons a l ih => simpa using ih
theorem capZ_app (s : List Int) (p q : List Arc) : capZ s (p ++ q) = capZ s p + capZ s q := by simp [capZ]
/-- Arcs that no cut is crossed by make no difference. -/
theorem add_same {N : Net} (hR : N.Right) {l : List Arc} (hM : (addArcs N l).Right) (hl : ∀ a ∈ l, 0 ≤ a.cap ∧ (a.fr = a.to ∨ a.to = N.src ∨ a.fr = N.snk)) {f g lv : List Int} (hf : IsFlow N f) (hlv : IsLev N (roomL (N.arcs.zip f)) 1 lv) (hs : lvZ lv N.snk.toNat < 0)
    (hg : IsFlow (addArcs N l) g) {lw : List Int} (hlw : IsLev (addArcs N l) (roomL ((addArcs N l).arcs.zip g)) 1 lw) (hw : lvZ lw N.snk.toNat < 0) : exZ ((addArcs N l).arcs.zip g) N.snk = exZ (N.arcs.zip f) N.snk := by
  obtain ⟨h1, h2⟩ := flow_add hf (fun a ha => (hl a ha).1)
  have e1 := great hM hg h1 hlw hw
  have e2 := h2 N.snk
  obtain ⟨s, hc, hcap⟩ := cut_at hR hf hlv hs
  have hc2 : IsCut (addArcs N l) s := ⟨hc.rise, hc.rng, hc.src, hc.snk⟩
  have e3 := weak_cut hM hg hc2
  have e4 : capZ s (addArcs N l).arcs = capZ s N.arcs := by
    show capZ s (N.arcs ++ l) = _
    rw [capZ_app]
    have : capZ s l = 0 := by
      unfold capZ
      have : l.map (fun a => if a.fr ∈ s ∧ a.to ∉ s then a.cap else 0) = l.map fun _ => 0 := List.map_congr_left fun a ha => by
        rw [if_neg]
        rintro ⟨j1, j2⟩
        rcases (hl a ha).2 with h | h | h
        · rw [h] at j1; exact j2 j1
        · rw [h] at j2; exact j2 hc.src
        · rw [h] at j1; exact hc.snk j1
      rw [this, sum_none]
    omega
  have e5 : exZ ((addArcs N l).arcs.zip g) (addArcs N l).snk ≤ capZ s (addArcs N l).arcs := e3
  have e6 : exZ ((addArcs N l).arcs.zip (f ++ List.replicate l.length 0)) (addArcs N l).snk ≤ exZ ((addArcs N l).arcs.zip g) (addArcs N l).snk := e1
  have e7 : (addArcs N l).snk = N.snk := rfl
  rw [e7] at e5 e6
  omega
/-- One arc lets more through. -/
def moreArc (N : Net) (k : Nat) (x : Int) : Net := ⟨N.nodes, N.src, N.snk, N.arcs.modify k fun a => ⟨a.fr, a.to, a.cap + x⟩⟩
theorem more_zip : ∀ (l : List Arc) (f : List Int) (k : Nat) (x v : Int), exZ ((l.modify k fun a => ⟨a.fr, a.to, a.cap + x⟩).zip f) v = exZ (l.zip f) v
  | [], _, _, _, _ => by simp
  | a :: l, [], _, _, _ => by simp
  | a :: l, y :: f, 0, x, v => by simp [exZ]
  | a :: l, y :: f, k + 1, x, v => by
    have := more_zip l f k x v
    unfold exZ at this ⊢
    simp only [List.modify_succ_cons, List.zip_cons_cons, List.map_cons, List.sum_cons]
    omega
theorem more_cap (s : List Int) {x : Int} (hx : 0 ≤ x) : ∀ (l : List Arc) (k : Nat), capZ s (l.modify k fun a => ⟨a.fr, a.to, a.cap + x⟩) ≤ capZ s l + x
  | [], _ => by simp [capZ]; omega
  | a :: l, 0 => by
    unfold capZ
    simp only [List.modify_zero_cons, List.map_cons, List.sum_cons]
    split <;> omega
  | a :: l, k + 1 => by
    have := more_cap s hx l k
    unfold capZ at this ⊢
    simp only [List.modify_succ_cons, List.map_cons, List.sum_cons]
    omega
theorem more_ranged {x : Int} (hx : 0 ≤ x) : ∀ (l : List Arc) (f : List Int) (k : Nat), (∀ p ∈ l.zip f, 0 ≤ p.2 ∧ p.2 ≤ p.1.cap) → ∀ p ∈ (l.modify k fun a => ⟨a.fr, a.to, a.cap + x⟩).zip f, 0 ≤ p.2 ∧ p.2 ≤ p.1.cap
  | [], _, _, _, p, hp => by simp at hp
  | a :: l, [], _, _, p, hp => by simp at hp
  | a :: l, y :: f, 0, h, p, hp => by
    simp only [List.modify_zero_cons, List.zip_cons_cons, List.mem_cons] at hp
    rcases hp with rfl | hp
    · have := h (a, y) (by simp)
      simp only at this ⊢
      omega
    · exact h p (by simp [hp])
  | a :: l, y :: f, k + 1, h, p, hp => by
    simp only [List.modify_succ_cons, List.zip_cons_cons, List.mem_cons] at hp
    rcases hp with rfl | hp
    · exact h (a, y) (by simp)
    · exact more_ranged hx l f k (fun q hq => h q (by simp [hq])) p hp
theorem more_value {N : Net} (hR : N.Right) {k : Nat} {x : Int} (hx : 0 ≤ x) (hM : (moreArc N k x).Right) {f g lv lw : List Int} (hf : IsFlow N f) (hlv : IsLev N (roomL (N.arcs.zip f)) 1 lv) (hs : lvZ lv N.snk.toNat < 0)
    (hg : IsFlow (moreArc N k x) g) (hlw : IsLev (moreArc N k x) (roomL ((moreArc N k x).arcs.zip g)) 1 lw) (hw : lvZ lw N.snk.toNat < 0) :
    exZ (N.arcs.zip f) N.snk ≤ exZ ((moreArc N k x).arcs.zip g) N.snk ∧ exZ ((moreArc N k x).arcs.zip g) N.snk ≤ exZ (N.arcs.zip f) N.snk + x := by
  have hff : IsFlow (moreArc N k x) f := ⟨⟨by show f.length = (N.arcs.modify k _).length; rw [List.length_modify]; exact hf.len, more_ranged hx N.arcs f k hf.all⟩, fun v h1 h2 h3 => by
    have := hf.kept v h1 h2 h3
    rwa [← more_zip N.arcs f k x v] at this⟩
  have e1 := great hM hg hff hlw hw
  have e2 := more_zip N.arcs f k x N.snk
  obtain ⟨s, hc, hcap⟩ := cut_at hR hf hlv hs
  have hc2 : IsCut (moreArc N k x) s := ⟨hc.rise, hc.rng, hc.src, hc.snk⟩
  have e3 := weak_cut hM hg hc2
  have e4 := more_cap s hx N.arcs k
  have e5 : exZ ((moreArc N k x).arcs.zip g) N.snk ≤ capZ s (N.arcs.modify k fun a => ⟨a.fr, a.to, a.cap + x⟩) := e3
  have e6 : exZ ((N.arcs.modify k fun a => ⟨a.fr, a.to, a.cap + x⟩).zip f) N.snk ≤ exZ ((moreArc N k x).arcs.zip g) N.snk := e1
  exact ⟨by omega, by omega⟩
theorem right_of {N M : Net} (hR : N.Right) (h1 : M.nodes = N.nodes) (h2 : M.src = N.src) (h3 : M.snk = N.snk) (hl : M.arcs.length ≤ 2000) (ha : ∀ a ∈ M.arcs, ((1 ≤ a.fr ∧ a.fr ≤ N.nodes) ∧ (1 ≤ a.to ∧ a.to ≤ N.nodes)) ∧ 0 ≤ a.cap ∧ a.cap ≤ 2000000) : M.Right := by
  have hd := hR.diff
  refine ⟨by rw [h1]; exact hR.nodes, by rw [h2, h1]; exact hR.src, by rw [h3, h1]; exact hR.snk, by rw [h2, h3]; exact hd, hl, fun a h => ?_, ?_⟩
  · have := ha a h
    rw [h1]
    exact ⟨this.1.1, this.1.2, this.2.1⟩
  · have key : ∀ l : List Arc, (∀ a ∈ l, a.cap ≤ 2000000) → (l.map (·.cap)).sum ≤ 2000000 * l.length := by
      intro l
      induction l with
      | nil => intro _; exact Int.le_refl _
      | cons a l ih =>
        intro h
        have e1 := ih fun b hb => h b (by simp [hb])
        have e2 := h a (by simp)
        simp only [List.map_cons, List.sum_cons, List.length_cons]
        omega
    have := key M.arcs fun a h => (ha a h).2.2
    omega
theorem mem_more {g : Arc → Arc} : ∀ {l : List Arc} {k : Nat} {a : Arc}, a ∈ l.modify k g → a ∈ l ∨ ∃ b ∈ l, a = g b
  | [], _, _, h => by simp at h
  | b :: l, 0, a, h => by
    simp only [List.modify_zero_cons, List.mem_cons] at h
    rcases h with h | h
    · exact .inr ⟨b, by simp, h⟩
    · exact .inl (by simp [h])
  | b :: l, k + 1, a, h => by
    simp only [List.modify_succ_cons, List.mem_cons] at h
    rcases h with h | h
    · exact .inl (by simp [h])
    · rcases mem_more h with h | ⟨d, hd, h⟩
      · exact .inl (by simp [h])
      · exact .inr ⟨d, by simp [hd], h⟩
theorem arcs_more (x : Int) : ∀ (l : List Arc) (k : Nat) (a : Arc), l[k]? = some a → (arcs l).set (k * 3 + 2) (.int .i64 (a.cap + x)) = arcs (l.modify k fun a => ⟨a.fr, a.to, a.cap + x⟩)
  | [], _, _, h => by simp at h
  | b :: l, 0, a, h => by
    simp only [List.getElem?_cons_zero, Option.some.injEq] at h
    subst h; rfl
  | b :: l, k + 1, a, h => by
    have := arcs_more x l k a (by simpa using h)
    rw [List.modify_succ_cons]
    show (Value.int .i64 b.fr :: .int .i64 b.to :: .int .i64 b.cap :: arcs l).set ((k + 1) * 3 + 2) _ = Value.int .i64 b.fr :: .int .i64 b.to :: .int .i64 b.cap :: arcs _
    rw [← this, show (k + 1) * 3 + 2 = (k * 3 + 2) + 1 + 1 + 1 by omega]
    rfl
theorem arcs_cap {l : List Arc} {k : Nat} {a : Arc} (h : l[k]? = some a) : (arcs l)[k * 3 + 2]? = some (.int .i64 a.cap) := by
  induction l generalizing k with
  | nil => simp at h
  | cons b l ih =>
    cases k with
    | zero =>
      simp only [List.getElem?_cons_zero, Option.some.injEq] at h
      subst h; rfl
    | succ k =>
      have := ih (by simpa using h)
      show (Value.int .i64 b.fr :: .int .i64 b.to :: .int .i64 b.cap :: arcs l)[(k + 1) * 3 + 2]? = _
      rw [show (k + 1) * 3 + 2 = (k * 3 + 2) + 1 + 1 + 1 by omega]
      simpa using this
end Go.Proofs.Ytjbcgjahfalkaaa
