
/- Graphs in which each node is beside all but one, graphs beside one another, and graphs twice, in plain terms. -/
import Derived.Test.YtjbcgjahfalkaaaQX5
set_option linter.unusedVariables false
set_option linter.unusedSimpArgs false
namespace Go.Proofs.Ytjbcgjahfalkaaa
open Go.RowKit
theorem pick_all {g : Gr} {t : Nat → Edg} {n : Nat} (ht : ∀ i, i < n → ∃ j : Nat, g.edges[j]? = some (t i)) (hl : ∀ i, i < n → ∀ k, k < n → i ≠ k → (t i).l ≠ (t k).l ∧ (t i).r ≠ (t k).r) : ∀ m, m ≤ n → ∃ ch : List Nat, ch.length = m ∧ ch.Nodup ∧ (∀ j ∈ ch, ∃ i, i < m ∧ g.edges[j]? = some (t i)) ∧
    ∀ j ∈ ch, ∀ k ∈ ch, j ≠ k → ∀ a b, g.edges[j]? = some a → g.edges[k]? = some b → a.l ≠ b.l ∧ a.r ≠ b.r
  | 0, _ => ⟨[], rfl, List.nodup_nil, by simp, by simp⟩
  | m + 1, hm => by
    obtain ⟨ch, h1, h2, h3, h4⟩ := pick_all ht hl m (by omega)
    obtain ⟨j, hj⟩ := ht m (by omega)
    have hnew : ∀ k ∈ ch, ∀ b, g.edges[k]? = some b → (t m).l ≠ b.l ∧ (t m).r ≠ b.r := by
      intro k hk b hb
      obtain ⟨i, hi, he⟩ := h3 k hk
      rw [hb] at he
      obtain rfl := Option.some.inj he
      exact hl m (by omega) i (by omega) (by omega)
    refine ⟨j :: ch, by simp [h1], List.nodup_cons.2 ⟨fun hc => (hnew j hc _ hj).1 rfl, h2⟩, fun k hk => ?_, fun x hx y hy hxy a b ha hb => ?_⟩
    · rcases List.mem_cons.1 hk with rfl | hk
      · exact ⟨m, by omega, hj⟩
      · obtain ⟨i, hi, he⟩ := h3 k hk
        exact ⟨i, by omega, he⟩
    · rcases List.mem_cons.1 hx with h5 | h5 <;> rcases List.mem_cons.1 hy with h6 | h6
      · exact absurd (h5.trans h6.symm) hxy
      · rw [h5, hj] at ha
        obtain rfl := Option.some.inj ha
        exact hnew y h6 b hb
      · rw [h6, hj] at hb
        obtain rfl := Option.some.inj hb
        have := hnew x h5 a ha
        exact ⟨fun hc => this.1 hc.symm, fun hc => this.2 hc.symm⟩
      · exact h4 x h5 y h6 hxy a b ha hb
theorem mod_apart {n a b : Nat} (h1 : a < b) (h2 : b < a + n) : a % n ≠ b % n := by
  intro h
  have := Nat.sub_mod_eq_zero_of_mod_eq h.symm
  rw [Nat.mod_eq_of_lt (by omega)] at this
  omega
def rowF (n s i m : Nat) : List Edg := ((List.range m).filter fun k => decide (k ≠ (i + 1 + s) % n)).map fun (k : Nat) => (⟨((i + 1 : Nat) : Int), ((k + 1 : Nat) : Int)⟩ : Edg)
def allF (n s i : Nat) : List Edg := (List.range i).flatMap fun i => rowF n s i n
theorem rowF_succ (n s i m : Nat) : rowF n s i (m + 1) = rowF n s i m ++ (if m ≠ (i + 1 + s) % n then [⟨((i + 1 : Nat) : Int), ((m + 1 : Nat) : Int)⟩] else []) := by
  unfold rowF
  rw [List.range_succ, List.filter_append, List.map_append]
  congr 1
  by_cases h : m ≠ (i + 1 + s) % n
  · rw [if_pos h, List.filter_cons_of_pos (by simpa using h)]; rfl
  · rw [if_neg h, List.filter_cons_of_neg (by simpa using h)]; rfl
theorem rowF_len (n s i m : Nat) : (rowF n s i m).length ≤ m := by
  unfold rowF
  rw [List.length_map]
  have := List.length_filter_le (fun k => decide (k ≠ (i + 1 + s) % n)) (List.range m)
  rwa [List.length_range] at this
theorem allF_succ (n s i : Nat) : allF n s (i + 1) = allF n s i ++ rowF n s i n := by
  unfold allF
  rw [List.range_succ, List.flatMap_append]
  simp
theorem allF_len (n s : Nat) : ∀ i, (allF n s i).length ≤ i * n
  | 0 => by simp [allF]
  | i + 1 => by
    have := allF_len n s i
    have := rowF_len n s i n
    rw [allF_succ, List.length_append, Nat.add_mul]
    omega
theorem mem_allF {n s i : Nat} {e : Edg} : e ∈ allF n s i ↔ ∃ (a k : Nat), a < i ∧ k < n ∧ k ≠ (a + 1 + s) % n ∧ e = ⟨((a + 1 : Nat) : Int), ((k + 1 : Nat) : Int)⟩ := by
  unfold allF rowF
  rw [List.mem_flatMap]
  constructor
  · rintro ⟨a, ha, he⟩
    obtain ⟨k, hk, rfl⟩ := List.mem_map.1 he
    have := List.mem_filter.1 hk
    exact ⟨a, k, List.mem_range.1 ha, List.mem_range.1 this.1, by simpa using this.2, rfl⟩
  · rintro ⟨a, k, h1, h2, h3, rfl⟩
    exact ⟨a, List.mem_range.2 h1, List.mem_map.2 ⟨k, List.mem_filter.2 ⟨List.mem_range.2 h2, by simpa using h3⟩, rfl⟩⟩
def fullG (n s : Nat) : Gr := ⟨n, n, allF n s n⟩
theorem full_right {n s : Nat} (h1 : 2 ≤ n) (h2 : n ≤ 9) : (fullG n s).Right := by
  have hl := allF_len n s n
  have : n * n ≤ 9 * 9 := Nat.mul_le_mul h2 h2
  refine ⟨⟨by show (1 : Int) ≤ n; omega, by show (n : Int) ≤ 200; omega⟩, ⟨by show (1 : Int) ≤ n; omega, by show (n : Int) ≤ 200; omega⟩, by show (allF n s n).length ≤ 1500; omega, fun e he => ?_⟩
  obtain ⟨a, k, h3, h4, _, rfl⟩ := mem_allF.1 he
  show (1 ≤ ((a + 1 : Nat) : Int) ∧ ((a + 1 : Nat) : Int) ≤ n) ∧ 1 ≤ ((k + 1 : Nat) : Int) ∧ ((k + 1 : Nat) : Int) ≤ n
  omega
theorem full_most {n s : Nat} (h1 : 2 ≤ n) (h2 : n ≤ 9) {p : List Int} (hp : IsMatch (fullG n s) p) (hbest : ∀ l, IsMatch (fullG n s) l → l.length ≤ p.length) : p.length = n := by
  have hg := full_right (s := s) h1 h2
  have h3 := (hp.sides hg).1
  have h3' : (p.length : Int) ≤ n := h3
  obtain ⟨t, ht⟩ : ∃ t : Nat → Edg, t = fun i => ⟨((i + 1 : Nat) : Int), (((i + 2 + s) % n + 1 : Nat) : Int)⟩ := ⟨_, rfl⟩
  have k1 : ∀ i, i < n → ∃ j : Nat, (fullG n s).edges[j]? = some (t i) := by
    intro i hi
    have hm : t i ∈ (fullG n s).edges := by
      refine mem_allF.2 ⟨i, (i + 2 + s) % n, hi, Nat.mod_lt _ (by omega), fun h => ?_, by rw [ht]⟩
      exact mod_apart (n := n) (a := i + 1 + s) (b := i + 2 + s) (by omega) (by omega) h.symm
    obtain ⟨j, hj, he⟩ := List.mem_iff_getElem.1 hm
    exact ⟨j, by rw [List.getElem?_eq_getElem hj, he]⟩
  have k2 : ∀ i, i < n → ∀ k, k < n → i ≠ k → (t i).l ≠ (t k).l ∧ (t i).r ≠ (t k).r := by
    intro i hi k hk hik
    rw [ht]
    refine ⟨fun h => ?_, fun h => ?_⟩
    · have : ((i + 1 : Nat) : Int) = ((k + 1 : Nat) : Int) := h
      omega
    · have h5 : (((i + 2 + s) % n + 1 : Nat) : Int) = (((k + 2 + s) % n + 1 : Nat) : Int) := h
      have h6 : (i + 2 + s) % n = (k + 2 + s) % n := by omega
      rcases Nat.lt_or_gt_of_ne hik with h7 | h7
      · exact mod_apart (n := n) (a := i + 2 + s) (b := k + 2 + s) (by omega) (by omega) h6
      · exact mod_apart (n := n) (a := k + 2 + s) (b := i + 2 + s) (by omega) (by omega) h6.symm
  obtain ⟨ch, c1, c2, c3, c4⟩ := pick_all k1 k2 n (Nat.le_refl _)
  obtain ⟨l, hl, hcl⟩ := apart_match c2 (fun j hj => by obtain ⟨i, _, he⟩ := c3 j hj; exact (List.getElem?_eq_some_iff.1 he).1) c4
  have := hbest l hl
  omega
/-! ### Two graphs beside one another -/
theorem IsMatch.parts {g : Gr} {l : List Int} (h : IsMatch g l) : ∀ x ∈ l, ∀ y ∈ l, x ≠ y → ∀ a b, g.edges[x.toNat]? = some a → g.edges[y.toNat]? = some b → a.l ≠ b.l ∧ a.r ≠ b.r := by
  have hp := h.apart
  have hr := h.rise
  intro x hx y hy hxy a b ha hb
  obtain ⟨i, hi, rfl⟩ := List.mem_iff_getElem.1 hx
  obtain ⟨j, hj, rfl⟩ := List.mem_iff_getElem.1 hy
  rcases Nat.lt_trichotomy i j with h1 | h1 | h1
  · exact (List.pairwise_iff_getElem.1 hp) i j hi hj h1 a b ha hb
  · subst h1; exact absurd rfl hxy
  · have := (List.pairwise_iff_getElem.1 hp) j i hj hi h1 b a hb ha
    exact ⟨fun hc => this.1 hc.symm, fun hc => this.2 hc.symm⟩
theorem IsMatch.nodup {g : Gr} {l : List Int} (h : IsMatch g l) : l.Nodup := h.rise.imp fun h => by omega
end Go.Proofs.Ytjbcgjahfalkaaa
