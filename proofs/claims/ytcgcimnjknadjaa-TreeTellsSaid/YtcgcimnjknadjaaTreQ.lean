
/- The engine by trees: what it keeps, all together. -/
import Derived.Test.YtcgcimnjknadjaaTreO
set_option linter.unusedVariables false
set_option linter.unusedSimpArgs false
namespace Go.Proofs.Ytcgcimnjknadjaa
open Go.RowKit
theorem nodup_room : ∀ (l m : List Nat), l.Nodup → (∀ x ∈ l, x ∈ m) → l.length ≤ m.length
  | [], _, _, _ => Nat.zero_le _
  | x :: l, m, h, hs => by
    obtain ⟨h1, h2⟩ := List.nodup_cons.1 h
    have hx := hs x (by simp)
    have ih := nodup_room l (m.erase x) h2 fun y hy => (List.mem_erase_of_ne (fun e => h1 (by rw [← e]; exact hy))).2 (hs y (by simp [hy]))
    rw [List.length_erase_of_mem hx] at ih
    have : 0 < m.length := List.length_pos_of_mem hx
    simp only [List.length_cons]; omega
def natZ (W : List Nat) : List Int := W.map fun (i : Nat) => (i : Int)
theorem natZ_length (W : List Nat) : (natZ W).length = W.length := by simp [natZ]
/-- The nodes below each. -/
structure TB (n : Nat) (par : OV) (un : List Row) : Prop where
  len : un.length = n + 1
  at_ : ∀ (w : Nat) (row : Row), un[w]? = some row → ∃ W : List Nat, row.l = natZ W ∧ W.Nodup ∧ ∀ v, v ∈ W ↔ v ≤ n ∧ par v = some w
theorem TB.get {n : Nat} {par : OV} {un : List Row} (h : TB n par un) {w : Nat} (hw : w ≤ n) : ∃ (A : Option Addr) (c : Nat) (W : List Nat), un[w]? = some ⟨A, c, natZ W⟩ ∧ W.Nodup ∧ (∀ v, v ∈ W ↔ v ≤ n ∧ par v = some w) ∧ W.length ≤ n + 1 := by
  have hl := h.len
  obtain ⟨row, hr⟩ : ∃ row, un[w]? = some row := ⟨un[w]'(by omega), List.getElem?_eq_getElem (by omega)⟩
  obtain ⟨W, h1, h2, h3⟩ := h.at_ w row hr
  obtain ⟨A, c, l⟩ := row
  simp only at h1
  subst h1
  refine ⟨A, c, W, hr, h2, h3, ?_⟩
  have := nodup_room W (List.range (n + 1)) h2 fun x hx => List.mem_range.2 (by have := ((h3 x).1 hx).1; omega)
  rwa [List.length_range] at this
theorem TB.del {n : Nat} {par : OV} {un : List Row} (h : TB n par un) {v w : Nat} {A : Option Addr} {c : Nat} {pre post : List Nat} (hr : un[w]? = some ⟨A, c, natZ (pre ++ v :: post)⟩) (hd : (pre ++ v :: post).Nodup) (hm : ∀ u, u ∈ pre ++ v :: post ↔ u ≤ n ∧ par u = some w) (hw : par v = some w) {A' : Option Addr} {c' : Nat} : TB n (ovSet par v none) (un.set w ⟨A', c', natZ (pre ++ post)⟩) := by
  have hwl := (List.getElem?_eq_some_iff.1 hr).1
  obtain ⟨d1, d2, d3⟩ := List.nodup_append.1 hd
  obtain ⟨d4, d5⟩ := List.nodup_cons.1 d2
  have hvpre : v ∉ pre := fun hx => d3 v hx v (by simp) rfl
  refine ⟨by rw [List.length_set]; exact h.len, fun z row hz => ?_⟩
  by_cases e : w = z
  · subst e
    rw [List.getElem?_set_self hwl] at hz
    simp only [Option.some.injEq] at hz
    subst hz
    refine ⟨pre ++ post, rfl, List.nodup_append.2 ⟨d1, d5, fun x hx y hy => d3 x hx y (by simp [hy])⟩, fun u => ?_⟩
    have := hm u
    simp only [List.mem_append, List.mem_cons] at this ⊢
    by_cases e : u = v
    · subst e
      simp [ovSet, hvpre, d4]
    · simp only [ovSet, e, if_false, false_or] at this ⊢
      exact this
  · rw [List.getElem?_set_ne e] at hz
    obtain ⟨W, h1, h2, h3⟩ := h.at_ z row hz
    refine ⟨W, h1, h2, fun u => ?_⟩
    rw [h3 u]
    by_cases e2 : u = v
    · subst e2
      simp [ovSet, hw, e]
    · simp [ovSet, e2]
theorem TB.add {n : Nat} {par : OV} {un : List Row} (h : TB n par un) {v w : Nat} {A : Option Addr} {c : Nat} {W : List Nat} (hr : un[w]? = some ⟨A, c, natZ W⟩) (hd : W.Nodup) (hm : ∀ u, u ∈ W ↔ u ≤ n ∧ par u = some w) (hv : v ≤ n) (hn : par v = none) {A' : Option Addr} {c' : Nat} : TB n (ovSet par v (some w)) (un.set w ⟨A', c', natZ (W ++ [v])⟩) := by
  have hwl := (List.getElem?_eq_some_iff.1 hr).1
  have hvW : v ∉ W := fun hx => by have := ((hm v).1 hx).2; rw [hn] at this; cases this
  refine ⟨by rw [List.length_set]; exact h.len, fun z row hz => ?_⟩
  by_cases e : w = z
  · subst e
    rw [List.getElem?_set_self hwl] at hz
    simp only [Option.some.injEq] at hz
    subst hz
    refine ⟨W ++ [v], rfl, List.nodup_append.2 ⟨hd, by simp, fun x hx y hy => by rw [List.mem_singleton.1 hy]; rintro rfl; exact hvW hx⟩, fun u => ?_⟩
    simp only [List.mem_append, List.mem_singleton, hm u]
    by_cases e : u = v
    · subst e
      simp [ovSet, hv]
    · simp [ovSet, e]
  · rw [List.getElem?_set_ne e] at hz
    obtain ⟨W, h1, h2, h3⟩ := h.at_ z row hz
    refine ⟨W, h1, h2, fun u => ?_⟩
    rw [h3 u]
    by_cases e2 : u = v
    · subst e2
      simp [ovSet, hn, e]
    · simp [ovSet, e2]
/-- All that the engine keeps. -/
structure TInv (P : EP) (L : Nat → List Nat) (gv : Nat → Nat) (rm0 tr : List Int) (pos : List Nat) (par : OV) (val : Nat → Int) (s : ES) : Prop where
  fa : ∃ row, FAb (P.n + 1) s.fs par val row
  ta : TA P L rm0 tr pos par val s.rm
  vo : VOK P.rowsL gv pos s.vals
  tb : TB P.n par s.un
def ES.cost (s : ES) : Nat := s.k + s.fs.k
end Go.Proofs.Ytcgcimnjknadjaa
