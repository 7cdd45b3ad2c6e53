
/- Whether edges are a matching. -/
import Derived.Test.YtcgcimnjknadjaaMatchG
set_option linter.unusedVariables false
set_option linter.unusedSimpArgs false
namespace Go.Proofs.Ytcgcimnjknadjaa
open Go.RowKit
/-- Edges, by rising numbers, of which no two meet. -/
structure IsMatch (g : Gr) (l : List Int) : Prop where
  rise : l.Pairwise (· < ·)
  rng : ∀ x ∈ l, 0 ≤ x ∧ x < g.edges.length
  apart : l.Pairwise fun x y => ∀ a b, g.edges[x.toNat]? = some a → g.edges[y.toNat]? = some b → a.l ≠ b.l ∧ a.r ≠ b.r
theorem IsMatch.snoc {g : Gr} {l : List Int} {x : Int} {e : Edg} (he : g.edges[x.toNat]? = some e) : IsMatch g (l ++ [x]) ↔ IsMatch g l ∧ (∀ y ∈ l, y < x) ∧ 0 ≤ x ∧ x < g.edges.length ∧ ∀ y ∈ l, ∀ a, g.edges[y.toNat]? = some a → a.l ≠ e.l ∧ a.r ≠ e.r := by
  constructor
  · intro h
    obtain ⟨h1, _, h3⟩ := List.pairwise_append.1 h.rise
    obtain ⟨k1, _, k3⟩ := List.pairwise_append.1 h.apart
    have hx := h.rng x (by simp)
    exact ⟨⟨h1, fun y hy => h.rng y (by simp [hy]), k1⟩, fun y hy => h3 y hy x (by simp), hx.1, hx.2, fun y hy a ha => k3 y hy x (by simp) a e ha he⟩
  · rintro ⟨h, h1, h2, h3, h4⟩
    refine ⟨rise_app h.rise h1, fun y hy => ?_, ?_⟩
    · rcases List.mem_append.1 hy with hy | hy
      · exact h.rng y hy
      · rw [List.mem_singleton.1 hy]; exact ⟨h2, h3⟩
    · rw [List.pairwise_append]
      refine ⟨h.apart, List.pairwise_singleton _ _, fun y hy z hz a b ha hb => ?_⟩
      rw [List.mem_singleton.1 hz, he] at hb
      simp only [Option.some.injEq] at hb
      rw [← hb]
      exact h4 y hy a ha
theorem IsMatch.pre {g : Gr} {l m : List Int} (h : IsMatch g (l ++ m)) : IsMatch g l :=
  ⟨(List.pairwise_append.1 h.rise).1, fun y hy => h.rng y (by simp [hy]), (List.pairwise_append.1 h.apart).1⟩
/-- The marks of the nodes that edges meet. -/
def marksE (g : Gr) (side : Edg → Int) (n : Nat) (l : List Int) : List Bool := l.foldl (fun m x => match g.edges[x.toNat]? with | some e => m.set (side e).toNat true | none => m) (List.replicate n false)
theorem marksE_app (g : Gr) (side : Edg → Int) (n : Nat) (l : List Int) (x : Int) {e : Edg} (he : g.edges[x.toNat]? = some e) : marksE g side n (l ++ [x]) = (marksE g side n l).set (side e).toNat true := by
  unfold marksE
  rw [List.foldl_append, List.foldl_cons, List.foldl_nil, he]
theorem marksE_length (g : Gr) (side : Edg → Int) (n : Nat) (l : List Int) : (marksE g side n l).length = n := by
  unfold marksE
  have key : ∀ (l : List Int) (m : List Bool), m.length = n → (l.foldl (fun m x => match g.edges[x.toNat]? with | some e => m.set (side e).toNat true | none => m) m).length = n := by
    intro l
    induction l with
    | nil => exact fun m h => h
    | cons x l ih =>
      intro m h
      rw [List.foldl_cons]
      refine ih _ ?_
      split
      · rw [List.length_set]; exact h
      · exact h
  exact key l _ (by simp)
theorem marksE_from (g : Gr) (side : Edg → Int) (n v : Nat) (hv : v < n) : ∀ (l : List Int) (m : List Bool), m.length = n → (∀ x ∈ l, ∀ e, g.edges[x.toNat]? = some e → 0 ≤ side e) →
    ((l.foldl (fun m x => match g.edges[x.toNat]? with | some e => m.set (side e).toNat true | none => m) m)[v]? = some true ↔ m[v]? = some true ∨ ∃ x ∈ l, ∃ e, g.edges[x.toNat]? = some e ∧ side e = v)
  | [], m, _, _ => by simp
  | x :: l, m, hm, h0 => by
    rw [List.foldl_cons]
    cases he : g.edges[x.toNat]? with
    | none =>
      simp only
      rw [marksE_from g side n v hv l m hm fun y hy => h0 y (by simp [hy])]
      refine or_congr Iff.rfl ⟨fun ⟨y, hy, e, h1, h2⟩ => ⟨y, by simp [hy], e, h1, h2⟩, fun ⟨y, hy, e, h1, h2⟩ => ?_⟩
      rcases List.mem_cons.1 hy with rfl | hy
      · rw [he] at h1; cases h1
      · exact ⟨y, hy, e, h1, h2⟩
    | some e =>
      simp only
      have hs := h0 x (by simp) e he
      rw [marksE_from g side n v hv l _ (by rw [List.length_set]; exact hm) fun y hy => h0 y (by simp [hy])]
      by_cases hev : side e = v
      · have e2 : (side e).toNat = v := by omega
        rw [e2, List.getElem?_set_self (by omega)]
        exact ⟨fun _ => .inr ⟨x, by simp, e, he, hev⟩, fun _ => .inl rfl⟩
      · have e2 : (side e).toNat ≠ v := by omega
        rw [List.getElem?_set_ne e2]
        refine or_congr Iff.rfl ⟨fun ⟨y, hy, a, h1, h2⟩ => ⟨y, by simp [hy], a, h1, h2⟩, fun ⟨y, hy, a, h1, h2⟩ => ?_⟩
        rcases List.mem_cons.1 hy with rfl | hy
        · rw [he] at h1
          simp only [Option.some.injEq] at h1
          rw [← h1] at h2
          exact absurd h2 hev
        · exact ⟨y, hy, a, h1, h2⟩
theorem marksE_get (g : Gr) (side : Edg → Int) (n : Nat) (l : List Int) (v : Nat) (hv : v < n) (h0 : ∀ x ∈ l, ∀ e, g.edges[x.toNat]? = some e → 0 ≤ side e) : (marksE g side n l)[v]? = some true ↔ ∃ x ∈ l, ∃ e, g.edges[x.toNat]? = some e ∧ side e = v := by
  unfold marksE
  rw [marksE_from g side n v hv l _ (by simp) h0, List.getElem?_replicate, if_pos hv]
  simp
/-- The last one of the first so many, or a number below all. -/
def lastE (l : List Int) (k : Nat) : Int := ((-1 : Int) :: l)[k]?.getD (-1)
theorem lastE_succ {l : List Int} {k : Nat} {x : Int} (hx : l[k]? = some x) : lastE l (k + 1) = x := by
  unfold lastE
  rw [List.getElem?_cons_succ, hx]; rfl
theorem lastE_in {l : List Int} {k : Nat} (_h : (l.take k).Pairwise (· < ·)) (hk : k ≤ l.length) (h0 : 0 ≤ lastE l k) : lastE l k ∈ l.take k := by
  cases k with
  | zero => exact absurd (show 0 ≤ (-1 : Int) from h0) (by decide)
  | succ k =>
    have hx : l[k]? = some l[k] := List.getElem?_eq_getElem hk
    rw [lastE_succ hx, List.take_add_one, hx]
    exact List.mem_append_right _ (List.mem_singleton.2 rfl)
theorem lastE_ge {g : Gr} {l : List Int} {k : Nat} (h : ∀ x ∈ l.take k, 0 ≤ x ∧ x < g.edges.length) (hk : k ≤ l.length) : -1 ≤ lastE l k := by
  cases k with
  | zero => exact Int.le_refl _
  | succ k =>
    have hx : l[k]? = some l[k] := List.getElem?_eq_getElem hk
    rw [lastE_succ hx]
    have := h l[k] (by rw [List.take_add_one, hx]; exact List.mem_append_right _ (List.mem_singleton.2 rfl))
    omega
theorem lastE_most {l : List Int} {k : Nat} (h : (l.take k).Pairwise (· < ·)) (hk : k ≤ l.length) : ∀ y ∈ l.take k, y ≤ lastE l k := by
  intro y hy
  cases k with
  | zero => simp at hy
  | succ k =>
    have hx : l[k]? = some l[k] := List.getElem?_eq_getElem hk
    rw [lastE_succ hx]
    rw [List.take_add_one, hx] at hy h
    rcases List.mem_append.1 hy with hy | hy
    · have := (List.pairwise_append.1 h).2.2 y hy l[k] (by simp); omega
    · have : y = l[k] := by simpa using hy
      omega
end Go.Proofs.Ytcgcimnjknadjaa
