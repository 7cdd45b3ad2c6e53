
/- The engine by trees, in plain terms: what is led along a path. -/
import Derived.Test.YtfogkbmbmaganaaQX6
set_option linter.unusedVariables false
set_option linter.unusedSimpArgs false
namespace Go.Proofs.Ytfogkbmbmaganaa
open Go.RowKit
theorem FirstMin.le {p : List Nat} {val : Nat → Int} {y : Nat} (h : FirstMin (itsOf p.reverse val) y (val y)) : ∀ z ∈ p, val y ≤ val z := by
  obtain ⟨A, B, hAB, hA, hB⟩ := h
  intro z hz
  have hm : (z, val z) ∈ itsOf p.reverse val := mem_itsOf.2 ⟨by simpa using hz, rfl⟩
  rw [hAB, List.mem_append, List.mem_cons] at hm
  rcases hm with hm | hm | hm
  · exact Int.le_of_lt (hA _ hm)
  · rw [Prod.mk.injEq] at hm; rw [hm.2]; exact Int.le_refl _
  · exact hB _ hm
theorem PathTo.halves {par : OV} {v w x : Nat} {px : List Nat} (hv : par v = some w) (h : PathTo par x px) (hin : v ∈ px) : ∃ A B, px = A ++ v :: w :: B ∧ PathTo (ovSet par v none) x (A ++ [v]) ∧ PathTo (ovSet par v none) w (w :: B) := by
  obtain ⟨A, B, rfl⟩ := List.append_of_mem hin
  have hnd := h.nodup
  obtain ⟨d1, d2, d3⟩ := List.nodup_append.1 hnd
  have ht := h.tail
  cases B with
  | nil => rw [ht.2] at hv; cases hv
  | cons z B =>
    have hz := ht.2.1
    rw [hv] at hz
    simp only [Option.some.injEq] at hz
    subst hz
    refine ⟨A, B, rfl, PathTo.cut (by simp [ovSet]) h (fun y hy => ?_), ht.2.2.congr fun y hy => ?_⟩
    · have : y ≠ v := fun e => d3 y hy v (by simp) e
      simp [ovSet, this]
    · have : y ≠ v := fun e => (List.nodup_cons.1 d2).1 (e ▸ hy)
      simp [ovSet, this]
def Cov (n : Nat) (least : Int) (par : OV) (val : Nat → Int) (wait : List Nat) : Prop := ∀ u w, u ≤ n → par u = some w → val u < least → ∃ x ∈ wait, ∃ px, PathTo par x px ∧ u ∈ px
theorem Cov.pop {n : Nat} {least : Int} {par : OV} {val : Nat → Int} {wait : List Nat} {x : Nat} (h : Cov n least par val (wait ++ [x])) {px : List Nat} (hp : PathTo par x px) (hm : ∀ z ∈ px, least ≤ val z) : Cov n least par val wait := by
  intro u w hu hw hl
  obtain ⟨y, hy, py, h1, h2⟩ := h u w hu hw hl
  rcases List.mem_append.1 hy with hy | hy
  · exact ⟨y, hy, py, h1, h2⟩
  · rw [List.mem_singleton.1 hy] at h1
    rw [PathTo.uniq h1 hp] at h2
    have := hm u h2
    omega
theorem Cov.cut {n : Nat} {least : Int} {par : OV} {val : Nat → Int} {wait : List Nat} (h : Cov n least par val wait) {v w : Nat} (hv : par v = some w) {d : Int} : Cov n least (ovSet par v none) (valAt val v d) (wait ++ [w]) := by
  intro u z hu hz hl
  have hne : u ≠ v := fun e => by subst e; simp [ovSet] at hz
  obtain ⟨y, hy, py, h1, h2⟩ := h u z hu (by simpa [ovSet, hne] using hz) (by simpa [valAt, hne] using hl)
  by_cases hin : v ∈ py
  · obtain ⟨A, B, rfl, h3, h4⟩ := h1.halves hv hin
    rcases List.mem_append.1 h2 with h2 | h2
    · exact ⟨y, by simp [hy], _, h3, by simp [h2]⟩
    · rcases List.mem_cons.1 h2 with h2 | h2
      · exact absurd h2 hne
      · exact ⟨w, by simp, _, h4, h2⟩
  · exact ⟨y, by simp [hy], py, h1.congr fun z hz => by have : z ≠ v := fun e => hin (e ▸ hz); simp [ovSet, this], h2⟩
section
variable {P : EP} {L : Nat → List Nat} {lv : Nat → Int} {gv : Nat → Nat} {rm0 tr : List Int} {pos : List Nat} {par : OV} {val : Nat → Int} {rm : List Int}
structure WalkOf (P : EP) (L : Nat → List Nat) (tr : List Int) (pos : List Nat) (par : OV) (val : Nat → Int) (v : Nat) (p : List Nat) (y : Nat) (W : List Nat) : Prop where
  on : Tr P.N v W y
  at_ : ∀ r ∈ W, frN P.N r ∈ p ∧ (∃ q, pos[frN P.N r]? = some q ∧ (L (frN P.N r))[q]? = some r) ∧ par (frN P.N r) = some (toN P.N r) ∧ val (frN P.N r) = tr.getD r 0
  all : ∀ z ∈ p, z = y ∨ ∃ r ∈ W, frN P.N r = z
theorem TA.walk_of (h : TA P L rm0 tr pos par val rm) (hP : EPOk P L lv gv) : ∀ {p : List Nat} {v y : Nat}, PathTo par v p → v ≤ P.n → p.getLast? = some y → ∃ W, WalkOf P L tr pos par val v p y W
  | [], _, _, hp, _, _ => hp.elim
  | [z], v, y, ⟨h1, _⟩, _, hy => by
    simp only [List.getLast?_singleton, Option.some.injEq] at hy
    refine ⟨[], ?_, fun r hr => (by cases hr), fun x hx => .inl ?_⟩
    · show v = y; omega
    · rw [List.mem_singleton.1 hx]; omega
  | z :: z' :: l, v, y, ⟨h1, h2, h3⟩, hv, hy => by
    obtain ⟨q, r, k1, k2, k3, k4⟩ := h.link v z' hv h2
    obtain ⟨g1, g2, g3⟩ := lead_fr hP (List.mem_of_getElem? k2)
    have hz : z' ≤ P.n := by
      have := (toN_eq hP.right g1).2.2
      have := hP.nodes
      omega
    obtain ⟨W, hW⟩ := TA.walk_of h hP h3 hz (by simpa using hy)
    refine ⟨r :: W, ⟨g2, by rw [k3]; exact hW.on⟩, fun e he => ?_, fun x hx => ?_⟩
    · rcases List.mem_cons.1 he with rfl | he
      · refine ⟨by rw [g2, h1]; simp, ⟨q, by rw [g2]; exact k1, by rw [g2]; exact k2⟩, by rw [g2, k3]; exact h2, by rw [g2]; exact k4⟩
      · obtain ⟨e1, e2, e3, e4⟩ := hW.at_ e he
        exact ⟨List.mem_cons_of_mem _ e1, e2, e3, e4⟩
    · rcases List.mem_cons.1 hx with rfl | hx
      · exact .inr ⟨r, by simp, by rw [g2]; exact h1⟩
      · rcases hW.all x hx with h' | ⟨e, he, h'⟩
        · exact .inl h'
        · exact .inr ⟨e, by simp [he], h'⟩
abbrev pushV (p : List Nat) (a : Int) (k : Nat) (val : Nat → Int) : Nat → Int := fun z => if z ∈ [k] then (if z ∈ p then val z + -a else val z) + a else (if z ∈ p then val z + -a else val z)
theorem TA.push (h : TA P L rm0 tr pos par val rm) {p W : List Nat} {v y : Nat} (hp : PathTo par v p) (hy : p.getLast? = some y) (hW : WalkOf P L tr pos par val v p y W) {a : Int} {tr' : List Int} (hget : ∀ u r, r ∈ L u → tr'.getD r 0 = tr.getD r 0 - if r ∈ W then a else 0)
    (hfr : ∀ u r, r ∈ L u → frN P.N r = u) (htb : ∀ r, 0 ≤ tr'.getD r 0 ∧ tr'.getD r 0 ≤ 4611686018427387903) : TA P L rm0 tr' pos par (pushV p a y val) rm := by
  have hyn : par y = none := hp.root_last hy
  have hyp : y ∈ p := List.mem_of_getLast? hy
  refine ⟨h.posl, fun u w hu hw => ?_, fun u hu hn => ?_, h.rml, fun u r hr hne => ?_, h.rest, htb⟩
  · obtain ⟨q, r, k1, k2, k3, k4⟩ := h.link u w hu hw
    have hrm := List.mem_of_getElem? k2
    have hne : u ≠ y := fun e => by rw [e, hyn] at hw; cases hw
    refine ⟨q, r, k1, k2, k3, ?_⟩
    rw [hget u r hrm]
    simp only [pushV, List.mem_singleton, if_neg hne]
    by_cases hup : u ∈ p
    · rw [if_pos hup]
      rcases hW.all u hup with e | ⟨e, he, e2⟩
      · exact absurd e hne
      · obtain ⟨_, ⟨q', j1, j2⟩, _⟩ := hW.at_ e he
        rw [e2] at j1 j2
        rw [k1] at j1
        simp only [Option.some.injEq] at j1
        subst j1
        rw [k2] at j2
        simp only [Option.some.injEq] at j2
        subst j2
        rw [if_pos he, k4]; omega
    · rw [if_neg hup, if_neg (fun he => hup (by have := (hW.at_ r he).1; rwa [hfr u r hrm] at this)), k4]; omega
  · simp only [pushV, List.mem_singleton]
    by_cases e : u = y
    · subst e
      rw [if_pos rfl, if_pos hyp, h.free u hu hn]; omega
    · rw [if_neg e, if_neg, h.free u hu hn]
      intro hup
      rcases hW.all u hup with e' | ⟨r, hr, e2⟩
      · exact e e'
      · have := (hW.at_ r hr).2.2.1
        rw [e2, hn] at this; cases this
  · rw [hget u r hr, if_neg, Int.sub_zero]
    · exact h.lead u r hr hne
    · intro hrW
      obtain ⟨_, ⟨q, j1, j2⟩, j3, _⟩ := hW.at_ r hrW
      rw [hfr u r hr] at j1 j2 j3
      exact hne q (by rw [j3]; simp) j1 j2
theorem WalkOf.pi {v y : Nat} {p W : List Nat} (hW : WalkOf P L tr pos par val v p y W) (hv : v = P.N.src.toNat) (hPI : PI P.N L P.least tr pos []) (hfr : ∀ u r, r ∈ L u → frN P.N r ≤ P.n) (hroom : ∀ u w, u ≤ P.n → par u = some w → P.least ≤ val u) : PI P.N L P.least tr pos W ∧ endN P.N W = y := by
  subst hv
  refine ⟨⟨hPI.pl, ⟨y, hW.on⟩, fun r hr => ?_, hPI.pass⟩, (Tr_end hW.on).symm⟩
  obtain ⟨_, ⟨q, j1, j2⟩, j3, j4⟩ := hW.at_ r hr
  exact ⟨q, j1, j2, by rw [← j4]; exact hroom _ _ (hfr _ r (List.mem_of_getElem? j2)) j3⟩
theorem WalkOf.most {v y m : Nat} {p W : List Nat} (hW : WalkOf P L tr pos par val v p y W) (hne : W ≠ []) (hm : m ∈ p) (hmin : ∀ z ∈ p, val m ≤ val z) (hy : ∀ r, tr.getD r 0 < val y) : val m = mostR tr W := by
  obtain ⟨r, hr, he⟩ := mostR_at (rm := tr) hne
  have h1 : val m ≤ mostR tr W := by
    obtain ⟨g1, _, _, g4⟩ := hW.at_ r hr
    rw [he, ← g4]; exact hmin _ g1
  rcases hW.all m hm with e | ⟨e, he2, e2⟩
  · rw [e] at h1
    have := hy r
    rw [← he] at this
    omega
  · have h2 := mostR_le (rm := tr) e he2
    obtain ⟨_, _, _, g4⟩ := hW.at_ e he2
    rw [e2] at g4
    omega
end
end Go.Proofs.Ytfogkbmbmaganaa
