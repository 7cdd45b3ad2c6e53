
/- The engine by trees, in plain terms: what it keeps. -/
import Derived.Test.YtdhenmmmkdhonaaTreM
import Derived.Test.YtdhenmmmkdhonaaPlainB
set_option linter.unusedVariables false
set_option linter.unusedSimpArgs false
namespace Go.Proofs.Ytdhenmmmkdhonaa
open Go.RowKit
structure EPOk (P : EP) (L : Nat → List Nat) (lv : Nat → Int) (gv : Nat → Nat) : Prop where
  right : P.N.Right
  nodes : P.N.nodes = P.n
  graded : Graded P.N L lv
  rl : P.rowsL.length = P.n + 1
  rows : ∀ (v : Nat) (row : Row), P.rowsL[v]? = some row → row.l = (L v).map fun (i : Nat) => (i : Int)
  at_ : ∀ (v : Nat) (row : Row), P.rowsL[v]? = some row → ints row.l ≠ [] → row.A = some ⟨gv v, 0, none⟩
  len : ∀ v, (L v).length ≤ 4000
  arcs : P.N.arcs ≠ [] → P.A = some ⟨P.b, P.o, none⟩
  ar : P.N.arcs ≠ [] → P.Ar = some ⟨P.gr, 0, none⟩
  le : -9223372036854775808 ≤ P.least ∧ P.least ≤ 9223372036854775807
theorem EPOk.room {P : EP} {L : Nat → List Nat} {lv : Nat → Int} {gv : Nat → Nat} (h : EPOk P L lv gv) {r : Nat} (hr : r < 2 * P.N.arcs.length) : P.Ar = some ⟨P.gr, 0, none⟩ := h.ar (by intro e; rw [e] at hr; simp at hr)
theorem EPOk.small {P : EP} {L : Nat → List Nat} {lv : Nat → Int} {gv : Nat → Nat} (h : EPOk P L lv gv) : P.n + 1 ≤ 10000 := by
  have := h.right.nodes
  have := h.nodes
  omega
/-- The nodes' values and the rooms that are told. -/
structure TA (P : EP) (L : Nat → List Nat) (rm0 tr : List Int) (pos : List Nat) (par : OV) (val : Nat → Int) (rm : List Int) : Prop where
  posl : pos.length = P.n + 1
  link : ∀ v w, v ≤ P.n → par v = some w → ∃ q r, pos[v]? = some q ∧ (L v)[q]? = some r ∧ toN P.N r = w ∧ val v = tr.getD r 0
  free : ∀ v, v ≤ P.n → par v = none → val v = 4611686018427387904
  rml : rm.length = 2 * P.N.arcs.length
  lead : ∀ v r, r ∈ L v → (∀ q, par v ≠ none → pos[v]? = some q → (L v)[q]? ≠ some r) → rm.getD r 0 = tr.getD r 0
  rest : ∀ r, (∀ v, r ∉ L v) → rm.getD r 0 = rm0.getD r 0
  trb : ∀ r, 0 ≤ tr.getD r 0 ∧ tr.getD r 0 ≤ 4611686018427387903
section
variable {P : EP} {L : Nat → List Nat} {lv : Nat → Int} {gv : Nat → Nat} {rm0 tr : List Int} {pos : List Nat} {par : OV} {val : Nat → Int} {rm : List Int}
theorem TA.pos_at (h : TA P L rm0 tr pos par val rm) {v : Nat} (hv : v ≤ P.n) : ∃ q, pos[v]? = some q := ⟨pos[v]'(by have := h.posl; omega), List.getElem?_eq_getElem (by have := h.posl; omega)⟩
/-- The values behind an addition to a path of one node. -/
abbrev valAt (val : Nat → Int) (v : Nat) (d : Int) : Nat → Int := fun z => if z ∈ [v] then val z + d else val z
theorem lead_fr (hP : EPOk P L lv gv) {v r : Nat} (h : r ∈ L v) : r < 2 * P.N.arcs.length ∧ frN P.N r = v ∧ lv (toN P.N r) = lv v + 1 := hP.graded.ok v r h
theorem lead_one (hP : EPOk P L lv gv) {u v r : Nat} (h : r ∈ L u) (k : r ∈ L v) : u = v := by
  rw [← (hP.graded.ok u r h).2.1, (hP.graded.ok v r k).2.1]
theorem TA.settle (h : TA P L rm0 tr pos par val rm) (hP : EPOk P L lv gv) {v w q r : Nat} (hv : v ≤ P.n) (hw : par v = some w) (hq : pos[v]? = some q) (hr : (L v)[q]? = some r) (hval : val v = tr.getD r 0) :
    TA P L rm0 tr pos (ovSet par v none) (valAt val v (4611686018427387904 - val v)) (rm.set r (val v)) := by
  have hrm := List.mem_of_getElem? hr
  have hrl := (lead_fr hP hrm).1
  refine ⟨h.posl, fun u z hu hz => ?_, fun u hu hn => ?_, by rw [List.length_set]; exact h.rml, fun u e he hne => ?_, fun e he => ?_, h.trb⟩
  · simp only [ovSet] at hz
    split at hz
    · cases hz
    · rename_i hne
      obtain ⟨q', r', k1, k2, k3, k4⟩ := h.link u z hu hz
      exact ⟨q', r', k1, k2, k3, by simp only [valAt]; rw [if_neg (by simpa using hne)]; exact k4⟩
  · simp only [valAt, List.mem_singleton]
    by_cases e : u = v
    · rw [if_pos e, e]; omega
    · rw [if_neg e]
      exact h.free u hu (by simpa [ovSet, e] using hn)
  · by_cases e : r = e
    · subst e
      rw [getD_set (by rw [h.rml]; exact hrl), if_pos rfl, hval]
    · rw [getD_set (by rw [h.rml]; exact hrl), if_neg e]
      refine h.lead u _ he fun q' hn hq' => ?_
      by_cases euv : u = v
      · subst euv
        rw [hq] at hq'
        simp only [Option.some.injEq] at hq'
        subst hq'
        rw [hr]; simpa using e
      · exact hne q' (by simpa [ovSet, euv] using hn) hq'
  · have : r ≠ e := fun h' => he v (h' ▸ hrm)
    rw [getD_set (by rw [h.rml]; exact hrl), if_neg this]
    exact h.rest e he
theorem TA.bump (h : TA P L rm0 tr pos par val rm) {v q : Nat} (hn : par v = none) : TA P L rm0 tr (pos.set v q) par val rm := by
  have ne : ∀ u, par u ≠ none → v ≠ u := fun u hu e => hu (e ▸ hn)
  refine ⟨by rw [List.length_set]; exact h.posl, fun u z hu hz => ?_, h.free, h.rml, fun u e he hne => ?_, h.rest, h.trb⟩
  · obtain ⟨q', r', k1, k2, k3, k4⟩ := h.link u z hu hz
    exact ⟨q', r', by rw [List.getElem?_set_ne (ne u (by rw [hz]; simp))]; exact k1, k2, k3, k4⟩
  · exact h.lead u e he fun q' hn' hq' => hne q' hn' (by rw [List.getElem?_set_ne (ne u hn')]; exact hq')
theorem TA.hook (h : TA P L rm0 tr pos par val rm) (hP : EPOk P L lv gv) {v q r : Nat} (hv : v ≤ P.n) (hn : par v = none) (hq : pos[v]? = some q) (hr : (L v)[q]? = some r) :
    TA P L rm0 tr pos (ovSet par v (some (toN P.N r))) (valAt val v (rm.getD r 0 - 4611686018427387904)) rm := by
  have hrm := List.mem_of_getElem? hr
  refine ⟨h.posl, fun u z hu hz => ?_, fun u hu hn' => ?_, h.rml, fun u e he hne => ?_, h.rest, h.trb⟩
  · simp only [ovSet] at hz
    by_cases e : u = v
    · subst e
      rw [if_pos rfl] at hz
      simp only [Option.some.injEq] at hz
      refine ⟨q, r, hq, hr, hz, ?_⟩
      simp only [valAt, List.mem_singleton, if_true]
      rw [h.free u hu hn, h.lead u r hrm (fun _ k => absurd hn k)]; omega
    · rw [if_neg e] at hz
      obtain ⟨q', r', k1, k2, k3, k4⟩ := h.link u z hu hz
      exact ⟨q', r', k1, k2, k3, by simp only [valAt, List.mem_singleton]; rw [if_neg e]; exact k4⟩
  · simp only [valAt, List.mem_singleton]
    have e : u ≠ v := fun e => by subst e; simp [ovSet] at hn'
    rw [if_neg e]
    exact h.free u hu (by simpa [ovSet, e] using hn')
  · refine h.lead u e he fun q' hnn hq' => ?_
    by_cases euv : u = v
    · subst euv; exact absurd hn hnn
    · exact hne q' (by simpa [ovSet, euv] using hnn) hq'
/-- The levels rise along a path. -/
theorem TA.path_lv (h : TA P L rm0 tr pos par val rm) (hP : EPOk P L lv gv) : ∀ {p : List Nat} {v : Nat}, PathTo par v p → v ≤ P.n → ∀ y ∈ p, lv v ≤ lv y ∧ (y ≠ v → lv v < lv y)
  | [], _, hp, _, _, _ => hp.elim
  | [z], v, ⟨h1, _⟩, _, y, hy => by
    rw [List.mem_singleton.1 hy, ← h1]; exact ⟨Int.le_refl _, fun h => absurd rfl h⟩
  | z :: z' :: l, v, ⟨h1, h2, h3⟩, hv, y, hy => by
    rcases List.mem_cons.1 hy with rfl | hy
    · rw [← h1]; exact ⟨Int.le_refl _, fun h => absurd rfl h⟩
    · obtain ⟨q, r, k1, k2, k3, k4⟩ := h.link v z' hv h2
      have hm := List.mem_of_getElem? k2
      obtain ⟨g1, g2, g3⟩ := lead_fr hP hm
      have hz : z' ≤ P.n := by
        have := (toN_eq hP.right g1).2.2
        have := hP.nodes
        omega
      have := (TA.path_lv h hP h3 hz y hy).1
      rw [k3] at g3
      exact ⟨by omega, fun _ => by omega⟩
end
end Go.Proofs.Ytdhenmmmkdhonaa
