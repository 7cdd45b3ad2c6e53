
/- One flow blocks, in plain terms: the search finds but one thing. -/
import Derived.Test.YtfogkbmbmaganaaQX4
set_option linter.unusedVariables false
set_option linter.unusedSimpArgs false
namespace Go.Proofs.Ytfogkbmbmaganaa
open Go.RowKit
theorem Nx.uniq {N : Net} {L : Nat → List Nat} {least : Int} {rm : List Int} (hsn : N.src.toNat ≠ N.snk.toNat) {pos W pos' W' : List Nat} {b : Bool} (h : Nx N L least rm pos W b pos' W') : ∀ {V : List Nat} {b2 : Bool} {pos2 W2 : List Nat}, V = W → Nx N L least rm pos V b2 pos2 W2 → b = b2 ∧ pos' = pos2 ∧ W' = W2 := by
  induction h with
  | hit h1 =>
    intro V b2 pos2 W2 hV h
    cases h with
    | hit _ => exact ⟨rfl, rfl, hV.symm⟩
    | go k1 _ _ _ _ => rw [hV] at k1; exact absurd h1 k1
    | skip k1 _ _ _ _ => rw [hV] at k1; exact absurd h1 k1
    | back k1 _ _ _ _ => rw [hV] at k1; exact absurd h1 k1
    | stop k1 _ _ => rw [← hV] at h1; exact absurd h1 k1
  | @go pos W pos' W' r p b h1 h2 h3 h4 _ ih =>
    intro V b2 pos2 W2 hV h
    cases h with
    | hit k1 => rw [hV] at k1; exact absurd k1 h1
    | go k1 k2 k3 k4 k5 =>
      subst hV
      rw [h2] at k2
      simp only [Option.some.injEq] at k2
      subst k2
      rw [h3] at k3
      simp only [Option.some.injEq] at k3
      subst k3
      exact ih rfl k5
    | skip k1 k2 k3 k4 k5 =>
      subst hV
      rw [h2] at k2
      simp only [Option.some.injEq] at k2
      subst k2
      rw [h3] at k3
      simp only [Option.some.injEq] at k3
      subst k3
      omega
    | back k1 k2 k3 k4 k5 =>
      subst hV
      rw [h2] at k2
      simp only [Option.some.injEq] at k2
      subst k2
      have := (List.getElem?_eq_some_iff.1 h3).1
      omega
    | stop k1 k2 k3 =>
      subst hV
      have h2' : pos[N.src.toNat]? = some p := h2
      rw [h2'] at k2
      simp only [Option.some.injEq] at k2
      subst k2
      have := (List.getElem?_eq_some_iff.1 h3).1
      have h5 : p < (L N.src.toNat).length := this
      omega
  | @skip pos W pos' W' r p b h1 h2 h3 h4 _ ih =>
    intro V b2 pos2 W2 hV h
    cases h with
    | hit k1 => rw [hV] at k1; exact absurd k1 h1
    | go k1 k2 k3 k4 k5 =>
      subst hV
      rw [h2] at k2
      simp only [Option.some.injEq] at k2
      subst k2
      rw [h3] at k3
      simp only [Option.some.injEq] at k3
      subst k3
      omega
    | skip k1 k2 k3 k4 k5 =>
      subst hV
      rw [h2] at k2
      simp only [Option.some.injEq] at k2
      subst k2
      exact ih rfl k5
    | back k1 k2 k3 k4 k5 =>
      subst hV
      rw [h2] at k2
      simp only [Option.some.injEq] at k2
      subst k2
      have := (List.getElem?_eq_some_iff.1 h3).1
      omega
    | stop k1 k2 k3 =>
      subst hV
      have h2' : pos[N.src.toNat]? = some p := h2
      rw [h2'] at k2
      simp only [Option.some.injEq] at k2
      subst k2
      have h5 : p < (L N.src.toNat).length := (List.getElem?_eq_some_iff.1 h3).1
      omega
  | @back pos W pos' W' r p q b h1 h2 h3 h4 _ ih =>
    intro V b2 pos2 W2 hV h
    cases h with
    | hit k1 => rw [hV] at k1; exact absurd k1 h1
    | go k1 k2 k3 k4 k5 =>
      subst hV
      rw [h2] at k2
      simp only [Option.some.injEq] at k2
      subst k2
      have := (List.getElem?_eq_some_iff.1 k3).1
      omega
    | skip k1 k2 k3 k4 k5 =>
      subst hV
      rw [h2] at k2
      simp only [Option.some.injEq] at k2
      subst k2
      have := (List.getElem?_eq_some_iff.1 k3).1
      omega
    | @back _ W2' _ _ r2 p2 q2 _ k1 k2 k3 k4 k5 =>
      obtain ⟨e1, e2⟩ := List.append_inj' hV rfl
      subst e1
      simp only [List.cons.injEq, and_true] at e2
      subst e2
      rw [h4] at k4
      simp only [Option.some.injEq] at k4
      subst k4
      exact ih rfl k5
    | stop k1 k2 k3 =>
      exact absurd hV (by simp)
  | stop h1 h2 h3 =>
    intro V b2 pos2 W2 hV h
    cases h with
    | hit k1 => rw [hV] at k1; exact absurd k1 h1
    | go k1 k2 k3 k4 k5 =>
      subst hV
      have h2' := k2
      rw [show endN N [] = N.src.toNat from rfl, h2] at h2'
      simp only [Option.some.injEq] at h2'
      subst h2'
      have h5 := (List.getElem?_eq_some_iff.1 k3).1
      rw [show endN N [] = N.src.toNat from rfl] at h5
      omega
    | skip k1 k2 k3 k4 k5 =>
      subst hV
      have h2' := k2
      rw [show endN N [] = N.src.toNat from rfl, h2] at h2'
      simp only [Option.some.injEq] at h2'
      subst h2'
      have h5 := (List.getElem?_eq_some_iff.1 k3).1
      rw [show endN N [] = N.src.toNat from rfl] at h5
      omega
    | back k1 k2 k3 k4 k5 => exact absurd hV (by simp)
    | stop _ _ _ => exact ⟨rfl, rfl, rfl⟩
theorem Bl.uniq {N : Net} {L : Nat → List Nat} {least : Int} (hsn : N.src.toNat ≠ N.snk.toNat) {rm rm' : List Int} {pos W : List Nat} {ws : List (List Nat × Int)} (h : Bl N L least rm pos W ws rm') : ∀ {ws2 : List (List Nat × Int)} {rm2 : List Int}, Bl N L least rm pos W ws2 rm2 → ws = ws2 ∧ rm' = rm2 := by
  induction h with
  | stop h1 =>
    intro ws2 rm2 h
    cases h with
    | stop _ => exact ⟨rfl, rfl⟩
    | walk k1 _ => have := (h1.uniq hsn rfl k1).1; cases this
  | walk h1 _ ih =>
    intro ws2 rm2 h
    cases h with
    | stop k1 => have := (h1.uniq hsn rfl k1).1; cases this
    | walk k1 k2 =>
      obtain ⟨_, e1, e2⟩ := h1.uniq hsn rfl k1
      subst e1
      subst e2
      obtain ⟨e3, e4⟩ := ih k2
      exact ⟨by rw [e3], e4⟩
theorem BlkOf.uniq {N : Net} (hR : N.Right) {least : Int} {f f1 f2 : List Int} {ws1 ws2 : List (List Nat × Int)} (h1 : BlkOf N least f ws1 f1) (h2 : BlkOf N least f ws2 f2) : ws1 = ws2 ∧ f1 = f2 := by
  have hsr := hR.src
  have hsk := hR.snk
  have hdf := hR.diff
  obtain ⟨lv1, a1, a2, a3⟩ := h1
  obtain ⟨lv2, b1, b2, b3⟩ := h2
  obtain rfl : lv1 = lv2 := by
    have hu := lev_uniq a1 b1
    have hl : lv1.length = lv2.length := by rw [a1.len, b1.len]
    apply List.ext_getElem?
    intro i
    by_cases hi : i < lv1.length
    · have := hu i
      unfold lvZ at this
      rw [List.getD_eq_getElem?_getD, List.getD_eq_getElem?_getD, List.getElem?_eq_getElem hi, List.getElem?_eq_getElem (by omega)] at this
      rw [List.getElem?_eq_getElem hi, List.getElem?_eq_getElem (by omega)]
      simpa using this
    · rw [List.getElem?_eq_none (by omega), List.getElem?_eq_none (by omega)]
  obtain ⟨e1, e2⟩ := a3.uniq (by omega) b3
  exact ⟨e1, room_inj a2.len b2.len e2⟩
end Go.Proofs.Ytfogkbmbmaganaa
