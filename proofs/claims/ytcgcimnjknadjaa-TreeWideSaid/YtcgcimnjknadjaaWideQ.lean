
/- Nodes beside one another: the walks of their blocking flow. -/
import Derived.Test.YtcgcimnjknadjaaWideP
set_option linter.unusedVariables false
set_option linter.unusedSimpArgs false
namespace Go.Proofs.Ytcgcimnjknadjaa
open Go.RowKit
section
variable {cs : List (Int × Int)}
theorem wide_len : (wideN cs).arcs.length = 2 * cs.length := fanL_length cs 0
theorem wide_ends {i : Nat} (h : i < cs.length) : (frN (wideN cs) (4 * i) = 1 ∧ toN (wideN cs) (4 * i) = i + 3) ∧ (frN (wideN cs) (4 * i + 1) = i + 3 ∧ toN (wideN cs) (4 * i + 1) = 1) ∧ (frN (wideN cs) (4 * i + 2) = i + 3 ∧ toN (wideN cs) (4 * i + 2) = 2) ∧ (frN (wideN cs) (4 * i + 3) = 2 ∧ toN (wideN cs) (4 * i + 3) = i + 3) := by
  obtain ⟨h1, h2⟩ := fanL_get cs 0 i _ (List.getElem?_eq_getElem h)
  have h1' : (wideN cs).arcs[2 * i]? = some ⟨1, ((0 + i + 3 : Nat) : Int), cs[i].1⟩ := h1
  have h2' : (wideN cs).arcs[2 * i + 1]? = some ⟨((0 + i + 3 : Nat) : Int), 2, cs[i].2⟩ := h2
  unfold frN toN endsZ
  rw [show 4 * i / 2 = 2 * i by omega, show (4 * i + 1) / 2 = 2 * i by omega, show (4 * i + 2) / 2 = 2 * i + 1 by omega, show (4 * i + 3) / 2 = 2 * i + 1 by omega, h1', h2']
  simp only [endsOf]
  rw [if_neg (by omega), if_pos (by omega), if_neg (by omega), if_pos (by omega)]
  refine ⟨⟨rfl, ?_⟩, ⟨?_, rfl⟩, ⟨?_, rfl⟩, ⟨rfl, ?_⟩⟩ <;> (show (((0 + i + 3 : Nat) : Int)).toNat = i + 3; omega)
theorem wide_walk {L : Nat → List Nat} {lv : Nat → Int} (hG : Graded (wideN cs) L lv) {W : List Nat} (ht : Tr (wideN cs) 1 W 2) (hW : ∀ r ∈ W, r ∈ L (frN (wideN cs) r)) : ∃ i, i < cs.length ∧ W = [4 * i, 4 * i + 2] := by
  cases W with
  | nil => exact absurd ht (by show ¬ (1 : Nat) = 2; omega)
  | cons r W =>
    obtain ⟨h1, h2⟩ := ht
    have hr := hG.ok _ _ (hW r (by simp))
    have hrl := hr.1
    rw [wide_len] at hrl
    obtain ⟨i, j, hj, rfl⟩ : ∃ i j, j < 4 ∧ r = 4 * i + j := ⟨r / 4, r % 4, by omega, by omega⟩
    have hi : i < cs.length := by omega
    obtain ⟨⟨a1, a2⟩, ⟨b1, b2⟩, ⟨c1, c2⟩, d1, d2⟩ := wide_ends hi
    have hj0 : j = 0 := by
      rcases (show j = 0 ∨ j = 1 ∨ j = 2 ∨ j = 3 by omega) with h | rfl | rfl | rfl
      · exact h
      · rw [b1] at h1; omega
      · rw [c1] at h1; omega
      · rw [d1] at h1; omega
    subst hj0
    rw [Nat.add_zero] at h2 hr
    rw [a2] at h2
    cases W with
    | nil => exact absurd h2 (by show ¬ i + 3 = 2; omega)
    | cons q W =>
      obtain ⟨h3, h4⟩ := h2
      have hq := hG.ok _ _ (hW q (by simp))
      have hql := hq.1
      rw [wide_len] at hql
      obtain ⟨k, j, hj, rfl⟩ : ∃ i j, j < 4 ∧ q = 4 * i + j := ⟨q / 4, q % 4, by omega, by omega⟩
      have hk : k < cs.length := by omega
      obtain ⟨⟨e1, e2⟩, ⟨f1, f2⟩, ⟨g1, g2⟩, k1, k2⟩ := wide_ends hk
      have hr3 := hr.2.2
      rw [a1, a2] at hr3
      have hj2 : j = 2 ∧ k = i := by
        rcases (show j = 0 ∨ j = 1 ∨ j = 2 ∨ j = 3 by omega) with rfl | rfl | rfl | rfl
        · rw [Nat.add_zero, e1] at h3; omega
        · rw [f1] at h3
          obtain rfl : k = i := by omega
          have := hq.2.2
          rw [f1, f2] at this
          omega
        · rw [g1] at h3; exact ⟨rfl, by omega⟩
        · rw [k1] at h3; omega
      obtain ⟨rfl, rfl⟩ := hj2
      rw [g2] at h4
      have := (Tr_lv hG h4 fun r hr => hW r (by simp [hr])).1
      have hl : W.length = 0 := by omega
      obtain rfl := List.length_eq_zero_iff.1 hl
      exact ⟨k, hk, rfl⟩
end
/-- How many nodes let something through still. -/
def openC (rm : List Int) : Nat → Nat
  | 0 => 0
  | n + 1 => openC rm n + if 1 ≤ rm.getD (4 * n) 0 ∧ 1 ≤ rm.getD (4 * n + 2) 0 then 1 else 0
theorem openC_less {rm rm' : List Int} {i : Nat} (h : ∀ k, k ≠ i → rm'.getD (4 * k) 0 = rm.getD (4 * k) 0 ∧ rm'.getD (4 * k + 2) 0 = rm.getD (4 * k + 2) 0) (h1 : 1 ≤ rm.getD (4 * i) 0 ∧ 1 ≤ rm.getD (4 * i + 2) 0) (h2 : ¬ (1 ≤ rm'.getD (4 * i) 0 ∧ 1 ≤ rm'.getD (4 * i + 2) 0)) : ∀ n, openC rm n = openC rm' n + if i < n then 1 else 0
  | 0 => rfl
  | n + 1 => by
    have ih := openC_less h h1 h2 n
    simp only [openC]
    by_cases e : n = i
    · subst e
      rw [if_pos h1, if_neg h2, if_pos (by omega), ih, if_neg (by omega)]
    · rw [(h n e).1, (h n e).2, ih]
      by_cases e2 : i < n
      · rw [if_pos e2, if_pos (show i < n + 1 by omega)]; omega
      · rw [if_neg e2, if_neg (show ¬ i < n + 1 by omega)]; omega
theorem openC_zero {rm : List Int} : ∀ n, (∀ i, i < n → ¬ (1 ≤ rm.getD (4 * i) 0 ∧ 1 ≤ rm.getD (4 * i + 2) 0)) ↔ openC rm n = 0
  | 0 => ⟨fun _ => rfl, fun _ _ h => by omega⟩
  | n + 1 => by
    have ih := openC_zero (rm := rm) n
    simp only [openC]
    constructor
    · intro h
      rw [if_neg (h n (by omega)), (ih.1 fun i hi => h i (by omega))]
    · intro h i hi
      by_cases e : i = n
      · subst e
        intro hc
        rw [if_pos hc] at h
        omega
      · exact ih.2 (by omega) i (by omega)
theorem push_two {rm : List Int} {a : Int} {i n : Nat} (hl : rm.length = 4 * n) (hi : i < n) : (pushR a [4 * i, 4 * i + 2] rm).getD (4 * i) 0 = rm.getD (4 * i) 0 - a ∧ (pushR a [4 * i, 4 * i + 2] rm).getD (4 * i + 2) 0 = rm.getD (4 * i + 2) 0 - a ∧ ∀ k, k ≠ i → (pushR a [4 * i, 4 * i + 2] rm).getD (4 * k) 0 = rm.getD (4 * k) 0 ∧ (pushR a [4 * i, 4 * i + 2] rm).getD (4 * k + 2) 0 = rm.getD (4 * k + 2) 0 := by
  have f1 : flipT (4 * i) = 4 * i + 1 := by unfold flipT; split <;> omega
  have f2 : flipT (4 * i + 2) = 4 * i + 3 := by unfold flipT; split <;> omega
  have key : ∀ q, (pushR a [4 * i, 4 * i + 2] rm).getD q 0 = if 4 * i + 3 = q then rm.getD q 0 + a else if 4 * i + 2 = q then rm.getD q 0 - a else if 4 * i + 1 = q then rm.getD q 0 + a else if 4 * i = q then rm.getD q 0 - a else rm.getD q 0 := by
    intro q
    have hp : ∀ (m : List Int) (r q : Nat), r < m.length → flipT r < m.length → (push1 a r m).getD q 0 = if flipT r = q then m.getD (flipT r) 0 + a else if r = q then m.getD r 0 - a else m.getD q 0 := by
      intro m r q h1 h2
      unfold push1
      rw [getD_set (by rw [List.length_set]; exact h2), getD_set h1]
    simp only [pushR]
    rw [hp _ (4 * i + 2) q (by rw [push1_length]; omega) (by rw [push1_length, f2]; omega), f2, hp rm (4 * i) (4 * i + 3) (by omega) (by rw [f1]; omega), hp rm (4 * i) (4 * i + 2) (by omega) (by rw [f1]; omega), hp rm (4 * i) q (by omega) (by rw [f1]; omega), f1]
    rw [if_neg (show ¬ 4 * i + 1 = 4 * i + 3 by omega), if_neg (show ¬ 4 * i = 4 * i + 3 by omega), if_neg (show ¬ 4 * i + 1 = 4 * i + 2 by omega), if_neg (show ¬ 4 * i = 4 * i + 2 by omega)]
    by_cases e1 : 4 * i + 3 = q
    · subst e1; rw [if_pos rfl, if_pos rfl]
    rw [if_neg e1, if_neg e1]
    by_cases e2 : 4 * i + 2 = q
    · subst e2; rw [if_pos rfl, if_pos rfl]
    rw [if_neg e2, if_neg e2]
    by_cases e3 : 4 * i + 1 = q
    · subst e3; rw [if_pos rfl, if_pos rfl]
    rw [if_neg e3, if_neg e3]
    by_cases e4 : 4 * i = q
    · subst e4; simp
    rw [if_neg e4, if_neg e4]
  refine ⟨?_, ?_, fun k hk => ⟨?_, ?_⟩⟩
  · rw [key, if_neg (by omega), if_neg (by omega), if_neg (by omega), if_pos rfl]
  · rw [key, if_neg (by omega), if_pos rfl]
  · rw [key, if_neg (by omega), if_neg (by omega), if_neg (by omega), if_neg (by omega)]
  · rw [key, if_neg (by omega), if_neg (by omega), if_neg (by omega), if_neg (by omega)]
/-- Each walk takes one node whole. -/
theorem wide_bl {cs : List (Int × Int)} (hR : (wideN cs).Right) {L : Nat → List Nat} {lv : Nat → Int} (hG : Graded (wideN cs) L lv) {rm rm' : List Int} {pos W : List Nat} {ws : List (List Nat × Int)} (h : Bl (wideN cs) L 1 rm pos W ws rm') :
    ∀ f, IsFlow (wideN cs) f → rm = roomL ((wideN cs).arcs.zip f) → PI (wideN cs) L 1 rm pos W → (∀ i, i < cs.length → 1 ≤ rm.getD (4 * i) 0 → 1 ≤ rm.getD (4 * i + 2) 0 → 4 * i ∈ L 1 ∧ 4 * i + 2 ∈ L (i + 3)) →
      ws.length = openC rm cs.length ∧ openC rm' cs.length = 0 := by
  induction h with
  | @stop rm pos W pos' W' hn =>
    intro f hf he hI hL
    obtain ⟨h1, _, h3⟩ := hn.keeps hG hI
    obtain ⟨rfl, hd⟩ := h3 rfl
    have hz : openC rm cs.length = 0 := by
      refine (openC_zero _).1 fun i hi hc => ?_
      obtain ⟨l1, l2⟩ := hL i hi hc.1 hc.2
      obtain ⟨⟨a1, a2⟩, _, ⟨c1, c2⟩, _⟩ := wide_ends hi
      have p0 : LP (wideN cs) L 1 rm (frN (wideN cs) (4 * i)) := by rw [a1]; exact LP.src
      have p1 := LP.step p0 (by rw [a1]; exact l1) hc.1
      rw [a2, ← c1] at p1
      have p2 := LP.step p1 (by rw [c1]; exact l2) hc.2
      exact (blocked hR hG h1 hd (by show (1 : Nat) ≠ 2; omega) p2).1 c2
    exact ⟨by rw [hz]; rfl, hz⟩
  | @walk rm rm' pos W pos' W' ws' k1 k2 ih =>
    intro f hf he hI hL
    obtain ⟨g1, g2, _⟩ := k1.keeps hG hI
    have hend := g2 rfl
    obtain ⟨_, _, _, _, _, hma, ⟨f1, hf1, hf1e⟩, hPI', _⟩ := push_keeps hR hG (Int.le_refl 1) hf he g1 hend
    have hon := g1.on
    rw [hend] at hon
    obtain ⟨i, hi, hWe⟩ := wide_walk hG hon g1.mem
    have hrl : rm.length = 4 * cs.length := by rw [he, roomL_length, List.length_zip, hf.len, Nat.min_self, wide_len]; omega
    have hmin : mostR rm W' ≤ rm.getD (4 * i) 0 ∧ mostR rm W' ≤ rm.getD (4 * i + 2) 0 := ⟨mostR_le _ (by rw [hWe]; simp), mostR_le _ (by rw [hWe]; simp)⟩
    obtain ⟨q, hq, hqe⟩ := mostR_at (rm := rm) (W := W') (by rw [hWe]; simp)
    have hor : mostR rm W' = rm.getD (4 * i) 0 ∨ mostR rm W' = rm.getD (4 * i + 2) 0 := by
      rw [hWe] at hq
      simp only [List.mem_cons, List.not_mem_nil, or_false] at hq
      rcases hq with rfl | rfl
      · exact .inl hqe
      · exact .inr hqe
    obtain ⟨a, ha⟩ : ∃ a, a = mostR rm W' := ⟨_, rfl⟩
    rw [← ha] at hma hmin hor hf1e hPI' ih
    obtain ⟨t1, t2, t3⟩ := push_two (a := a) hrl hi
    rw [← hWe] at t1 t2 t3
    have hless := openC_less t3 (by omega) (by omega) cs.length
    rw [if_pos hi] at hless
    obtain ⟨r1, r2⟩ := ih f1 hf1 hf1e hPI' fun k hk c1 c2 => by
      by_cases e : k = i
      · subst e
        exact hL k hk (by omega) (by omega)
      · obtain ⟨u1, u2⟩ := t3 k e
        exact hL k hk (by omega) (by omega)
    exact ⟨by rw [List.length_cons, r1]; omega, r2⟩
end Go.Proofs.Ytcgcimnjknadjaa
