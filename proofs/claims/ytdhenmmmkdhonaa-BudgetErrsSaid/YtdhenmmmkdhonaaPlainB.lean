
/- One walk that is led, in plain terms. -/
import Derived.Test.YtdhenmmmkdhonaaQF
set_option linter.unusedVariables false
set_option linter.unusedSimpArgs false
namespace Go.Proofs.Ytdhenmmmkdhonaa
open Go.RowKit
theorem rooms_len {N : Net} {f : List Int} (hf : f.length = N.arcs.length) : (roomL (N.arcs.zip f)).length = 2 * N.arcs.length := by
  rw [roomL_length, List.length_zip, hf, Nat.min_self]
theorem rooms_bound {N : Net} (hR : N.Right) {f : List Int} (hf : Ranged N f) (q : Nat) : 0 ≤ (roomL (N.arcs.zip f)).getD q 0 ∧ (roomL (N.arcs.zip f)).getD q 0 ≤ 4611686018427387903 := by
  by_cases hq : q < 2 * N.arcs.length
  · have h0 := (rooms_ranged hf.len).1 hf
    obtain ⟨ar, har⟩ : ∃ x, N.arcs[q / 2]? = some x := ⟨N.arcs[q / 2]'(by omega), List.getElem?_eq_getElem (by omega)⟩
    have hx : f[q / 2]? = some (f.getD (q / 2) 0) := by rw [List.getD_eq_getElem?_getD, List.getElem?_eq_getElem (by have := hf.len; omega)]; rfl
    obtain ⟨g1, g2⟩ := roomL_get (zip_some har hx)
    have hc := hR.cap (List.mem_of_getElem? har)
    have k1 := h0 (2 * (q / 2)) (by omega)
    have k2 := h0 (2 * (q / 2) + 1) (by omega)
    have k3 := h0 q hq
    rw [List.getD_eq_getElem?_getD, g1, Option.getD_some] at k1
    rw [List.getD_eq_getElem?_getD, g2, Option.getD_some] at k2
    refine ⟨k3, ?_⟩
    simp only at k1 k2
    rcases Nat.mod_two_eq_zero_or_one q with hm | hm
    · rw [show 2 * (q / 2) = q by omega] at g1
      rw [List.getD_eq_getElem?_getD, g1, Option.getD_some]; simp only; omega
    · rw [show 2 * (q / 2) + 1 = q by omega] at g2
      rw [List.getD_eq_getElem?_getD, g2, Option.getD_some]; simp only; omega
  · rw [List.getD_eq_getElem?_getD, List.getElem?_eq_none (by rw [rooms_len hf.len]; omega)]
    exact ⟨Int.le_refl _, by decide⟩
/-- What leading a walk keeps. -/
theorem push_keeps {N : Net} (hR : N.Right) {L : Nat → List Nat} {lv : Nat → Int} {least : Int} (hG : Graded N L lv) (hle : 1 ≤ least) {rm : List Int} {pos W : List Nat} {f : List Int} (hf : IsFlow N f) (he : rm = roomL (N.arcs.zip f)) (hI : PI N L least rm pos W) (hend : endN N W = N.snk.toNat) :
    W ≠ [] ∧ (∀ r ∈ W, r < 2 * N.arcs.length) ∧ W.Nodup ∧ (∀ r ∈ W, ∀ q ∈ W, flipT r ≠ q) ∧ W.length ≤ N.nodes.toNat ∧ least ≤ mostR rm W ∧
    (∃ f', IsFlow N f' ∧ pushR (mostR rm W) W rm = roomL (N.arcs.zip f')) ∧ PI N L least (pushR (mostR rm W) W rm) pos (W.take (cutR least (pushR (mostR rm W) W rm) W)) ∧
    (∀ v r, r ∈ L v → (pushR (mostR rm W) W rm).getD r 0 ≤ rm.getD r 0) ∧ ∃ r v, r ∈ L v ∧ least ≤ rm.getD r 0 ∧ (pushR (mostR rm W) W rm).getD r 0 < least := by
  have hon := hI.on
  have hlvl := (Tr_lv hG hon hI.mem).1
  have hh1 := hG.hi (endN N W)
  have hh2 := hG.hi N.src.toNat
  rw [hend] at hon
  have hnd := Tr_nodup hG hon hI.mem
  have hlt : ∀ r ∈ W, r < 2 * N.arcs.length := fun r hr => (hG.ok _ _ (hI.mem r hr)).1
  have hroom : ∀ r ∈ W, least ≤ rm.getD r 0 := fun r hr => by obtain ⟨_, _, _, h⟩ := hI.head r hr; exact h
  have hWne : W ≠ [] := by
    intro h0
    have hsr := hR.src
    have hsk := hR.snk
    have hdf := hR.diff
    rw [h0] at hend
    simp only [endN, List.getLast?_nil] at hend
    omega
  obtain ⟨r0, hr0, hmo⟩ := mostR_at (rm := rm) hWne
  have hma := hroom r0 hr0
  rw [← hmo] at hma
  obtain ⟨a, haeq⟩ : ∃ a, a = mostR rm W := ⟨_, rfl⟩
  rw [← haeq] at hma hmo ⊢
  have hmle : ∀ r ∈ W, a ≤ rm.getD r 0 := fun r hr => haeq ▸ mostR_le r hr
  obtain ⟨k1, k2, k3⟩ := push_flow hR hf hlt hnd.1 hon (by omega : 0 ≤ a) (he ▸ hmle)
  rw [← he] at k2
  have hzl : rm.length = 2 * N.arcs.length := by rw [he]; exact rooms_len hf.len
  have hget := pushR_get (a := a) hzl hlt hnd.1
  have hmono : ∀ v r, r ∈ L v → (pushR a W rm).getD r 0 ≤ rm.getD r 0 := by
    intro v r hr
    rw [hget]
    have : flipT r ∉ W := by
      intro hin
      have g1 := (hG.ok _ _ hr)
      have g2 := (hG.ok _ _ (hI.mem _ hin)).2.2
      have g3 := g1.2.2
      rw [toN_flip, frN_flip] at g2
      rw [← g1.2.1] at g3
      omega
    rw [if_neg this]
    split <;> omega
  refine ⟨hWne, hlt, hnd.1, hnd.2, by omega, hma, ⟨_, k1, k2⟩, ?_, hmono, r0, _, hI.mem r0 hr0, hroom r0 hr0, ?_⟩
  · refine ⟨hI.pl, Tr_take _ hon, fun r hr => ?_, fun v p hp j r hj hjr => ?_⟩
    · obtain ⟨p, g1, g2, _⟩ := hI.head r (List.mem_of_mem_take hr)
      refine ⟨p, g1, g2, ?_⟩
      obtain ⟨i, hi, hir⟩ := List.mem_iff_getElem.1 hr
      have hi' : i < cutR least (pushR a W rm) W := by rw [List.length_take] at hi; omega
      rw [List.getElem_take] at hir
      have := List.not_of_lt_findIdx hi'
      rw [hir] at this
      simpa using this
    · rcases hI.pass v p hp j r hj hjr with k | k
      · exact .inl (by have := hmono v r (List.mem_of_getElem? hjr); omega)
      · exact .inr k
  · rw [hget, if_neg (fun hin => hnd.2 r0 hr0 _ hin rfl), if_pos hr0]; omega
/-- The search as it begins. -/
theorem PI.start {N : Net} {L : Nat → List Nat} {least : Int} {rm : List Int} : PI N L least rm (List.replicate (N.nodes.toNat + 1) 0) [] := by
  refine ⟨by simp, ⟨_, rfl⟩, fun r hr => (by cases hr), fun v p hp j r hj => ?_⟩
  rw [List.getElem?_replicate] at hp
  split at hp
  · simp only [Option.some.injEq] at hp; omega
  · cases hp
/-- Leads that have room still. -/
def cntL (ls : List Nat) (least : Int) (rm : List Int) : Nat := (ls.filter fun r => decide (least ≤ rm.getD r 0)).length
theorem cntL_le {least : Int} {rm rm' : List Int} : ∀ {ls : List Nat}, (∀ r ∈ ls, rm'.getD r 0 ≤ rm.getD r 0) → cntL ls least rm' ≤ cntL ls least rm
  | [], _ => Nat.le_refl _
  | r :: ls, h => by
    have ih := cntL_le (ls := ls) (least := least) fun q hq => h q (by simp [hq])
    have h1 := h r (by simp)
    unfold cntL at *
    simp only [List.filter_cons, decide_eq_true_eq]
    split
    · rw [if_pos (by omega)]; simp only [List.length_cons]; omega
    · split
      · simp only [List.length_cons]; omega
      · exact ih
theorem cntL_lt {least : Int} {rm rm' : List Int} : ∀ {ls : List Nat}, (∀ r ∈ ls, rm'.getD r 0 ≤ rm.getD r 0) → ∀ r ∈ ls, least ≤ rm.getD r 0 → rm'.getD r 0 < least → cntL ls least rm' < cntL ls least rm
  | [], _, _, h, _, _ => by cases h
  | q :: ls, h, r, hr, h1, h2 => by
    have hle := cntL_le (ls := ls) (least := least) fun q hq => h q (by simp [hq])
    have hq := h q (by simp)
    unfold cntL at *
    simp only [List.filter_cons, decide_eq_true_eq]
    rcases List.mem_cons.1 hr with rfl | hr
    · rw [if_neg (by omega), if_pos h1]; simp only [List.length_cons]; omega
    · have ih := cntL_lt (ls := ls) (fun q hq => h q (by simp [hq])) r hr h1 h2
      unfold cntL at ih
      split
      · rw [if_pos (by omega)]; simp only [List.length_cons]; omega
      · split
        · simp only [List.length_cons]; omega
        · exact ih
end Go.Proofs.Ytdhenmmmkdhonaa
