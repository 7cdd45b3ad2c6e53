/- The engine and the words that all chapters share: several texts in one. -/
import Derived.Test.YtfogkbmbmaganaaQF

/- One walk that is led, in plain terms. -/
set_option linter.unusedVariables false
set_option linter.unusedSimpArgs false
namespace Go.Proofs.Ytfogkbmbmaganaa
open Go.RowKit
theorem rooms_len {N : Net} {f : List Int} (hf : f.length = N.arcs.length) : (roomL (N.arcs.zip f)).length = 2 * N.arcs.length := by
  rw [roomL_length, List.length_zip, hf, Nat.min_self]
theorem rooms_bound {N : Net} (hR : N.Right) {f : List Int} (hf : Ranged N f) (q : Nat) : 0 ≤ (roomL (N.arcs.zip f)).getD q 0 ∧ (roomL (N.arcs.zip f)).getD q 0 ≤ 4611686018427387903 := by
  by_cases hq : q < 2 * N.arcs.length
  · have h0 := (rooms_ranged hf.len).1 hf
    obtain ⟨ar, har⟩ : ∃ x, N.arcs[q / 2]? = some x := ⟨N.arcs[q / 2]'(by omega), List.getElem?_eq_getElem (by omega)⟩
    have hx : f[q / 2]? = some (f.getD (q / 2) 0) := by rw [List.getD_eq_getElem?_getD, List.getElem?_eq_getElem (by have := hf.len; omega)]; rfl
    obtain ⟨g1, g2⟩ := roomL_get (zip_some har hx)
    have hc := hR.cap (List.mem_of_getElem? har)
    have k1 := h0 (2 * (q / 2)) (by omega)
    have k2 := h0 (2 * (q / 2) + 1) (by omega)
    have k3 := h0 q hq
    rw [List.getD_eq_getElem?_getD, g1, Option.getD_some] at k1
    rw [List.getD_eq_getElem?_getD, g2, Option.getD_some] at k2
    refine ⟨k3, ?_⟩
    simp only at k1 k2
    rcases Nat.mod_two_eq_zero_or_one q with hm | hm
    · rw [show 2 * (q / 2) = q by omega] at g1
      rw [List.getD_eq_getElem?_getD, g1, Option.getD_some]; simp only; omega
    · rw [show 2 * (q / 2) + 1 = q by omega] at g2
      rw [List.getD_eq_getElem?_getD, g2, Option.getD_some]; simp only; omega
  · rw [List.getD_eq_getElem?_getD, List.getElem?_eq_none (by rw [rooms_len hf.len]; omega)]
    exact ⟨Int.le_refl _, by decide⟩
theorem push_keeps {N : Net} (hR : N.Right) {L : Nat → List Nat} {lv : Nat → Int} {least : Int} (hG : Graded N L lv) (hle : 1 ≤ least) {rm : List Int} {pos W : List Nat} {f : List Int} (hf : IsFlow N f) (he : rm = roomL (N.arcs.zip f)) (hI : PI N L least rm pos W) (hend : endN N W = N.snk.toNat) :
    W ≠ [] ∧ (∀ r ∈ W, r < 2 * N.arcs.length) ∧ W.Nodup ∧ (∀ r ∈ W, ∀ q ∈ W, flipT r ≠ q) ∧ W.length ≤ N.nodes.toNat ∧ least ≤ mostR rm W ∧
    (∃ f', IsFlow N f' ∧ pushR (mostR rm W) W rm = roomL (N.arcs.zip f')) ∧ PI N L least (pushR (mostR rm W) W rm) pos (W.take (cutR least (pushR (mostR rm W) W rm) W)) ∧
    (∀ v r, r ∈ L v → (pushR (mostR rm W) W rm).getD r 0 ≤ rm.getD r 0) ∧ ∃ r v, r ∈ L v ∧ least ≤ rm.getD r 0 ∧ (pushR (mostR rm W) W rm).getD r 0 < least := by
  have hon := hI.on
  have hlvl := (Tr_lv hG hon hI.mem).1
  have hh1 := hG.hi (endN N W)
  have hh2 := hG.hi N.src.toNat
  rw [hend] at hon
  have hnd := Tr_nodup hG hon hI.mem
  have hlt : ∀ r ∈ W, r < 2 * N.arcs.length := fun r hr => (hG.ok _ _ (hI.mem r hr)).1
  have hroom : ∀ r ∈ W, least ≤ rm.getD r 0 := fun r hr => by obtain ⟨_, _, _, h⟩ := hI.head r hr; exact h
  have hWne : W ≠ [] := by
    intro h0
    have hsr := hR.src
    have hsk := hR.snk
    have hdf := hR.diff
    rw [h0] at hend
    simp only [endN, List.getLast?_nil] at hend
    omega
  obtain ⟨r0, hr0, hmo⟩ := mostR_at (rm := rm) hWne
  have hma := hroom r0 hr0
  rw [← hmo] at hma
  obtain ⟨a, haeq⟩ : ∃ a, a = mostR rm W := ⟨_, rfl⟩
  rw [← haeq] at hma hmo ⊢
  have hmle : ∀ r ∈ W, a ≤ rm.getD r 0 := fun r hr => haeq ▸ mostR_le r hr
  obtain ⟨k1, k2, k3⟩ := push_flow hR hf hlt hnd.1 hon (by omega : 0 ≤ a) (he ▸ hmle)
  rw [← he] at k2
  have hzl : rm.length = 2 * N.arcs.length := by rw [he]; exact rooms_len hf.len
  have hget := pushR_get (a := a) hzl hlt hnd.1
  have hmono : ∀ v r, r ∈ L v → (pushR a W rm).getD r 0 ≤ rm.getD r 0 := by
    intro v r hr
    rw [hget]
    have : flipT r ∉ W := by
      intro hin
      have g1 := (hG.ok _ _ hr)
      have g2 := (hG.ok _ _ (hI.mem _ hin)).2.2
      have g3 := g1.2.2
      rw [toN_flip, frN_flip] at g2
      rw [← g1.2.1] at g3
      omega
    rw [if_neg this]
    split <;> omega
  refine ⟨hWne, hlt, hnd.1, hnd.2, by omega, hma, ⟨_, k1, k2⟩, ?_, hmono, r0, _, hI.mem r0 hr0, hroom r0 hr0, ?_⟩
  · refine ⟨hI.pl, Tr_take _ hon, fun r hr => ?_, fun v p hp j r hj hjr => ?_⟩
    · obtain ⟨p, g1, g2, _⟩ := hI.head r (List.mem_of_mem_take hr)
      refine ⟨p, g1, g2, ?_⟩
      obtain ⟨i, hi, hir⟩ := List.mem_iff_getElem.1 hr
      have hi' : i < cutR least (pushR a W rm) W := by rw [List.length_take] at hi; omega
      rw [List.getElem_take] at hir
      have := List.not_of_lt_findIdx hi'
      rw [hir] at this
      simpa using this
    · rcases hI.pass v p hp j r hj hjr with k | k
      · exact .inl (by have := hmono v r (List.mem_of_getElem? hjr); omega)
      · exact .inr k
  · rw [hget, if_neg (fun hin => hnd.2 r0 hr0 _ hin rfl), if_pos hr0]; omega
theorem PI.start {N : Net} {L : Nat → List Nat} {least : Int} {rm : List Int} : PI N L least rm (List.replicate (N.nodes.toNat + 1) 0) [] := by
  refine ⟨by simp, ⟨_, rfl⟩, fun r hr => (by cases hr), fun v p hp j r hj => ?_⟩
  rw [List.getElem?_replicate] at hp
  split at hp
  · simp only [Option.some.injEq] at hp; omega
  · cases hp
def cntL (ls : List Nat) (least : Int) (rm : List Int) : Nat := (ls.filter fun r => decide (least ≤ rm.getD r 0)).length
theorem cntL_le {least : Int} {rm rm' : List Int} : ∀ {ls : List Nat}, (∀ r ∈ ls, rm'.getD r 0 ≤ rm.getD r 0) → cntL ls least rm' ≤ cntL ls least rm
  | [], _ => Nat.le_refl _
  | r :: ls, h => by
    have ih := cntL_le (ls := ls) (least := least) fun q hq => h q (by simp [hq])
    have h1 := h r (by simp)
    unfold cntL at *
    simp only [List.filter_cons, decide_eq_true_eq]
    split
    · rw [if_pos (by omega)]; simp only [List.length_cons]; omega
    · split
      · simp only [List.length_cons]; omega
      · exact ih
theorem cntL_lt {least : Int} {rm rm' : List Int} : ∀ {ls : List Nat}, (∀ r ∈ ls, rm'.getD r 0 ≤ rm.getD r 0) → ∀ r ∈ ls, least ≤ rm.getD r 0 → rm'.getD r 0 < least → cntL ls least rm' < cntL ls least rm
  | [], _, _, h, _, _ => by cases h
  | q :: ls, h, r, hr, h1, h2 => by
    have hle := cntL_le (ls := ls) (least := least) fun q hq => h q (by simp [hq])
    have hq := h q (by simp)
    unfold cntL at *
    simp only [List.filter_cons, decide_eq_true_eq]
    rcases List.mem_cons.1 hr with rfl | hr
    · rw [if_neg (by omega), if_pos h1]; simp only [List.length_cons]; omega
    · have ih := cntL_lt (ls := ls) (fun q hq => h q (by simp [hq])) r hr h1 h2
      unfold cntL at ih
      split
      · rw [if_pos (by omega)]; simp only [List.length_cons]; omega
      · split
        · simp only [List.length_cons]; omega
        · exact ih
end Go.Proofs.Ytfogkbmbmaganaa


/- Phases, in plain terms. -/
set_option linter.unusedVariables false
set_option linter.unusedSimpArgs false
namespace Go.Proofs.Ytfogkbmbmaganaa
open Go.RowKit
def BlkOf (N : Net) (least : Int) (f : List Int) (ws : List (List Nat × Int)) (f' : List Int) : Prop :=
  ∃ lv, IsLev N (roomL (N.arcs.zip f)) least lv ∧ IsFlow N f' ∧
    Bl N (ldAt N (leadsL N (roomL (N.arcs.zip f)) least lv (2 * N.arcs.length))) least (roomL (N.arcs.zip f)) (List.replicate (N.nodes.toNat + 1) 0) [] ws (roomL (N.arcs.zip f'))
theorem ex_bound : ∀ (ps : List (Arc × Int)) (v : Int), (∀ p ∈ ps, 0 ≤ p.2 ∧ p.2 ≤ p.1.cap) → -((ps.map (·.1.cap)).sum) ≤ exZ ps v ∧ exZ ps v ≤ (ps.map (·.1.cap)).sum
  | [], _, _ => by simp [exZ]
  | p :: ps, v, h => by
    have ih := ex_bound ps v fun q hq => h q (by simp [hq])
    have hp := h p (by simp)
    simp only [exZ] at ih
    simp only [exZ, List.map_cons, List.sum_cons]
    split <;> split <;> omega
theorem zip_caps {l : List Arc} {f : List Int} (h : f.length = l.length) : (l.zip f).map (·.1.cap) = l.map (·.cap) := by
  have hzm : (l.zip f).map (·.1) = l := List.map_fst_zip (by omega)
  have e : (l.zip f).map (·.1.cap) = ((l.zip f).map (·.1)).map (·.cap) := by rw [List.map_map]; rfl
  rw [e, hzm]
theorem value_bound {N : Net} (hR : N.Right) {f : List Int} (hf : Ranged N f) (v : Int) : -4611686018427387903 ≤ exZ (N.arcs.zip f) v ∧ exZ (N.arcs.zip f) v ≤ 4611686018427387903 := by
  have h := ex_bound (N.arcs.zip f) v hf.all
  rw [zip_caps hf.len] at h
  have := hR.sum
  omega
theorem lev_le {N : Net} {rm : List Int} {least : Int} {lv lv' : List Int} (h : IsLev N rm least lv) (h' : IsLev N rm least lv') : ∀ (k v : Nat), lvZ lv v = k → 0 ≤ lvZ lv' v ∧ lvZ lv' v ≤ k
  | 0, v, hv => by rw [h.zero v (by simpa using hv), h'.src]; simp
  | k + 1, v, hv => by
    obtain ⟨r, h1, h2, h3, h4⟩ := h.back v (by omega)
    have ih := lev_le h h' k (frN N r) (by omega)
    have := h'.step r h1 h2 ih.1
    rw [h3] at this
    omega
theorem lev_uniq {N : Net} {rm : List Int} {least : Int} {lv lv' : List Int} (h : IsLev N rm least lv) (h' : IsLev N rm least lv') (v : Nat) : lvZ lv v = lvZ lv' v := by
  have r1 := h.rng v
  have r2 := h'.rng v
  by_cases e : 0 ≤ lvZ lv v
  · have k1 := lev_le h h' (lvZ lv v).toNat v (by omega)
    have k2 := lev_le h' h (lvZ lv' v).toNat v (by omega)
    omega
  · by_cases e2 : 0 ≤ lvZ lv' v
    · have k2 := lev_le h' h (lvZ lv' v).toNat v (by omega)
      omega
    · omega
theorem lev_eq {N : Net} {rm : List Int} {least : Int} {lv lv' : List Int} (h : IsLev N rm least lv) (h' : IsLev N rm least lv') : lv = lv' := by
  refine List.ext_getElem (by rw [h.len, h'.len]) fun i h1 h2 => ?_
  have e1 := lvZ_get (List.getElem?_eq_getElem h1)
  have e2 := lvZ_get (List.getElem?_eq_getElem h2)
  rw [← e1, ← e2]; exact lev_uniq h h' i
theorem Bl_nil {N : Net} {L : Nat → List Nat} {least : Int} {rm rm' : List Int} {pos W : List Nat} (h : Bl N L least rm pos W [] rm') : rm' = rm := by
  cases h; rfl
theorem room_inj {N : Net} {f g : List Int} (hf : f.length = N.arcs.length) (hg : g.length = N.arcs.length) (h : roomL (N.arcs.zip f) = roomL (N.arcs.zip g)) : f = g := by
  refine List.ext_getElem (by omega) fun i hi hi2 => ?_
  have har : N.arcs[i]? = some (N.arcs[i]'(by omega)) := List.getElem?_eq_getElem _
  have g1 := (roomL_get (zip_some har (List.getElem?_eq_getElem hi))).2
  have g2 := (roomL_get (zip_some har (List.getElem?_eq_getElem hi2))).2
  rw [h] at g1
  rw [g1] at g2
  simpa using g2
theorem BlkOf.keeps {N : Net} (hR : N.Right) {least : Int} (hle : 1 ≤ least) {f f' : List Int} {ws : List (List Nat × Int)} (hf : IsFlow N f) (h : BlkOf N least f ws f') {lv : List Int} (hlv : IsLev N (roomL (N.arcs.zip f)) least lv) :
    IsFlow N f' ∧ exZ (N.arcs.zip f) N.snk + least * ws.length ≤ exZ (N.arcs.zip f') N.snk ∧ (0 ≤ lvZ lv N.snk.toNat → ws ≠ []) := by
  obtain ⟨lv', hlv', hf', hb⟩ := h
  obtain ⟨f2, h1, h2, h3, h4, _⟩ := hb.keeps hR (graded_leads hlv') hle f hf rfl PI.start
  have hz : f' = f2 := room_inj hf'.len h1.len h2
  subst hz
  refine ⟨hf', h3, fun hd hw => ?_⟩
  subst hw
  have hrm := Bl_nil hb
  rw [hrm] at h4
  rw [lev_uniq hlv hlv'] at hd
  exact h4 _ (lev_LP hlv' (lvZ lv' N.snk.toNat).toNat _ (by omega)) rfl
inductive Dn (N : Net) (least : Int) : List Int → Nat → Nat → List Int → Prop
  | stop {f lv : List Int} : IsLev N (roomL (N.arcs.zip f)) least lv → lvZ lv N.snk.toNat < 0 → Dn N least f 0 0 f
  | step {f f1 f' lv : List Int} {ws : List (List Nat × Int)} {p k : Nat} : IsLev N (roomL (N.arcs.zip f)) least lv → 0 ≤ lvZ lv N.snk.toNat → BlkOf N least f ws f1 → Dn N least f1 p k f' → Dn N least f (p + 1) (ws.length + k) f'
theorem Dn.keeps {N : Net} (hR : N.Right) {least : Int} (hle : 1 ≤ least) {f f' : List Int} {p k : Nat} (h : Dn N least f p k f') : IsFlow N f →
    IsFlow N f' ∧ exZ (N.arcs.zip f) N.snk + least * k ≤ exZ (N.arcs.zip f') N.snk ∧ p ≤ k ∧ ∃ lv, IsLev N (roomL (N.arcs.zip f')) least lv ∧ lvZ lv N.snk.toNat < 0 := by
  induction h with
  | stop h1 h2 => exact fun hf => ⟨hf, by simp, Nat.le_refl _, _, h1, h2⟩
  | @step f f1 f' lv ws p k h1 h2 h3 _ ih =>
    intro hf
    obtain ⟨k1, k2, k3⟩ := h3.keeps hR hle hf h1
    obtain ⟨g1, g2, g3, g4⟩ := ih k1
    have hw := List.length_pos_iff.2 (k3 h2)
    refine ⟨g1, ?_, by omega, g4⟩
    have : least * ((ws.length + k : Nat) : Int) = least * ws.length + least * k := by
      rw [Int.natCast_add, Int.mul_add]
    omega
end Go.Proofs.Ytfogkbmbmaganaa
