
/- The engine by trees, in plain terms: how much there is to do, and what is told. -/
import Derived.Test.YtfogkbmbmaganaaGreatQX11
set_option linter.unusedVariables false
set_option linter.unusedSimpArgs false
namespace Go.Proofs.YtfogkbmbmaganaaGreat
open Go.RowKit
theorem leads_half (N : Net) (rm : List Int) (least : Int) (lv : List Int) (m : Nat) : (leadsL N rm least lv (2 * m)).length ≤ m := by
  have h1 : ((leadsL N rm least lv (2 * m)).map (· / 2)).Nodup := by
    have hnd : (leadsL N rm least lv (2 * m)).Nodup := List.Pairwise.filter _ List.nodup_range
    have hinj : ∀ a ∈ leadsL N rm least lv (2 * m), ∀ b ∈ leadsL N rm least lv (2 * m), a / 2 = b / 2 → a = b := by
      intro a ha b hb hab
      by_cases e : a = b
      · exact e
      · have h3 := (mem_leads.1 ha).2.2.2
        have h4 := (mem_leads.1 hb).2.2.2
        have : b = flipT a := by unfold flipT; split <;> omega
        rw [this, toN_flip, frN_flip] at h4
        omega
    revert hnd hinj
    generalize leadsL N rm least lv (2 * m) = l
    intro hnd hinj
    induction l with
    | nil => exact List.nodup_nil
    | cons x l ih =>
      obtain ⟨h3, h4⟩ := List.nodup_cons.1 hnd
      rw [List.map_cons, List.nodup_cons]
      refine ⟨fun hin => ?_, ih h4 fun a ha b hb => hinj a (by simp [ha]) b (by simp [hb])⟩
      obtain ⟨y, hy, he⟩ := List.mem_map.1 hin
      exact h3 (hinj x (by simp) y (by simp [hy]) he.symm ▸ hy)
  have h2 := nodup_room _ (List.range m) h1 fun x hx => by
    obtain ⟨y, hy, rfl⟩ := List.mem_map.1 hx
    have := (mem_leads.1 hy).1
    rw [List.mem_range]; omega
  rwa [List.length_map, List.length_range] at h2
theorem remL_zero (N : Net) (ls : List Nat) (n : Nat) : remL (ldAt N ls) n (List.replicate (n + 1) 0) ≤ ls.length := by
  unfold remL
  have h0 : ∀ v ∈ List.range (n + 1), (ldAt N ls v).length - (List.replicate (n + 1) 0).getD v 0 = (ldAt N ls v).length := by
    intro v hv
    rw [List.getD_eq_getElem?_getD, List.getElem?_replicate, if_pos (List.mem_range.1 hv)]; rfl
  rw [List.map_congr_left h0]
  have : ∀ (vs : List Nat) (ls : List Nat), vs.Nodup → (vs.map fun v => (ldAt N ls v).length).sum ≤ ls.length := by
    intro vs ls hvs
    induction ls with
    | nil =>
      have : (vs.map fun v => (ldAt N [] v).length) = vs.map fun _ => 0 := List.map_congr_left fun v _ => rfl
      rw [this]
      clear this hvs
      induction vs with
      | nil => exact Nat.le_refl _
      | cons v vs ih => simpa using ih
    | cons r ls ih =>
      have h1 : ∀ v, (ldAt N (r :: ls) v).length = (ldAt N ls v).length + if frN N r = v then 1 else 0 := by
        intro v
        unfold ldAt
        rw [List.filter_cons]
        by_cases e : frN N r = v <;> simp [e]
      have h2 : ∀ vs : List Nat, vs.Nodup → (vs.map fun v => (ldAt N (r :: ls) v).length).sum ≤ (vs.map fun v => (ldAt N ls v).length).sum + 1 ∧ (frN N r ∉ vs → (vs.map fun v => (ldAt N (r :: ls) v).length).sum = (vs.map fun v => (ldAt N ls v).length).sum) := by
        intro vs hn
        induction vs with
        | nil => exact ⟨by simp, fun _ => rfl⟩
        | cons v vs ih2 =>
          obtain ⟨a1, a2⟩ := List.nodup_cons.1 hn
          obtain ⟨b1, b2⟩ := ih2 a2
          simp only [List.map_cons, List.sum_cons, h1 v]
          by_cases e : frN N r = v
          · have := b2 (e ▸ a1)
            rw [if_pos e]
            exact ⟨by omega, fun h => absurd (by rw [e]; simp) h⟩
          · rw [if_neg e]
            exact ⟨by omega, fun h => by have := b2 (fun h' => h (by simp [h'])); omega⟩
      have := (h2 vs hvs).1
      rw [List.length_cons]
      omega
  exact this _ _ List.nodup_range
section
variable {N : Net} {L : Nat → List Nat} {lv : Nat → Int} {least : Int} {tr : List Int}
theorem TR.count (hR : N.Right) (hG : Graded N L lv) (hle : 1 ≤ least) {ls : List Nat} (hL : ∀ v r, r ∈ L v ↔ r ∈ ls ∧ frN N r = v) {ws : List (List Nat × Int)} {tr' : List Int} (h : TR N L least tr ws tr') : ∀ {f : List Int}, IsFlow N f → tr = roomL (N.arcs.zip f) → ws.length ≤ cntL ls least tr ∧ (∀ r, r ∉ ls → flipT r ∉ ls → tr'.getD r 0 = tr.getD r 0) ∧ ∃ f', IsFlow N f' ∧ tr' = roomL (N.arcs.zip f') := by
  induction h with
  | stop hP hd => exact fun hf he => ⟨Nat.zero_le _, fun _ _ _ => rfl, _, hf, he⟩
  | @walk tr tr' pos0 W0 ws hP hend _ ih =>
    intro f hf he
    obtain ⟨_, hlt, hnd, _, _, _, ⟨f', hf', hf'e⟩, _, hmono, r, v, k1, k2, k3⟩ := push_keeps hR hG hle hf he hP hend
    obtain ⟨i1, i2, i3⟩ := ih hf' hf'e
    refine ⟨?_, fun q hq hfq => ?_, i3⟩
    · have := cntL_lt (ls := ls) (least := least) (rm := tr) (rm' := pushR (mostR tr W0) W0 tr) (fun q hq => hmono _ q ((hL _ q).2 ⟨hq, rfl⟩)) r ((hL v r).1 k1).1 k2 k3
      rw [List.length_cons]; omega
    · rw [i2 q hq hfq, pushR_get (a := mostR tr W0) (by rw [he]; exact rooms_len hf.len) hlt hnd q, if_neg (fun h => hfq ((hL _ _).1 (hP.mem _ h)).1), if_neg (fun h => hq ((hL _ _).1 (hP.mem _ h)).1)]
      omega
end
noncomputable def outZ (f f' : List Int) (ls : List Nat) (k i : Nat) : Int := if 2 * i + 2 ≤ k then f'.getD i 0 else if 2 * i + 1 ≤ k ∧ 2 * i ∈ ls then f'.getD i 0 else f.getD i 0
noncomputable def outL (f f' : List Int) (ls : List Nat) (m k : Nat) : List Int := (List.range m).map (outZ f f' ls k)
theorem outL_get {f f' : List Int} {ls : List Nat} {m k i : Nat} (h : i < m) : (outL f f' ls m k)[i]? = some (outZ f f' ls k i) := by simp [outL, h]
theorem outL_length (f f' : List Int) (ls : List Nat) (m k : Nat) : (outL f f' ls m k).length = m := by simp [outL]
theorem outL_set {f f' : List Int} {ls : List Nat} {m k : Nat} (hk : k < 2 * m) {x : Int} (hx : x = outZ f f' ls (k + 1) (k / 2)) : (outL f f' ls m k).set (k / 2) x = outL f f' ls m (k + 1) := by
  apply List.ext_getElem?
  intro j
  by_cases hj : j < m
  · rw [outL_get hj]
    by_cases e : k / 2 = j
    · subst e
      rw [List.getElem?_set_self (by rw [outL_length]; exact hj), hx]
    · rw [List.getElem?_set_ne e, outL_get hj]
      congr 1
      unfold outZ
      have h1 : (2 * j + 2 ≤ k) ↔ (2 * j + 2 ≤ k + 1) := by omega
      by_cases e2 : 2 * j + 2 ≤ k
      · rw [if_pos e2, if_pos (h1.1 e2)]
      · rw [if_neg e2, if_neg (fun h => e2 (h1.2 h))]
        have h3 : (2 * j + 1 ≤ k) ↔ (2 * j + 1 ≤ k + 1) := by omega
        by_cases h4 : 2 * j + 1 ≤ k ∧ 2 * j ∈ ls
        · rw [if_pos h4, if_pos ⟨h3.1 h4.1, h4.2⟩]
        · rw [if_neg h4, if_neg (fun h => h4 ⟨h3.2 h.1, h.2⟩)]
  · rw [List.getElem?_eq_none (by rw [List.length_set, outL_length]; omega), List.getElem?_eq_none (by rw [outL_length]; omega)]
theorem getD_ext {l l' : List Int} (hl : l.length = l'.length) (h : ∀ i, i < l.length → l.getD i 0 = l'.getD i 0) : l = l' := by
  apply List.ext_getElem?
  intro i
  by_cases hi : i < l.length
  · have := h i hi
    rw [List.getD_eq_getElem?_getD, List.getD_eq_getElem?_getD, List.getElem?_eq_getElem hi, List.getElem?_eq_getElem (by omega)] at this
    rw [List.getElem?_eq_getElem hi, List.getElem?_eq_getElem (by omega)]
    simpa using this
  · rw [List.getElem?_eq_none (by omega), List.getElem?_eq_none (by omega)]
theorem outL_start {f f' : List Int} {ls : List Nat} : outL f f' ls f.length 0 = f := by
  refine getD_ext (outL_length _ _ _ _ _) fun i hi => ?_
  rw [outL_length] at hi
  rw [List.getD_eq_getElem?_getD, outL_get hi, Option.getD_some]
  unfold outZ
  rw [if_neg (by omega), if_neg (by omega)]
theorem outL_end {f f' : List Int} {ls : List Nat} (h : f'.length = f.length) : outL f f' ls f.length (2 * f.length) = f' := by
  refine getD_ext (by rw [outL_length]; exact h.symm) fun i hi => ?_
  rw [outL_length] at hi
  rw [List.getD_eq_getElem?_getD, outL_get hi, Option.getD_some]
  unfold outZ
  rw [if_pos (by omega)]
theorem room_at {N : Net} {f : List Int} (hl : f.length = N.arcs.length) {i : Nat} (hi : i < N.arcs.length) : ∃ a, N.arcs[i]? = some a ∧ (roomL (N.arcs.zip f)).getD (2 * i) 0 = a.cap - f.getD i 0 ∧ (roomL (N.arcs.zip f)).getD (2 * i + 1) 0 = f.getD i 0 := by
  obtain ⟨a, ha⟩ : ∃ x, N.arcs[i]? = some x := ⟨N.arcs[i], List.getElem?_eq_getElem hi⟩
  have hx : f[i]? = some (f.getD i 0) := by rw [List.getD_eq_getElem?_getD, List.getElem?_eq_getElem (by omega)]; rfl
  obtain ⟨g1, g2⟩ := roomL_get (zip_some ha hx)
  exact ⟨a, ha, by rw [List.getD_eq_getElem?_getD, g1]; rfl, by rw [List.getD_eq_getElem?_getD, g2]; rfl⟩
theorem outZ_step {N : Net} {f f' : List Int} {ls : List Nat} {rmF : List Int} (hl : f.length = N.arcs.length) (hl' : f'.length = N.arcs.length) (hin : ∀ r ∈ ls, rmF.getD r 0 = (roomL (N.arcs.zip f')).getD r 0) (hout : ∀ r, r ∉ ls → rmF.getD r 0 = (roomL (N.arcs.zip f)).getD r 0)
    (hsame : ∀ r, r ∉ ls → flipT r ∉ ls → (roomL (N.arcs.zip f')).getD r 0 = (roomL (N.arcs.zip f)).getD r 0) (hflip : ∀ r ∈ ls, flipT r ∉ ls) {k : Nat} (hk : k < 2 * N.arcs.length) :
    (k % 2 = 0 → outZ f f' ls k (k / 2) + ((roomL (N.arcs.zip f)).getD k 0 - rmF.getD k 0) = outZ f f' ls (k + 1) (k / 2)) ∧ (k % 2 = 1 → outZ f f' ls k (k / 2) - ((roomL (N.arcs.zip f)).getD k 0 - rmF.getD k 0) = outZ f f' ls (k + 1) (k / 2)) := by
  obtain ⟨i, hi⟩ : ∃ i, k / 2 = i := ⟨_, rfl⟩
  have him : i < N.arcs.length := by omega
  obtain ⟨a, ha, g1, g2⟩ := room_at hl him
  obtain ⟨a', ha', g3, g4⟩ := room_at hl' him
  rw [ha] at ha'
  simp only [Option.some.injEq] at ha'
  subst ha'
  rw [hi]
  refine ⟨fun h0 => ?_, fun h1 => ?_⟩
  · obtain rfl : k = 2 * i := by omega
    unfold outZ
    rw [if_neg (by omega), if_neg (by omega), if_neg (by omega)]
    by_cases e : 2 * i ∈ ls
    · rw [if_pos ⟨by omega, e⟩, hin _ e, g1, g3]; omega
    · rw [if_neg (fun h => e h.2), hout _ e]; omega
  · obtain rfl : k = 2 * i + 1 := by omega
    unfold outZ
    rw [if_neg (by omega), if_pos (show 2 * i + 2 ≤ 2 * i + 1 + 1 by omega)]
    have hfl : flipT (2 * i + 1) = 2 * i := by unfold flipT; rw [if_pos (by omega)]; omega
    have hfl2 : flipT (2 * i) = 2 * i + 1 := by unfold flipT; rw [if_neg (by omega)]
    by_cases e : 2 * i ∈ ls
    · rw [if_pos ⟨by omega, e⟩, hout _ (by rw [← hfl2]; exact hflip _ e)]; omega
    · rw [if_neg (fun h => e h.2)]
      by_cases e2 : 2 * i + 1 ∈ ls
      · rw [hin _ e2, g2, g4]; omega
      · have := hsame _ e2 (by rw [hfl]; exact e)
        rw [hout _ e2]
        rw [g2, g4] at this
        omega
theorem outZ_in {N : Net} (hR : N.Right) {f f' : List Int} (hf : Ranged N f) (hf' : Ranged N f') {ls : List Nat} {k i : Nat} (hi : i < N.arcs.length) : 0 ≤ outZ f f' ls k i ∧ outZ f f' ls k i ≤ 4611686018427387903 := by
  obtain ⟨_, _, _, g2⟩ := room_at hf.len hi
  obtain ⟨_, _, _, g4⟩ := room_at hf'.len hi
  have h1 := rooms_bound hR hf (2 * i + 1)
  have h2 := rooms_bound hR hf' (2 * i + 1)
  rw [g2] at h1
  rw [g4] at h2
  unfold outZ
  split
  · exact h2
  · split
    · exact h2
    · exact h1
def costB (n m : Nat) : Nat := (costU n + 3) * m + costL n * (n + 1) + (accN (n + 1) + 5 * (n + 1) + 1) + (2 * accN (n + 1) + 11 * (n + 1) + 1) * (n + 1) + (n + 1)
end Go.Proofs.YtfogkbmbmaganaaGreat
