
/- What a walk of tracks carries, in plain terms: rooms, flows, and walks until none is left. -/
import Derived.Test.YtcgcimnjknadjaaPlainP
set_option linter.unusedVariables false
set_option linter.unusedSimpArgs false
namespace Go.Proofs.Ytcgcimnjknadjaa
open Go.RowKit
def push1 (a : Int) (r : Nat) (rm : List Int) : List Int := (rm.set r (rm.getD r 0 - a)).set (flipT r) (rm.getD (flipT r) 0 + a)
def pushR (a : Int) : List Nat → List Int → List Int
  | [], rm => rm
  | r :: W, rm => pushR a W (push1 a r rm)
theorem push1_length (a : Int) (r : Nat) (rm : List Int) : (push1 a r rm).length = rm.length := by simp [push1]
theorem pushR_length (a : Int) : ∀ (W : List Nat) (rm : List Int), (pushR a W rm).length = rm.length
  | [], _ => rfl
  | r :: W, rm => by rw [pushR, pushR_length a W, push1_length]
theorem pushR_app (a : Int) (r : Nat) : ∀ (W : List Nat) (rm : List Int), pushR a (W ++ [r]) rm = push1 a r (pushR a W rm)
  | [], _ => rfl
  | q :: W, rm => by simp only [List.cons_append, pushR]; exact pushR_app a r W _
theorem getD_set {l : List Int} {i j : Nat} {x d : Int} (hi : i < l.length) : (l.set i x).getD j d = if i = j then x else l.getD j d := by
  simp only [List.getD_eq_getElem?_getD]
  by_cases e : i = j
  · subst e; rw [if_pos rfl, List.getElem?_set_self hi]; rfl
  · rw [if_neg e, List.getElem?_set_ne e]
theorem push1_get {a : Int} {r m : Nat} {rm : List Int} (hl : rm.length = 2 * m) (hr : r < 2 * m) (q : Nat) :
    (push1 a r rm).getD q 0 = rm.getD q 0 + (if flipT q = r then a else 0) - (if q = r then a else 0) := by
  have hf := flipT_lt hr
  unfold push1
  rw [getD_set (by rw [List.length_set]; omega), getD_set (by omega)]
  have hne := flipT_ne r
  by_cases e1 : flipT r = q
  · subst e1
    rw [if_pos rfl, flipT_flip, if_pos rfl, if_neg hne]; omega
  · have e2 : flipT q ≠ r := fun h => e1 (by rw [← h, flipT_flip])
    rw [if_neg e1, if_neg e2]
    by_cases e3 : r = q
    · subst e3; rw [if_pos rfl, if_pos rfl]; omega
    · rw [if_neg e3, if_neg (fun h => e3 h.symm)]; omega
open Classical in
theorem pushR_get {a : Int} {m : Nat} : ∀ {W : List Nat} {rm : List Int}, rm.length = 2 * m → (∀ r ∈ W, r < 2 * m) → W.Nodup → (∀ q : Nat, (pushR a W rm).getD q 0 = rm.getD q 0 + (if flipT q ∈ W then a else 0) - (if q ∈ W then a else 0))
  | [], rm, _, _, _, q => by simp [pushR]
  | r :: W, rm, hl, hW, hn, q => by
    have h1 := List.nodup_cons.1 hn
    rw [pushR, pushR_get (by rw [push1_length]; exact hl) (fun x hx => hW x (by simp [hx])) h1.2 q, push1_get hl (hW r (by simp))]
    have e1 : (if flipT q ∈ r :: W then a else 0) = (if flipT q = r then a else 0) + (if flipT q ∈ W then a else 0) := by
      by_cases e : flipT q = r
      · rw [if_pos e, if_pos (by simp [e]), if_neg (by rw [e]; exact h1.1)]; omega
      · rw [if_neg e]
        by_cases e2 : flipT q ∈ W
        · rw [if_pos e2, if_pos (by simp [e2])]; omega
        · rw [if_neg e2, if_neg (by simp [e, e2])]; omega
    have e2 : (if q ∈ r :: W then a else 0) = (if q = r then a else 0) + (if q ∈ W then a else 0) := by
      by_cases e : q = r
      · rw [if_pos e, if_pos (by simp [e]), if_neg (by rw [e]; exact h1.1)]; omega
      · rw [if_neg e]
        by_cases e2 : q ∈ W
        · rw [if_pos e2, if_pos (by simp [e2])]; omega
        · rw [if_neg e2, if_neg (by simp [e, e2])]; omega
    rw [e1, e2]; omega
/-- The least room of a walk. -/
def mostR (rm : List Int) (W : List Nat) : Int := W.foldl (fun m q => if rm.getD q 0 < m then rm.getD q 0 else m) (rm.getD (W.headD 0) 0)
theorem fold_min (rm : List Int) : ∀ (W : List Nat) (x : Int), (W.foldl (fun m q => if rm.getD q 0 < m then rm.getD q 0 else m) x ≤ x) ∧ (∀ r ∈ W, W.foldl (fun m q => if rm.getD q 0 < m then rm.getD q 0 else m) x ≤ rm.getD r 0) ∧
    (W.foldl (fun m q => if rm.getD q 0 < m then rm.getD q 0 else m) x = x ∨ ∃ r ∈ W, W.foldl (fun m q => if rm.getD q 0 < m then rm.getD q 0 else m) x = rm.getD r 0)
  | [], x => ⟨Int.le_refl _, fun _ h => (by cases h), .inl rfl⟩
  | r :: W, x => by
    obtain ⟨h1, h2, h3⟩ := fold_min rm W (if rm.getD r 0 < x then rm.getD r 0 else x)
    simp only [List.foldl_cons]
    refine ⟨Int.le_trans h1 (by split <;> omega), fun q hq => ?_, ?_⟩
    · rcases List.mem_cons.1 hq with rfl | hq
      · exact Int.le_trans h1 (by split <;> omega)
      · exact h2 q hq
    · rcases h3 with h3 | ⟨q, hq, h3⟩
      · split at h3
        · exact .inr ⟨r, by simp, by rename_i hlt; rw [if_pos hlt]; exact h3⟩
        · rename_i hlt; exact .inl (by rw [if_neg hlt]; exact h3)
      · exact .inr ⟨q, by simp [hq], h3⟩
theorem mostR_le {rm : List Int} {W : List Nat} : ∀ r ∈ W, mostR rm W ≤ rm.getD r 0 := (fold_min rm W _).2.1
theorem mostR_at {rm : List Int} {W : List Nat} (h : W ≠ []) : ∃ r ∈ W, mostR rm W = rm.getD r 0 := by
  rcases (fold_min rm W (rm.getD (W.headD 0) 0)).2.2 with h1 | h1
  · cases W with
    | nil => exact absurd rfl h
    | cons r W => exact ⟨r, by simp, h1⟩
  · exact h1
/-- How many tracks of a walk have room still. -/
def cutR (least : Int) (rm : List Int) (W : List Nat) : Nat := W.findIdx fun r => decide (rm.getD r 0 < least)
/-- Walks until there is none. -/
inductive Bl (N : Net) (L : Nat → List Nat) (least : Int) : List Int → List Nat → List Nat → List (List Nat × Int) → List Int → Prop
  | stop {rm : List Int} {pos W pos' W' : List Nat} : Nx N L least rm pos W false pos' W' → Bl N L least rm pos W [] rm
  | walk {rm rm' : List Int} {pos W pos' W' : List Nat} {ws : List (List Nat × Int)} : Nx N L least rm pos W true pos' W' →
      Bl N L least (pushR (mostR rm W') W' rm) pos' (W'.take (cutR least (pushR (mostR rm W') W' rm) W')) ws rm' → Bl N L least rm pos W ((W', mostR rm W') :: ws) rm'
/-! ### Flows and rooms -/
theorem zip_some {l : List Arc} {f : List Int} {i : Nat} {a : Arc} {x : Int} (h : l[i]? = some a) (k : f[i]? = some x) : (l.zip f)[i]? = some (a, x) := List.getElem?_zip_eq_some.2 ⟨h, k⟩
theorem roomL_get : ∀ {ps : List (Arc × Int)} {i : Nat} {p : Arc × Int}, ps[i]? = some p → (roomL ps)[2 * i]? = some (p.1.cap - p.2) ∧ (roomL ps)[2 * i + 1]? = some p.2
  | [], _, _, h => by simp at h
  | q :: ps, 0, p, h => by
    simp only [List.getElem?_cons_zero, Option.some.injEq] at h
    subst h
    exact ⟨rfl, rfl⟩
  | q :: ps, i + 1, p, h => by
    have ih := roomL_get (ps := ps) (i := i) (by simpa using h)
    have e : roomL (q :: ps) = [q.1.cap - q.2, q.2] ++ roomL ps := by simp [roomL]
    rw [e, List.getElem?_append_right (by simp; omega), List.getElem?_append_right (by simp; omega)]
    exact ⟨by rw [show 2 * (i + 1) - [q.1.cap - q.2, q.2].length = 2 * i by simp; omega]; exact ih.1, by rw [show 2 * (i + 1) + 1 - [q.1.cap - q.2, q.2].length = 2 * i + 1 by simp; omega]; exact ih.2⟩
def pushF1 (a : Int) (r : Nat) (f : List Int) : List Int := f.set (r / 2) (f.getD (r / 2) 0 + if r % 2 = 1 then -a else a)
def pushF (a : Int) : List Nat → List Int → List Int
  | [], f => f
  | r :: W, f => pushF a W (pushF1 a r f)
theorem pushF1_length (a : Int) (r : Nat) (f : List Int) : (pushF1 a r f).length = f.length := by simp [pushF1]
theorem push1_room {N : Net} {a : Int} {r : Nat} {f : List Int} (hl : f.length = N.arcs.length) (hr : r < 2 * N.arcs.length) : push1 a r (roomL (N.arcs.zip f)) = roomL (N.arcs.zip (pushF1 a r f)) := by
  have hzl : (N.arcs.zip f).length = N.arcs.length := by simp; omega
  have hzl2 : (N.arcs.zip (pushF1 a r f)).length = N.arcs.length := by simp [pushF1_length]; omega
  have hrl := roomL_length (N.arcs.zip f)
  have hrl2 := roomL_length (N.arcs.zip (pushF1 a r f))
  rw [hzl] at hrl
  rw [hzl2] at hrl2
  have hext : ∀ q : Nat, q < 2 * N.arcs.length → (push1 a r (roomL (N.arcs.zip f))).getD q 0 = (roomL (N.arcs.zip (pushF1 a r f))).getD q 0 := by
    intro q hq
    rw [push1_get hrl hr]
    have hqi : q / 2 < N.arcs.length := by omega
    obtain ⟨ar, har⟩ : ∃ x, N.arcs[q / 2]? = some x := ⟨N.arcs[q / 2], List.getElem?_eq_getElem hqi⟩
    have hx : f[q / 2]? = some (f.getD (q / 2) 0) := by rw [List.getD_eq_getElem?_getD, List.getElem?_eq_getElem (by omega)]; rfl
    have hy : (pushF1 a r f)[q / 2]? = some ((pushF1 a r f).getD (q / 2) 0) := by rw [List.getD_eq_getElem?_getD, List.getElem?_eq_getElem (by rw [pushF1_length]; omega)]; rfl
    obtain ⟨g1, g2⟩ := roomL_get (zip_some har hx)
    obtain ⟨g3, g4⟩ := roomL_get (zip_some har hy)
    have hv : (pushF1 a r f).getD (q / 2) 0 = f.getD (q / 2) 0 + if r / 2 = q / 2 then (if r % 2 = 1 then -a else a) else 0 := by
      unfold pushF1
      rw [getD_set (by omega)]
      by_cases e : r / 2 = q / 2
      · rw [if_pos e, if_pos e, e]
      · rw [if_neg e, if_neg e]; omega
    simp only at g1 g2 g3 g4
    rcases Nat.mod_two_eq_zero_or_one q with hm | hm
    · have e : 2 * (q / 2) = q := by omega
      rw [e] at g1 g3
      simp only [List.getD_eq_getElem?_getD] at hv ⊢
      rw [g1, g3]
      simp only [Option.getD_some, List.getD_eq_getElem?_getD] at hv ⊢
      rw [hv]
      unfold flipT
      rw [if_neg (by omega : ¬ q % 2 = 1)]
      split <;> split <;> split <;> (try split) <;> omega
    · have e : 2 * (q / 2) + 1 = q := by omega
      rw [e] at g2 g4
      simp only [List.getD_eq_getElem?_getD] at hv ⊢
      rw [g2, g4]
      simp only [Option.getD_some, List.getD_eq_getElem?_getD] at hv ⊢
      rw [hv]
      unfold flipT
      rw [if_pos hm]
      split <;> split <;> split <;> (try split) <;> omega
  refine List.ext_getElem (by rw [push1_length, hrl, hrl2]) fun q h1 h2 => ?_
  have := hext q (by omega)
  simp only [List.getD_eq_getElem?_getD] at this
  rw [List.getElem?_eq_getElem h1, List.getElem?_eq_getElem h2] at this
  exact this
theorem pushF1_ex {N : Net} {a v : Int} {r : Nat} {f : List Int} (hl : f.length = N.arcs.length) (hr : r < 2 * N.arcs.length) :
    exZ (N.arcs.zip (pushF1 a r f)) v = exZ (N.arcs.zip f) v + ((if (endsZ N r).2 = v then a else 0) - (if (endsZ N r).1 = v then a else 0)) := by
  obtain ⟨ar, har⟩ : ∃ x, N.arcs[r / 2]? = some x := ⟨N.arcs[r / 2]'(by omega), List.getElem?_eq_getElem (by omega)⟩
  have hx : f[r / 2]? = some (f.getD (r / 2) 0) := by rw [List.getD_eq_getElem?_getD, List.getElem?_eq_getElem (by omega)]; rfl
  have he : endsZ N r = endsOf ar r := by unfold endsZ; rw [har]
  unfold pushF1
  rw [exZ_set N.arcs f (r / 2) ar _ _ v har hx, he]
  unfold endsOf
  by_cases hm : r % 2 = 1
  · rw [if_pos hm, if_pos hm]
    simp only
    split <;> split <;> omega
  · rw [if_neg hm, if_neg hm]
theorem pushF_all {N : Net} (hR : N.Right) {a : Int} : ∀ {W : List Nat} {f : List Int} {x z : Nat}, f.length = N.arcs.length → (∀ r ∈ W, r < 2 * N.arcs.length) → Tr N x W z →
    (pushF a W f).length = N.arcs.length ∧ pushR a W (roomL (N.arcs.zip f)) = roomL (N.arcs.zip (pushF a W f)) ∧ ∀ v : Int, exZ (N.arcs.zip (pushF a W f)) v = exZ (N.arcs.zip f) v + ((if (z : Int) = v then a else 0) - (if (x : Int) = v then a else 0))
  | [], f, x, z, hl, _, h => ⟨hl, rfl, fun v => by rw [show x = z from h]; simp only [pushF]; omega⟩
  | r :: W, f, x, z, hl, hW, ⟨h1, h2⟩ => by
    have hr := hW r (by simp)
    obtain ⟨k1, k2, k3⟩ := pushF_all hR (a := a) (f := pushF1 a r f) (by rw [pushF1_length]; exact hl) (fun q hq => hW q (by simp [hq])) h2
    refine ⟨k1, by rw [pushR, push1_room hl hr, k2]; rfl, fun v => ?_⟩
    rw [pushF, k3, pushF1_ex hl hr, (toN_eq hR hr).1, (frN_eq hR hr).1, h1]
    omega
theorem rooms_ranged {N : Net} {f : List Int} (hl : f.length = N.arcs.length) : Ranged N f ↔ ∀ q, q < 2 * N.arcs.length → 0 ≤ (roomL (N.arcs.zip f)).getD q 0 := by
  constructor
  · intro h q hq
    obtain ⟨ar, har⟩ : ∃ x, N.arcs[q / 2]? = some x := ⟨N.arcs[q / 2]'(by omega), List.getElem?_eq_getElem (by omega)⟩
    have hx : f[q / 2]? = some (f.getD (q / 2) 0) := by rw [List.getD_eq_getElem?_getD, List.getElem?_eq_getElem (by omega)]; rfl
    have hz := zip_some har hx
    obtain ⟨g1, g2⟩ := roomL_get hz
    have := h.all _ (List.mem_of_getElem? hz)
    simp only at g1 g2 this
    rcases Nat.mod_two_eq_zero_or_one q with hm | hm
    · rw [show 2 * (q / 2) = q by omega] at g1
      rw [List.getD_eq_getElem?_getD, g1, Option.getD_some]; omega
    · rw [show 2 * (q / 2) + 1 = q by omega] at g2
      rw [List.getD_eq_getElem?_getD, g2, Option.getD_some]; omega
  · intro h
    refine ⟨hl, fun p hp => ?_⟩
    obtain ⟨j, hj, hjp⟩ := List.mem_iff_getElem.1 hp
    have hz : (N.arcs.zip f)[j]? = some p := by rw [List.getElem?_eq_getElem hj, hjp]
    have hjl : j < N.arcs.length := by have := hj; simp at this; omega
    obtain ⟨g1, g2⟩ := roomL_get hz
    have h1 := h (2 * j) (by omega)
    have h2 := h (2 * j + 1) (by omega)
    rw [List.getD_eq_getElem?_getD, g1, Option.getD_some] at h1
    rw [List.getD_eq_getElem?_getD, g2, Option.getD_some] at h2
    omega
/-- An amount that is led along a walk to the sink. -/
theorem push_flow {N : Net} (hR : N.Right) {f : List Int} (hf : IsFlow N f) {W : List Nat} (hW : ∀ r ∈ W, r < 2 * N.arcs.length) (hn : W.Nodup) (ht : Tr N N.src.toNat W N.snk.toNat) {a : Int} (ha : 0 ≤ a) (hm : ∀ r ∈ W, a ≤ (roomL (N.arcs.zip f)).getD r 0) :
    IsFlow N (pushF a W f) ∧ pushR a W (roomL (N.arcs.zip f)) = roomL (N.arcs.zip (pushF a W f)) ∧ exZ (N.arcs.zip (pushF a W f)) N.snk = exZ (N.arcs.zip f) N.snk + a := by
  obtain ⟨h1, h2, h3⟩ := pushF_all hR (a := a) hf.len hW ht
  have hsr := hR.src
  have hsk := hR.snk
  have hd := hR.diff
  have e1 : ((N.src.toNat : Nat) : Int) = N.src := by omega
  have e2 : ((N.snk.toNat : Nat) : Int) = N.snk := by omega
  rw [e1, e2] at h3
  have hzl : (N.arcs.zip f).length = N.arcs.length := by have := hf.len; simp; omega
  refine ⟨⟨(rooms_ranged h1).2 fun q hq => ?_, fun v hv hvs hvt => ?_⟩, h2, ?_⟩
  · rw [← h2, pushR_get (by rw [roomL_length, hzl]) hW hn]
    have h0 := (rooms_ranged hf.len).1 hf.toRanged q hq
    by_cases e : q ∈ W
    · have := hm q e
      rw [if_pos e]
      split <;> omega
    · rw [if_neg e]
      split <;> omega
  · rw [h3, hf.kept v hv hvs hvt, if_neg (fun e => hvt e.symm), if_neg (fun e => hvs e.symm)]; rfl
  · rw [h3, if_pos rfl, if_neg hd]; omega
/-- What walks keep: a flow, of a value that rises by at least what is asked for, walk by walk; at last no walk is left. -/
theorem Bl.keeps {N : Net} (hR : N.Right) {L : Nat → List Nat} {lv : Nat → Int} {least : Int} (hG : Graded N L lv) (hle : 1 ≤ least) {rm rm' : List Int} {pos W : List Nat} {ws : List (List Nat × Int)} (h : Bl N L least rm pos W ws rm') :
    ∀ f, IsFlow N f → rm = roomL (N.arcs.zip f) → PI N L least rm pos W →
      ∃ f', IsFlow N f' ∧ rm' = roomL (N.arcs.zip f') ∧ exZ (N.arcs.zip f) N.snk + least * ws.length ≤ exZ (N.arcs.zip f') N.snk ∧ (∀ u, LP N L least rm' u → u ≠ N.snk.toNat) ∧ (∀ v r, r ∈ L v → rm'.getD r 0 ≤ rm.getD r 0) ∧
        (∀ q, q < 2 * N.arcs.length → rm.getD q 0 < rm'.getD q 0 → flipT q ∈ L (frN N (flipT q))) := by
  induction h with
  | @stop rm pos W pos' W' hn =>
    intro f hf he hI
    obtain ⟨h1, _, h3⟩ := hn.keeps hG hI
    obtain ⟨rfl, hd⟩ := h3 rfl
    have hsr := hR.src
    have hsk := hR.snk
    have hdf := hR.diff
    exact ⟨f, hf, he, by simp, fun u hu => (blocked hR hG h1 hd (by omega) hu).1, fun _ _ _ => Int.le_refl _, fun q _ h => by omega⟩
  | @walk rm rm' pos W pos' W' ws hn _ ih =>
    intro f hf he hI
    obtain ⟨h1, h2, _⟩ := hn.keeps hG hI
    have hend := h2 rfl
    have hon := h1.on
    rw [hend] at hon
    have hnd := Tr_nodup hG hon h1.mem
    have hlt : ∀ r ∈ W', r < 2 * N.arcs.length := fun r hr => (hG.ok _ _ (h1.mem r hr)).1
    have hroom : ∀ r ∈ W', least ≤ rm.getD r 0 := fun r hr => by obtain ⟨_, _, _, h⟩ := h1.head r hr; exact h
    have hWne : W' ≠ [] := by
      intro h0
      have hsr := hR.src
      have hsk := hR.snk
      have hdf := hR.diff
      rw [h0] at hend
      simp only [endN, List.getLast?_nil] at hend
      omega
    obtain ⟨r0, hr0, hmo⟩ := mostR_at (rm := rm) hWne
    have hma := hroom r0 hr0
    rw [← hmo] at hma
    obtain ⟨a, haeq⟩ : ∃ a, a = mostR rm W' := ⟨_, rfl⟩
    rw [← haeq] at hma ih ⊢
    have hmle : ∀ r ∈ W', a ≤ rm.getD r 0 := fun r hr => haeq ▸ mostR_le r hr
    obtain ⟨k1, k2, k3⟩ := push_flow hR hf hlt hnd.1 hon (by omega : 0 ≤ a) (he ▸ hmle)
    rw [← he] at k2
    have hzl : rm.length = 2 * N.arcs.length := by rw [he, roomL_length]; have := hf.len; simp; omega
    have hget := pushR_get (a := a) hzl hlt hnd.1
    have hmono : ∀ v r, r ∈ L v → (pushR a W' rm).getD r 0 ≤ rm.getD r 0 := by
      intro v r hr
      rw [hget]
      have : flipT r ∉ W' := by
        intro hin
        have g1 := (hG.ok _ _ hr)
        have g2 := (hG.ok _ _ (h1.mem _ hin)).2.2
        have g3 := g1.2.2
        rw [toN_flip, frN_flip] at g2
        rw [← g1.2.1] at g3
        omega
      rw [if_neg this]
      split <;> omega
    have hI' : PI N L least (pushR a W' rm) pos' (W'.take (cutR least (pushR a W' rm) W')) := by
      refine ⟨h1.pl, Tr_take _ hon, fun r hr => ?_, fun v p hp j r hj hjr => ?_⟩
      · obtain ⟨p, g1, g2, _⟩ := h1.head r (List.mem_of_mem_take hr)
        refine ⟨p, g1, g2, ?_⟩
        obtain ⟨i, hi, hir⟩ := List.mem_iff_getElem.1 hr
        have hi' : i < cutR least (pushR a W' rm) W' := by rw [List.length_take] at hi; omega
        rw [List.getElem_take] at hir
        have := List.not_of_lt_findIdx hi'
        rw [hir] at this
        simpa using this
      · rcases h1.pass v p hp j r hj hjr with k | k
        · exact .inl (by have := hmono v r (List.mem_of_getElem? hjr); omega)
        · exact .inr k
    obtain ⟨f', g1, g2, g3, g4, g5, g6⟩ := ih (pushF a W' f) k1 k2 hI'
    refine ⟨f', g1, g2, ?_, g4, fun v r hr => Int.le_trans (g5 v r hr) (hmono v r hr), fun q hq hqlt => ?_⟩
    · rw [k3] at g3
      rw [List.length_cons]
      have : least * ((ws.length + 1 : Nat) : Int) = least * ws.length + least := by grind
      omega
    · by_cases hc : rm.getD q 0 < (pushR a W' rm).getD q 0
      · rw [hget] at hc
        by_cases hin : flipT q ∈ W'
        · exact h1.mem _ hin
        · rw [if_neg hin] at hc
          split at hc <;> omega
      · exact g6 q hq (by omega)
end Go.Proofs.Ytcgcimnjknadjaa
