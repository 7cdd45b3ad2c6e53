
/- Walks that block, in plain terms: the state of a search over lists of tracks, and what it keeps. -/
import Derived.Test.YtcgcimnjknadjaaWeak
set_option linter.unusedVariables false
set_option linter.unusedSimpArgs false
namespace Go.Proofs.Ytcgcimnjknadjaa
open Go.RowKit
def frN (N : Net) (r : Nat) : Nat := (endsZ N r).1.toNat
def toN (N : Net) (r : Nat) : Nat := (endsZ N r).2.toNat
theorem frN_eq {N : Net} (hR : N.Right) {r : Nat} (hr : r < 2 * N.arcs.length) : (endsZ N r).1 = (frN N r : Int) ∧ 1 ≤ frN N r ∧ (frN N r : Int) ≤ N.nodes := by
  have := endsZ_in hR hr
  unfold frN; omega
theorem toN_eq {N : Net} (hR : N.Right) {r : Nat} (hr : r < 2 * N.arcs.length) : (endsZ N r).2 = (toN N r : Int) ∧ 1 ≤ toN N r ∧ (toN N r : Int) ≤ N.nodes := by
  have := endsZ_in hR hr
  unfold toN; omega
/-- The same arc, the other way. -/
def flipT (r : Nat) : Nat := if r % 2 = 1 then r - 1 else r + 1
theorem flipT_flip (r : Nat) : flipT (flipT r) = r := by unfold flipT; split <;> split <;> omega
theorem flipT_ne (r : Nat) : flipT r ≠ r := by unfold flipT; split <;> omega
theorem flipT_lt {r m : Nat} (h : r < 2 * m) : flipT r < 2 * m := by unfold flipT; split <;> omega
theorem flipT_half (r : Nat) : flipT r / 2 = r / 2 := by unfold flipT; split <;> omega
theorem frN_flip (N : Net) (r : Nat) : frN N (flipT r) = toN N r := by
  unfold frN toN endsZ; rw [flipT_half]
  cases N.arcs[r / 2]? with
  | none => rfl
  | some a =>
    show (endsOf a (flipT r)).1.toNat = (endsOf a r).2.toNat
    unfold endsOf flipT
    split <;> split <;> first | rfl | omega
theorem toN_flip (N : Net) (r : Nat) : toN N (flipT r) = frN N r := by
  have := frN_flip N (flipT r)
  rw [flipT_flip] at this; exact this.symm
/-- A walk of tracks. -/
def Tr (N : Net) : Nat → List Nat → Nat → Prop
  | a, [], z => a = z
  | a, r :: W, z => frN N r = a ∧ Tr N (toN N r) W z
theorem Tr_app {N : Net} {r : Nat} : ∀ {W : List Nat} {a : Nat}, Tr N a W (frN N r) → Tr N a (W ++ [r]) (toN N r)
  | [], _, h => ⟨h.symm, rfl⟩
  | _ :: _, _, ⟨h1, h2⟩ => ⟨h1, Tr_app h2⟩
theorem Tr_snoc {N : Net} {r z : Nat} : ∀ {W : List Nat} {a : Nat}, Tr N a (W ++ [r]) z → Tr N a W (frN N r) ∧ z = toN N r
  | [], _, ⟨h1, h2⟩ => ⟨h1.symm, h2.symm⟩
  | _ :: _, _, ⟨h1, h2⟩ => ⟨⟨h1, (Tr_snoc h2).1⟩, (Tr_snoc h2).2⟩
theorem Tr_take {N : Net} : ∀ {W : List Nat} {a z : Nat} (k : Nat), Tr N a W z → ∃ y, Tr N a (W.take k) y
  | [], a, _, k, _ => ⟨a, by rw [List.take_nil]; exact rfl⟩
  | r :: W, a, z, 0, _ => ⟨a, rfl⟩
  | r :: W, a, z, k + 1, ⟨h1, h2⟩ => by obtain ⟨y, hy⟩ := Tr_take k h2; exact ⟨y, h1, hy⟩
/-- The node at which a walk ends. -/
def endN (N : Net) (W : List Nat) : Nat := match W.getLast? with
  | none => N.src.toNat
  | some r => toN N r
theorem endN_app (N : Net) (W : List Nat) (r : Nat) : endN N (W ++ [r]) = toN N r := by unfold endN; rw [List.getLast?_append]; rfl
theorem Tr_uniq {N : Net} : ∀ {W : List Nat} {a y z : Nat}, Tr N a W y → Tr N a W z → y = z
  | [], _, _, _, h, k => h.symm.trans k
  | _ :: _, _, _, _, ⟨_, h⟩, ⟨_, k⟩ => Tr_uniq h k
theorem Tr_end {N : Net} {W : List Nat} {z : Nat} (h : Tr N N.src.toNat W z) : z = endN N W := by
  rcases List.eq_nil_or_concat W with rfl | ⟨W0, r, rfl⟩
  · exact h.symm
  · rw [List.concat_eq_append] at h ⊢
    rw [(Tr_snoc h).2, endN_app]
/-- Lists of tracks that lead one level on. -/
structure Graded (N : Net) (L : Nat → List Nat) (lv : Nat → Int) : Prop where
  ok : ∀ v r, r ∈ L v → r < 2 * N.arcs.length ∧ frN N r = v ∧ lv (toN N r) = lv v + 1
  hi : ∀ v, -1 ≤ lv v ∧ lv v < N.nodes
theorem Tr_lv {N : Net} {L : Nat → List Nat} {lv : Nat → Int} (hG : Graded N L lv) : ∀ {W : List Nat} {a z : Nat}, Tr N a W z → (∀ r ∈ W, r ∈ L (frN N r)) → lv z = lv a + W.length ∧ ∀ r ∈ W, lv a ≤ lv (frN N r) ∧ lv (frN N r) < lv z
  | [], a, z, h, _ => by rw [show a = z from h]; simp
  | r :: W, a, z, ⟨h1, h2⟩, hW => by
    have h3 := (hG.ok _ _ (hW r (by simp))).2.2
    obtain ⟨h4, h5⟩ := Tr_lv hG h2 fun q hq => hW q (by simp [hq])
    rw [h1] at h3
    refine ⟨by rw [h4, h3, List.length_cons]; omega, fun q hq => ?_⟩
    rcases List.mem_cons.1 hq with rfl | hq
    · rw [h1]; omega
    · have := h5 q hq; omega
theorem Tr_nodup {N : Net} {L : Nat → List Nat} {lv : Nat → Int} (hG : Graded N L lv) : ∀ {W : List Nat} {a z : Nat}, Tr N a W z → (∀ r ∈ W, r ∈ L (frN N r)) → W.Nodup ∧ ∀ r ∈ W, ∀ q ∈ W, flipT r ≠ q
  | [], a, z, h, _ => ⟨List.nodup_nil, fun _ h => by cases h⟩
  | r :: W, a, z, ⟨h1, h2⟩, hW => by
    obtain ⟨h3, h4⟩ := Tr_nodup hG h2 fun q hq => hW q (by simp [hq])
    have hr := (hG.ok _ _ (hW r (by simp))).2.2
    have h5 := (Tr_lv hG h2 fun q hq => hW q (by simp [hq])).2
    have hf : ∀ s ∈ r :: W, ∀ q ∈ r :: W, flipT s = q → False := by
      intro s hs q hq e
      have h6 := (hG.ok _ _ (hW s hs)).2.2
      have h7 := (hG.ok _ _ (hW q hq)).2.2
      rw [← e, toN_flip, frN_flip] at h7
      omega
    refine ⟨List.nodup_cons.2 ⟨fun hin => ?_, h3⟩, fun s hs q hq e => hf s hs q hq e⟩
    have := (h5 r hin).1
    omega
/-- All tracks of a node's list are passed. -/
def Dead (L : Nat → List Nat) (pos : List Nat) (u : Nat) : Prop := ∀ p, pos[u]? = some p → (L u).length ≤ p
/-- What the search keeps. -/
structure PI (N : Net) (L : Nat → List Nat) (least : Int) (rm : List Int) (pos W : List Nat) : Prop where
  pl : pos.length = N.nodes.toNat + 1
  tr : ∃ z, Tr N N.src.toNat W z
  head : ∀ r ∈ W, ∃ p, pos[frN N r]? = some p ∧ (L (frN N r))[p]? = some r ∧ least ≤ rm.getD r 0
  pass : ∀ v p, pos[v]? = some p → ∀ j r, j < p → (L v)[j]? = some r → rm.getD r 0 < least ∨ (toN N r ≠ N.snk.toNat ∧ Dead L pos (toN N r))
theorem set_more {pos : List Nat} {v p u q : Nat} (h : pos[v]? = some p) (hq : (pos.set v (p + 1))[u]? = some q) : ∃ q0, pos[u]? = some q0 ∧ q0 ≤ q ∧ (u ≠ v → q0 = q) := by
  by_cases e : v = u
  · subst e
    rw [List.getElem?_set_self (List.getElem?_eq_some_iff.1 h).1] at hq
    simp only [Option.some.injEq] at hq
    exact ⟨p, h, by omega, fun h => absurd rfl h⟩
  · rw [List.getElem?_set_ne e] at hq
    exact ⟨q, hq, Nat.le_refl _, fun _ => rfl⟩
theorem Dead.more {L : Nat → List Nat} {pos : List Nat} {v p u : Nat} (h : Dead L pos u) (hp : pos[v]? = some p) : Dead L (pos.set v (p + 1)) u := by
  intro q hq
  obtain ⟨q0, h1, h2, _⟩ := set_more hp hq
  exact Nat.le_trans (h q0 h1) h2
section
variable {N : Net} {L : Nat → List Nat} {lv : Nat → Int} {least : Int} {rm : List Int} {pos W : List Nat}
theorem PI.on (h : PI N L least rm pos W) : Tr N N.src.toNat W (endN N W) := by
  obtain ⟨z, hz⟩ := h.tr
  rw [← Tr_end hz]; exact hz
theorem PI.mem (h : PI N L least rm pos W) : ∀ r ∈ W, r ∈ L (frN N r) := fun r hr => by
  obtain ⟨p, _, h2, _⟩ := h.head r hr
  exact List.mem_of_getElem? h2
theorem PI.go (h : PI N L least rm pos W) (hG : Graded N L lv) {p r : Nat} (hp : pos[endN N W]? = some p) (hr : (L (endN N W))[p]? = some r) (hl : least ≤ rm.getD r 0) : PI N L least rm pos (W ++ [r]) := by
  have hf := (hG.ok _ _ (List.mem_of_getElem? hr)).2.1
  refine ⟨h.pl, ⟨_, Tr_app (hf.symm ▸ h.on)⟩, fun q hq => ?_, h.pass⟩
  rcases List.mem_append.1 hq with hq | hq
  · exact h.head q hq
  · rw [List.mem_singleton.1 hq, hf]; exact ⟨p, hp, hr, hl⟩
theorem PI.bump (h : PI N L least rm pos W) {v p r : Nat} (hv : ∀ q ∈ W, frN N q ≠ v) (hp : pos[v]? = some p) (hr : (L v)[p]? = some r) (hl : rm.getD r 0 < least ∨ (toN N r ≠ N.snk.toNat ∧ Dead L pos (toN N r))) : PI N L least rm (pos.set v (p + 1)) W := by
  refine ⟨by rw [List.length_set]; exact h.pl, h.tr, fun q hq => ?_, fun u q hq j s hj hs => ?_⟩
  · obtain ⟨k, h1, h2, h3⟩ := h.head q hq
    exact ⟨k, by rw [List.getElem?_set_ne (hv q hq).symm]; exact h1, h2, h3⟩
  · obtain ⟨q0, h1, h2, h3⟩ := set_more hp hq
    have key : rm.getD s 0 < least ∨ (toN N s ≠ N.snk.toNat ∧ Dead L pos (toN N s)) := by
      by_cases e : u = v
      · subst e
        rw [hp] at h1
        simp only [Option.some.injEq] at h1
        rw [List.getElem?_set_self (List.getElem?_eq_some_iff.1 hp).1] at hq
        simp only [Option.some.injEq] at hq
        by_cases ej : j = p
        · subst ej; rw [hr] at hs; simp only [Option.some.injEq] at hs; rw [← hs]; exact hl
        · exact h.pass u p hp j s (by omega) hs
      · have := h3 e
        subst this
        exact h.pass u q0 h1 j s hj hs
    rcases key with k | ⟨k1, k2⟩
    · exact .inl k
    · exact .inr ⟨k1, k2.more hp⟩
theorem PI.skip (h : PI N L least rm pos W) (hG : Graded N L lv) {p r : Nat} (hp : pos[endN N W]? = some p) (hr : (L (endN N W))[p]? = some r) (hl : rm.getD r 0 < least) : PI N L least rm (pos.set (endN N W) (p + 1)) W :=
  h.bump (fun q hq e => by have := ((Tr_lv hG h.on h.mem).2 q hq).2; rw [e] at this; omega) hp hr (.inl hl)
theorem PI.drop {r : Nat} (h : PI N L least rm pos (W ++ [r])) : PI N L least rm pos W := by
  obtain ⟨z, hz⟩ := h.tr
  exact ⟨h.pl, ⟨_, (Tr_snoc hz).1⟩, fun q hq => h.head q (by simp [hq]), h.pass⟩
theorem PI.back_at {r : Nat} (h : PI N L least rm pos (W ++ [r])) : ∃ q, pos[endN N W]? = some q ∧ (L (endN N W))[q]? = some r ∧ frN N r = endN N W := by
  obtain ⟨z, hz⟩ := h.tr
  have e := Tr_end (Tr_snoc hz).1
  obtain ⟨p, h1, h2, _⟩ := h.head r (by simp)
  rw [e] at h1 h2
  exact ⟨p, h1, h2, e⟩
theorem PI.back {r p q : Nat} (h : PI N L least rm pos (W ++ [r])) (hG : Graded N L lv) (hs : endN N (W ++ [r]) ≠ N.snk.toNat) (hp : pos[endN N (W ++ [r])]? = some p) (hl : (L (endN N (W ++ [r]))).length ≤ p) (hq : pos[endN N W]? = some q) :
    PI N L least rm (pos.set (endN N W) (q + 1)) W := by
  obtain ⟨q', h1, h2, h3⟩ := h.back_at
  rw [hq] at h1
  simp only [Option.some.injEq] at h1
  subst h1
  rw [endN_app] at hs hp hl
  refine h.drop.bump (fun s hs' e => ?_) hq h2 (.inr ⟨hs, fun p' hp' => ?_⟩)
  · have := ((Tr_lv hG h.drop.on h.drop.mem).2 s hs').2
    rw [e] at this; omega
  · rw [hp] at hp'
    simp only [Option.some.injEq] at hp'
    rw [← hp']; exact hl
end
/-- The search for the next walk. -/
inductive Nx (N : Net) (L : Nat → List Nat) (least : Int) (rm : List Int) : List Nat → List Nat → Bool → List Nat → List Nat → Prop
  | hit {pos W : List Nat} : endN N W = N.snk.toNat → Nx N L least rm pos W true pos W
  | go {pos W pos' W' : List Nat} {r p : Nat} {b : Bool} : endN N W ≠ N.snk.toNat → pos[endN N W]? = some p → (L (endN N W))[p]? = some r → least ≤ rm.getD r 0 → Nx N L least rm pos (W ++ [r]) b pos' W' → Nx N L least rm pos W b pos' W'
  | skip {pos W pos' W' : List Nat} {r p : Nat} {b : Bool} : endN N W ≠ N.snk.toNat → pos[endN N W]? = some p → (L (endN N W))[p]? = some r → rm.getD r 0 < least → Nx N L least rm (pos.set (endN N W) (p + 1)) W b pos' W' → Nx N L least rm pos W b pos' W'
  | back {pos W pos' W' : List Nat} {r p q : Nat} {b : Bool} : endN N (W ++ [r]) ≠ N.snk.toNat → pos[endN N (W ++ [r])]? = some p → (L (endN N (W ++ [r]))).length ≤ p → pos[endN N W]? = some q → Nx N L least rm (pos.set (endN N W) (q + 1)) W b pos' W' → Nx N L least rm pos (W ++ [r]) b pos' W'
  | stop {pos : List Nat} {p : Nat} : N.src.toNat ≠ N.snk.toNat → pos[N.src.toNat]? = some p → (L N.src.toNat).length ≤ p → Nx N L least rm pos [] false pos []
theorem Nx.keeps {N : Net} {L : Nat → List Nat} {lv : Nat → Int} {least : Int} {rm : List Int} (hG : Graded N L lv) {pos W pos' W' : List Nat} {b : Bool} (h : Nx N L least rm pos W b pos' W') :
    PI N L least rm pos W → PI N L least rm pos' W' ∧ (b = true → endN N W' = N.snk.toNat) ∧ (b = false → W' = [] ∧ Dead L pos' N.src.toNat) := by
  induction h with
  | hit h => exact fun hI => ⟨hI, fun _ => h, fun h => (by cases h)⟩
  | go _ h2 h3 h4 _ ih => exact fun hI => ih (hI.go hG h2 h3 h4)
  | skip _ h2 h3 h4 _ ih => exact fun hI => ih (hI.skip hG h2 h3 h4)
  | back h1 h2 h3 h4 _ ih => exact fun hI => ih (hI.back hG h1 h2 h3 h4)
  | stop _ h2 h3 => exact fun hI => ⟨hI, fun h => (by cases h), fun _ => ⟨rfl, fun p hp => by rw [h2] at hp; simp only [Option.some.injEq] at hp; rw [← hp]; exact h3⟩⟩
/-- Nodes that are come to by the lists' tracks that have room. -/
inductive LP (N : Net) (L : Nat → List Nat) (least : Int) (rm : List Int) : Nat → Prop
  | src : LP N L least rm N.src.toNat
  | step {r : Nat} : LP N L least rm (frN N r) → r ∈ L (frN N r) → least ≤ rm.getD r 0 → LP N L least rm (toN N r)
theorem blocked {N : Net} (hR : N.Right) {L : Nat → List Nat} {lv : Nat → Int} {least : Int} {rm : List Int} (hG : Graded N L lv) {pos : List Nat} (hI : PI N L least rm pos []) (hd : Dead L pos N.src.toNat) (hs : N.src.toNat ≠ N.snk.toNat) :
    ∀ {u}, LP N L least rm u → u ≠ N.snk.toNat ∧ Dead L pos u := by
  intro u h
  induction h with
  | src => exact ⟨hs, hd⟩
  | @step r _ hr hl ih =>
    obtain ⟨j, hj, hjr⟩ := List.mem_iff_getElem.1 hr
    have hlt := (hG.ok _ _ hr).1
    have hf := frN_eq hR hlt
    have hlen : frN N r < pos.length := by rw [hI.pl]; omega
    obtain ⟨p, hp⟩ : ∃ p, pos[frN N r]? = some p := ⟨pos[frN N r], List.getElem?_eq_getElem hlen⟩
    have := ih.2 p hp
    rcases hI.pass _ p hp j r (by omega) (by rw [List.getElem?_eq_getElem hj, hjr]) with k | k
    · omega
    · exact k
end Go.Proofs.Ytcgcimnjknadjaa
