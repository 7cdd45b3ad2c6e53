
/- What the laws of the halves need of turns. -/
import Derived.Test.YtjbcgjahfalkaaaQX1
import Derived.Test.YtjbcgjahfalkaaaMade13
set_option linter.unusedVariables false
set_option linter.unusedSimpArgs false
namespace Go.Proofs.Ytjbcgjahfalkaaa
open Go.RowKit
theorem turns_get : ∀ {l : List Turn} {i : Nat} {t : Turn}, l[i]? = some t → (turns l)[i * 4]? = some (.int .i64 t.least) ∧ (turns l)[i * 4 + 1]? = some (.int .i64 t.p) ∧ (turns l)[i * 4 + 2]? = some (.int .i64 t.w) ∧ (turns l)[i * 4 + 3]? = some (.int .i64 t.v)
  | [], _, _, h => by simp at h
  | a :: l, 0, t, h => by
    obtain rfl : a = t := by simpa using h
    exact ⟨rfl, rfl, rfl, rfl⟩
  | a :: l, i + 1, t, h => by
    have ih := turns_get (l := l) (i := i) (t := t) (by simpa using h)
    rw [show (i + 1) * 4 = i * 4 + 1 + 1 + 1 + 1 by omega]
    exact ih
theorem made_rooms {N : Net} (hR : N.Right) (hc : ∀ a ∈ N.arcs, a.cap ≤ 1000000) : ∃ nr, nr ≤ 62 ∧ floorOf (mostC N.arcs) = halfZ nr 0 ∧ (nr = 0 → ∀ a ∈ N.arcs, a.cap = 0) ∧ (0 < nr → 0 < N.arcs.length) ∧ ∀ k, halfZ nr k ≤ 1000000 := by
  have hb := mostC_in hR N.arcs.length
  rw [List.take_of_length_le (Nat.le_refl _)] at hb
  obtain ⟨h1, h2, h3⟩ := mostC_spec N.arcs 0 fun a ha => (hR.arc a ha).2.2
  change 0 ≤ mostC N.arcs at h1
  change ∀ a ∈ N.arcs, a.cap ≤ mostC N.arcs at h2
  change mostC N.arcs = 0 ∨ ∃ a ∈ N.arcs, mostC N.arcs = a.cap at h3
  obtain ⟨nr, g1, g2, g3⟩ := floor_half hb.1 (by omega)
  have hm : mostC N.arcs ≤ 1000000 := by
    rcases h3 with h | ⟨a, ha, h⟩
    · omega
    · rw [h]; exact hc a ha
  have hfl : floorOf (mostC N.arcs) ≤ mostC N.arcs := by
    unfold floorOf
    split
    · omega
    · have := bitLen_le (show 0 < (mostC N.arcs).toNat by omega)
      have e : ((2 ^ (bitLen (mostC N.arcs).toNat - 1) : Nat) : Int) = 2 ^ (bitLen (mostC N.arcs).toNat - 1) := by rw [Int.natCast_pow]; rfl
      rw [← e]; omega
  have hk : ∀ k, halfZ nr k ≤ halfZ nr 0 := by
    intro k
    induction k with
    | zero => exact Int.le_refl _
    | succ k ih =>
      have := halfZ_half nr k
      have := halfZ_nonneg nr k
      omega
  refine ⟨nr, g1, g2, fun h0 a ha => ?_, fun h0 => ?_, fun k => by have := hk k; omega⟩
  · have e := g3.1 h0
    have := h2 a ha
    have := (hR.arc a ha).2.2
    omega
  · rcases h3 with h | ⟨a, ha, h⟩
    · have := g3.2 h; omega
    · exact List.length_pos_of_mem ha
theorem Sc.lev {N : Net} (hR : N.Right) {nr : Nat} {f : List Int} {ts : List Turn} (h : Sc N nr nr f ts) (hcap : nr = 0 → ∀ a ∈ N.arcs, a.cap = 0) (h0 : ∃ lv, IsLev N (roomL (N.arcs.zip (List.replicate N.arcs.length 0))) 1 lv) : ∃ lv, IsLev N (roomL (N.arcs.zip f)) 1 lv ∧ lvZ lv N.snk.toNat < 0 := by
  obtain ⟨_, _, _, _, _, _, hlast⟩ := h.all hR
  have h' := h
  rcases Nat.eq_zero_or_pos nr with e | e
  · subst e
    obtain ⟨lv, hlv⟩ := h0
    cases h with
    | nil => exact ⟨lv, hlv, h'.stop hR hcap hlv⟩
  · obtain ⟨lv, g1, g2⟩ := hlast e
    obtain ⟨j, rfl⟩ : ∃ j, nr = j + 1 := ⟨nr - 1, by omega⟩
    rw [show j + 1 - 1 = j by omega, halfZ_last] at g1
    exact ⟨lv, g1, g2⟩
theorem was_in {N : Net} {nr : Nat} {ts : List Turn} (h : ∀ i t, ts[i]? = some t → TurnOk N nr i (wasV ts i) t) (k : Nat) : 0 ≤ wasV ts k ∧ wasV ts k ≤ 4611686018427387904 := by
  unfold wasV
  split
  · decide
  · cases h0 : ts[k - 1]? with
    | none => simp
    | some t' =>
      have := (h (k - 1) t' h0).bound
      exact ⟨by show 0 ≤ t'.v; omega, by show t'.v ≤ _; omega⟩
end Go.Proofs.Ytjbcgjahfalkaaa
