/- The engine and the words that all chapters share: several texts in one. -/
import Derived.Test.YtfogkbmbmaganaaGreatQF
import Derived.Test.YtfogkbmbmaganaaGreatQB
import Derived.Test.YtfogkbmbmaganaaGreatQX11

/- Networks turned, and the greatest cut of a flow. -/
set_option linter.unusedVariables false
set_option linter.unusedSimpArgs false
namespace Go.Proofs.YtfogkbmbmaganaaGreat
open Go.RowKit
end Go.Proofs.YtfogkbmbmaganaaGreat


/- The least and the greatest cut of a flow that no track leads on, in plain terms. -/
set_option linter.unusedVariables false
set_option linter.unusedSimpArgs false
namespace Go.Proofs.YtfogkbmbmaganaaGreat
open Go.RowKit
section
variable {N : Net} {f : List Int} {n : Nat} {l : List Bool}
end
end Go.Proofs.YtfogkbmbmaganaaGreat


/- Levels rise behind a flow that blocks; a flow that no track leads on is the greatest. -/
set_option linter.unusedVariables false
set_option linter.unusedSimpArgs false
namespace Go.Proofs.YtfogkbmbmaganaaGreat
open Go.RowKit
theorem BlkOf.rise {N : Net} (hR : N.Right) {least : Int} (hle : 1 ≤ least) {f f' : List Int} {ws : List (List Nat × Int)} (hf : IsFlow N f) (h : BlkOf N least f ws f') {lv lv' : List Int} (hlv : IsLev N (roomL (N.arcs.zip f)) least lv) (hlv' : IsLev N (roomL (N.arcs.zip f')) least lv') (hs : 0 ≤ lvZ lv' N.snk.toNat) :
    0 ≤ lvZ lv N.snk.toNat ∧ lvZ lv N.snk.toNat < lvZ lv' N.snk.toNat := by
  obtain ⟨lv0, h1, h2, h3⟩ := h
  obtain rfl := lev_eq h1 hlv
  have hG := graded_leads h1
  obtain ⟨f2, k1, k2, _, k4, _, k6⟩ := h3.keeps hR hG hle f hf rfl PI.start
  have hfl := hf.len
  have key : ∀ (k v : Nat), lvZ lv' v = k → 0 ≤ lvZ lv0 v ∧ lvZ lv0 v ≤ k ∧ (lvZ lv0 v = k → LP N (ldAt N (leadsL N (roomL (N.arcs.zip f)) least lv0 (2 * N.arcs.length))) least (roomL (N.arcs.zip f')) v) := by
    intro k
    induction k with
    | zero =>
      intro v hv
      have := hlv'.zero v (by simpa using hv)
      subst this
      rw [h1.src]
      exact ⟨Int.le_refl _, Int.le_refl _, fun _ => .src⟩
    | succ k ih =>
      intro v hv
      obtain ⟨r, hr, hl, hto, hfr⟩ := hlv'.back v (by omega)
      obtain ⟨i1, i2, i3⟩ := ih (frN N r) (by omega)
      by_cases hb : least ≤ (roomL (N.arcs.zip f)).getD r 0
      · have hst := h1.step r hr hb i1
        rw [hto] at hst
        refine ⟨hst.1, by omega, fun he => ?_⟩
        have e1 : lvZ lv0 (frN N r) = k := by omega
        have hp := i3 e1
        have hrl : r ∈ leadsL N (roomL (N.arcs.zip f)) least lv0 (2 * N.arcs.length) := mem_leads.2 ⟨hr, hb, by omega, by rw [hto]; omega⟩
        have := LP.step (r := r) hp (mem_ldAt.2 ⟨hrl, rfl⟩) hl
        rwa [hto] at this
      · have hup := k6 r hr (by omega)
        have hld := (mem_leads.1 (mem_ldAt.1 hup).1)
        have e1 := hld.2.2.2
        have e2 := hld.2.2.1
        rw [toN_flip, frN_flip, hto] at e1
        rw [frN_flip, hto] at e2
        have := h1.rng v
        exact ⟨by omega, by omega, fun he => by omega⟩
  obtain ⟨d, hd⟩ : ∃ d : Nat, lvZ lv' N.snk.toNat = d := ⟨(lvZ lv' N.snk.toNat).toNat, by omega⟩
  obtain ⟨j1, j2, j3⟩ := key d _ hd
  refine ⟨j1, ?_⟩
  rcases Int.lt_or_eq_of_le j2 with h | h
  · omega
  · exact absurd rfl (k4 _ (j3 h))
end Go.Proofs.YtfogkbmbmaganaaGreat
