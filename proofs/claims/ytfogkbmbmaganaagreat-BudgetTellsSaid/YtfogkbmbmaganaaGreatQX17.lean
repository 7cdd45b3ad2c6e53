/- The engine and the words that all chapters share: several texts in one. -/
import Derived.Test.YtfogkbmbmaganaaGreatRefE
import Derived.Test.YtfogkbmbmaganaaGreatQX5
import Derived.Test.YtfogkbmbmaganaaGreatTreZ
import Derived.Test.YtfogkbmbmaganaaGreatQX11

/- dinic.From and dinic.Max of any network, any amounts, any least room, any engine. -/
set_option linter.unusedVariables false
set_option linter.unusedSimpArgs false
namespace Go.Proofs.YtfogkbmbmaganaaGreat
open Go.RowKit
end Go.Proofs.YtfogkbmbmaganaaGreat


/- What a search that begins anew each time finds, in plain terms: with what it marks as leading nowhere it is the search of the plain engine. -/
set_option linter.unusedVariables false
set_option linter.unusedSimpArgs false
namespace Go.Proofs.YtfogkbmbmaganaaGreat
open Go.RowKit
structure DeadC (N : Net) (ls : List Nat) (least : Int) (rm : List Int) (D : List Bool) : Prop where
  len : D.length = N.nodes.toNat + 1
  snk : D[N.snk.toNat]? ≠ some true
  closed : ∀ v, D[v]? = some true → ∀ r ∈ ls, frN N r = v → rm.getD r 0 < least ∨ D[toN N r]? = some true
def FirstT (N : Net) (ls : List Nat) (least : Int) (rm : List Int) (D : List Bool) (r : Nat) : Prop :=
  r ∈ ls ∧ least ≤ rm.getD r 0 ∧ ∀ q ∈ ls, frN N q = frN N r → q < r → rm.getD q 0 < least ∨ D[toN N q]? = some true
section
variable {N : Net} {ls : List Nat} {least : Int} {rm : List Int} {D : List Bool}
theorem DeadC.alive (h : DeadC N ls least rm D) : ∀ {W : List Nat} {a z : Nat}, Tr N a W z → D[z]? ≠ some true → (∀ r ∈ W, FirstT N ls least rm D r) → D[a]? ≠ some true ∧ ∀ r ∈ W, D[frN N r]? ≠ some true ∧ D[toN N r]? ≠ some true
  | [], a, z, ht, hz, _ => by
    have e : a = z := ht
    subst e
    exact ⟨hz, by simp⟩
  | r :: W, a, z, ht, hz, hF => by
    obtain ⟨e, ht'⟩ : frN N r = a ∧ Tr N (toN N r) W z := ht
    obtain ⟨i1, i2⟩ := h.alive ht' hz fun q hq => hF q (by simp [hq])
    have hr := hF r (by simp)
    have h1 : D[frN N r]? ≠ some true := fun hd => by
      rcases h.closed _ hd r hr.1 rfl with h2 | h2
      · have := hr.2.1; omega
      · exact i1 h2
    subst e
    refine ⟨h1, fun q hq => ?_⟩
    rcases List.mem_cons.1 hq with rfl | hq
    · exact ⟨h1, i1⟩
    · exact i2 q hq
def posD (N : Net) (ls : List Nat) (D : List Bool) (W : List Nat) : List Nat := (List.range (N.nodes.toNat + 1)).map fun v =>
  if D[v]? = some true then (ldAt N ls v).length else match W.find? (fun r => decide (frN N r = v)) with
    | some r => (ldAt N ls v).findIdx (fun q => decide (q = r))
    | none => 0
theorem posD_get {W : List Nat} {v : Nat} (hv : v < N.nodes.toNat + 1) : (posD N ls D W)[v]? = some (if D[v]? = some true then (ldAt N ls v).length else match W.find? (fun r => decide (frN N r = v)) with
    | some r => (ldAt N ls v).findIdx (fun q => decide (q = r))
    | none => 0) := by
  unfold posD
  rw [List.getElem?_map, List.getElem?_range hv]; rfl
theorem posD_dead {W : List Nat} (h : DeadC N ls least rm D) {v : Nat} (hv : D[v]? = some true) : Dead (ldAt N ls) (posD N ls D W) v := by
  have hlt : v < N.nodes.toNat + 1 := by have := (List.getElem?_eq_some_iff.1 hv).1; rw [h.len] at this; exact this
  intro p hp
  rw [posD_get hlt, if_pos hv] at hp
  simp only [Option.some.injEq] at hp
  omega
theorem posD_PI (hR : N.Right) (hs : ls.Pairwise (· < ·)) (hlt : ∀ r ∈ ls, r < 2 * N.arcs.length) (h : DeadC N ls least rm D) {W : List Nat} {z : Nat} (ht : Tr N N.src.toNat W z) (hz : D[z]? ≠ some true ∨ W = []) (hF : ∀ r ∈ W, FirstT N ls least rm D r) : PI N (ldAt N ls) least rm (posD N ls D W) W := by
  have hal : ∀ r ∈ W, D[frN N r]? ≠ some true ∧ D[toN N r]? ≠ some true := by
    rcases hz with hz | rfl
    · exact (h.alive ht hz hF).2
    · simp
  have huniq : ∀ r ∈ W, ∀ q ∈ W, frN N q = frN N r → q = r := by
    intro r hr q hq he
    refine Classical.byContradiction fun hne => ?_
    rcases Nat.lt_or_ge q r with hl | hl
    · rcases (hF r hr).2.2 q (hF q hq).1 he hl with h1 | h1
      · have := (hF q hq).2.1; omega
      · exact (hal q hq).2 h1
    · rcases (hF q hq).2.2 r (hF r hr).1 he.symm (by omega) with h1 | h1
      · have := (hF r hr).2.1; omega
      · exact (hal r hr).2 h1
  have hfind : ∀ r ∈ W, W.find? (fun q => decide (frN N q = frN N r)) = some r := by
    intro r hr
    cases hf : W.find? (fun q => decide (frN N q = frN N r)) with
    | none => exact absurd (List.find?_eq_none.1 hf r hr) (by simp)
    | some q =>
      have h1 := List.find?_some hf
      have h2 := List.mem_of_find?_eq_some hf
      rw [huniq r hr q h2 (by simpa using h1)]
  have hidx : ∀ r ∈ W, (ldAt N ls (frN N r))[(ldAt N ls (frN N r)).findIdx (fun q => decide (q = r))]? = some r := by
    intro r hr
    have hm : r ∈ ldAt N ls (frN N r) := mem_ldAt.2 ⟨(hF r hr).1, rfl⟩
    have hlt2 : (ldAt N ls (frN N r)).findIdx (fun q => decide (q = r)) < (ldAt N ls (frN N r)).length := List.findIdx_lt_length_of_exists ⟨r, hm, by simp⟩
    have h3 := List.findIdx_getElem (w := hlt2)
    rw [List.getElem?_eq_getElem hlt2]
    simpa using h3
  have hsort : ∀ v, (ldAt N ls v).Pairwise (· < ·) := fun v => hs.filter _
  refine ⟨by unfold posD; simp, ⟨z, ht⟩, fun r hr => ?_, fun v p hp j r hj hr => ?_⟩
  · have hl := frN_eq hR (hlt r (hF r hr).1)
    refine ⟨_, ?_, hidx r hr, (hF r hr).2.1⟩
    rw [posD_get (by omega), if_neg (hal r hr).1, hfind r hr]
  · have hrm := mem_ldAt.1 (List.mem_of_getElem? hr)
    have hl := toN_eq hR (hlt r hrm.1)
    have dead : D[toN N r]? = some true → toN N r ≠ N.snk.toNat ∧ Dead (ldAt N ls) (posD N ls D W) (toN N r) := fun hd => ⟨fun e => h.snk (by rw [← e]; exact hd), posD_dead h hd⟩
    have hvl : v < N.nodes.toNat + 1 := by
      have := (List.getElem?_eq_some_iff.1 hp).1
      unfold posD at this
      simpa using this
    rw [posD_get hvl] at hp
    by_cases hv : D[v]? = some true
    · rcases h.closed v hv r hrm.1 hrm.2 with h1 | h1
      · exact .inl h1
      · exact .inr (dead h1)
    · rw [if_neg hv] at hp
      cases hf : W.find? (fun q => decide (frN N q = v)) with
      | none => rw [hf] at hp; simp only [Option.some.injEq] at hp; omega
      | some q =>
        rw [hf] at hp
        simp only [Option.some.injEq] at hp
        have hqv : frN N q = v := by simpa using List.find?_some hf
        have hqW := List.mem_of_find?_eq_some hf
        have hqi := hidx q hqW
        rw [hqv, hp] at hqi
        have hjr : r < q := by
          obtain ⟨hj1, e1⟩ := List.getElem?_eq_some_iff.1 hr
          obtain ⟨hj2, e2⟩ := List.getElem?_eq_some_iff.1 hqi
          have := List.pairwise_iff_getElem.1 (hsort v) j p hj1 hj2 hj
          omega
        rcases (hF q hqW).2.2 r hrm.1 (by rw [hrm.2, hqv]) hjr with h1 | h1
        · exact .inl h1
        · exact .inr (dead h1)
end
end Go.Proofs.YtfogkbmbmaganaaGreat
