
/- Chapter 12's example, in plain terms; phases find but one thing. -/
import Derived.Test.YtdhenmmmkdhonaaChainP
import Derived.Test.YtdhenmmmkdhonaaUniP
set_option linter.unusedVariables false
set_option linter.unusedSimpArgs false
namespace Go.Proofs.Ytdhenmmmkdhonaa
open Go.RowKit
theorem Dn.uniq {N : Net} (hR : N.Right) {least : Int} (hle : 1 ≤ least) {f f1 : List Int} {p1 k1 : Nat} (h : Dn N least f p1 k1 f1) : ∀ {f2 : List Int} {p2 k2 : Nat}, Dn N least f p2 k2 f2 → f1 = f2 ∧ p1 = p2 ∧ k1 = k2 := by
  induction h with
  | stop h1 h2 =>
    intro f2 p2 k2 h
    cases h with
    | stop _ _ => exact ⟨rfl, rfl, rfl⟩
    | step j1 j2 _ _ => rw [lev_eq j1 h1] at j2; omega
  | step h1 h2 h3 _ ih =>
    intro f2 p2 k2 h
    cases h with
    | stop j1 j2 => rw [lev_eq j1 h1] at j2; omega
    | step j1 j2 j3 j4 =>
      obtain ⟨rfl, rfl⟩ := h3.uniq hR j3
      obtain ⟨e1, e2, e3⟩ := ih j4
      exact ⟨e1, by omega, by omega⟩
theorem chain_deep {cs : List Int} {x : Int} (hR : (chainN cs).Right) (hle : ∀ c ∈ cs, x ≤ c) {lv : List Int} (h1 : IsLev (chainN cs) (roomL ((chainN cs).arcs.zip (List.replicate cs.length 0))) x lv) : 0 ≤ lvZ lv (chainN cs).snk.toNat := by
  have hal : (chainN cs).arcs.length = cs.length := chainL_length cs 1
  have hlv : ∀ i, i ≤ cs.length → 0 ≤ lvZ lv (i + 1) := by
    intro i
    induction i with
    | zero => intro _; have := h1.src; rw [show (chainN cs).src.toNat = 0 + 1 from rfl] at this; omega
    | succ i ih =>
      intro hi
      have hi' : i < cs.length := by omega
      obtain ⟨e1, e2⟩ := chain_ends hi'
      have hfi : (List.replicate cs.length (0 : Int))[i]? = some 0 := by rw [List.getElem?_replicate, if_pos hi']
      obtain ⟨g1, _⟩ := roomL_get (zip_some (chain_arc (List.getElem?_eq_getElem hi')) hfi)
      have h4 := hle _ (List.getElem_mem hi')
      have := h1.step (2 * i) (by rw [hal]; omega) (by rw [List.getD_eq_getElem?_getD, g1]; simp; exact h4) (by rw [e1]; exact ih (by omega))
      rw [e2] at this
      exact this.1
  have := hlv cs.length (Nat.le_refl _)
  rwa [show (chainN cs).snk.toNat = cs.length + 1 from by show (((cs.length + 1 : Nat) : Int)).toNat = _; omega]
theorem ex12 {p k : Nat} {f : List Int} (h : Dn (chainN [5, 3]) 1 [0, 0] p k f) : f = [3, 3] ∧ p = 1 ∧ k = 1 := by
  have hR : (chainN [5, 3]).Right := chain_right (by decide) (by decide) (by decide)
  have hz : IsFlow (chainN [5, 3]) [0, 0] := zeroFlow _ hR
  cases h with
  | stop h1 h2 =>
    have := chain_deep (cs := [5, 3]) hR (by decide) h1
    omega
  | step h1 h2 h3 h4 =>
    obtain ⟨e1, e2⟩ := chain_one (cs := [5, 3]) (mo := 3) hR (by decide) (by decide) (by decide) (by decide) h3
    have hf1 := (h3.gain hR (by decide) hz).1
    cases h4 with
    | stop _ _ =>
      have hl : f.length = 2 := hf1.len
      have a0 := chain_flow hf1 0 (by decide)
      have a1 := chain_flow hf1 1 (by decide)
      rw [e2] at a0 a1
      match f, hl with
      | [u, v], _ =>
        have b0 : u = 3 := a0
        have b1 : v = 3 := a1
        rw [b0, b1]
        exact ⟨rfl, rfl, by omega⟩
    | step j1 j2 j3 _ =>
      have := chain_none (cs := [5, 3]) (mo := 3) hR (by decide) hf1 (by decide) j3 (by omega)
      have h6 := (j3.keeps hR (by decide) hf1 j1).2.2 j2
      exact absurd (List.length_eq_zero_iff.1 this.1) h6
end Go.Proofs.Ytdhenmmmkdhonaa
