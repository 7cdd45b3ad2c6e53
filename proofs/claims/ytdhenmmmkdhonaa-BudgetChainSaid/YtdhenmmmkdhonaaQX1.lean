/- The engine and the words that all chapters share: several texts in one. -/
import Derived.Test.YtdhenmmmkdhonaaSh12P
import Derived.Test.YtdhenmmmkdhonaaQB

/- The phases along a path of arcs: one, of one walk, or none at all. -/
set_option linter.unusedVariables false
set_option linter.unusedSimpArgs false
namespace Go.Proofs.Ytdhenmmmkdhonaa
open Go.RowKit
theorem chain_rightW {cs : List Int} (h1 : 0 < cs.length) (h2 : cs.length ≤ 400) (hc : ∀ c ∈ cs, 0 ≤ c ∧ c ≤ 99) : (chainN cs).Right := by
  refine ⟨by show 2 ≤ ((cs.length + 1 : Nat) : Int) ∧ ((cs.length + 1 : Nat) : Int) ≤ 500; omega, by show (1 : Int) ≤ 1 ∧ (1 : Int) ≤ ((cs.length + 1 : Nat) : Int); omega, by show 1 ≤ ((cs.length + 1 : Nat) : Int) ∧ ((cs.length + 1 : Nat) : Int) ≤ ((cs.length + 1 : Nat) : Int); omega, by show (1 : Int) ≠ ((cs.length + 1 : Nat) : Int); omega, by show (chainL 1 cs).length ≤ 2000; rw [chainL_length]; omega, fun a ha => ?_, ?_⟩
  · obtain ⟨i, c, hi, hg, rfl⟩ := chainL_mem ha
    have := hc c (List.mem_of_getElem? hg)
    show (1 ≤ ((1 + i : Nat) : Int) ∧ ((1 + i : Nat) : Int) ≤ ((cs.length + 1 : Nat) : Int)) ∧ (1 ≤ ((1 + i + 1 : Nat) : Int) ∧ ((1 + i + 1 : Nat) : Int) ≤ ((cs.length + 1 : Nat) : Int)) ∧ 0 ≤ c
    omega
  · have key : ∀ (cs : List Int) (k : Nat), (∀ c ∈ cs, 0 ≤ c ∧ c ≤ 99) → ((chainL k cs).map (·.cap)).sum ≤ 99 * cs.length := by
      intro cs
      induction cs with
      | nil => intro _ _; exact Int.le_refl _
      | cons c cs ih =>
        intro k h
        have h3 := ih (k + 1) fun d hd => h d (by simp [hd])
        have h4 := h c (by simp)
        simp only [chainL, List.map_cons, List.sum_cons, List.length_cons]
        omega
    have := key cs 1 hc
    show ((chainL 1 cs).map (·.cap)).sum ≤ _
    omega
theorem chain_phases {cs : List Int} {mo : Int} (hR : (chainN cs).Right) (h0 : 0 ≤ mo) (hm : mo ∈ cs) (hle : ∀ c ∈ cs, mo ≤ c) {p k : Nat} {f : List Int} (h : Dn (chainN cs) 1 (List.replicate (chainN cs).arcs.length 0) p k f) :
    exZ ((chainN cs).arcs.zip f) (chainN cs).snk = mo ∧ (mo = 0 → p = 0 ∧ k = 0) ∧ (1 ≤ mo → p = 1 ∧ k = 1) := by
  have hal : (chainN cs).arcs.length = cs.length := chainL_length cs 1
  rw [hal] at h
  have hz : IsFlow (chainN cs) (List.replicate cs.length 0) := by have := zeroFlow _ hR; rwa [hal] at this
  obtain ⟨im, him, hem⟩ := List.mem_iff_getElem.1 hm
  have hval : exZ ((chainN cs).arcs.zip (List.replicate cs.length 0)) (chainN cs).snk = 0 := by
    rw [← chain_flow hz im him, List.getD_eq_getElem?_getD, List.getElem?_replicate, if_pos him]; rfl
  cases h with
  | stop h1 h2 =>
    have hmo : mo = 0 := by
      refine Classical.byContradiction fun hne => ?_
      have := chain_deep (cs := cs) (x := 1) hR (fun c hc => by have := hle c hc; omega) h1
      omega
    exact ⟨by rw [hval, hmo], fun _ => ⟨rfl, rfl⟩, fun h => by omega⟩
  | step h1 h2 h3 h4 =>
    by_cases hmo : mo = 0
    · have := chain_none (cs := cs) (mo := mo) hR (by decide) hz hm h3 (by omega)
      have h6 := (h3.keeps hR (by decide) hz h1).2.2 h2
      exact absurd (List.length_eq_zero_iff.1 this.1) h6
    obtain ⟨e1, e2⟩ := chain_one (cs := cs) (mo := mo) hR (by decide) hm hle (by omega) h3
    have hf1 := (h3.gain hR (by decide) hz).1
    cases h4 with
    | stop _ _ => exact ⟨e2, fun h => absurd h hmo, fun _ => ⟨rfl, by omega⟩⟩
    | step j1 j2 j3 _ =>
      have := chain_none (cs := cs) (mo := mo) hR (by decide) hf1 hm j3 (by omega)
      have h6 := (j3.keeps hR (by decide) hf1 j1).2.2 j2
      exact absurd (List.length_eq_zero_iff.1 this.1) h6
end Go.Proofs.Ytdhenmmmkdhonaa

/- From a function's promise to a law's row. -/
set_option linter.unusedVariables false
set_option linter.unusedSimpArgs false
namespace Go.Proofs.Ytdhenmmmkdhonaa
open Go.RowKit
def SegsIn (w : World) : Heap → Prop
  | [] => True
  | .seg b o vs :: S => (Chunk.seg b o vs).holds w ∧ SegsIn w S
  | _ => False
theorem SegsIn.spec {w : World} : ∀ {S : Heap}, SegsIn w S → ∀ c ∈ S, c.holds w ∧ c.mine = none
  | [], _, c, hc => by cases hc
  | .seg b o vs :: S, h, c, hc => by
    rcases List.mem_cons.1 hc with rfl | hc
    · exact ⟨h.1, rfl⟩
    · exact SegsIn.spec h.2 c hc
  | .obj .. :: _, h, _, _ => h.elim
  | .own .. :: _, h, _, _ => h.elim
theorem SegsIn.has {w : World} {S : Heap} (h : SegsIn w S) : Has w [] w S := by
  refine ⟨rfl, rfl, rfl, Nat.le_refl _, fun _ _ _ => rfl, fun c hc => (h.spec c hc).1, fun c hc b hb => (by rw [(h.spec c hc).2] at hb; simp at hb), ?_⟩
  rw [List.pairwise_iff_getElem]
  intro i j hi hj _
  have h1 := (h.spec _ (List.getElem_mem hi)).2
  have h2 := (h.spec _ (List.getElem_mem hj)).2
  exact ⟨fun b hb => by rw [h1] at hb; simp at hb, fun b hb => by rw [h2] at hb; simp at hb⟩
/-- The walk that a law's row asks for. -/
theorem Fn.row {f : FuncId} {args : List Value} {S : Heap} (h : Fn f args [] S (fun v _ => v = .bool true)) (w : World) (hS : SegsIn w S) :
    Calls Try.prog f args.toArray w fun e w' => e = .returned (.bool true) ∧ Below w.heap.size w w' := by
  refine (h w hS.has).mono ?_
  rintro e w' ⟨v, H', he, hH, hv⟩
  rw [he, hv]
  exact ⟨rfl, ⟨hH.os, hH.tape, hH.output, hH.size, fun k hk => hH.keep k hk (by simp)⟩⟩
theorem inB_of {n : Int} (h : (Lit.int .i64 n).wf = true) : inB n := by
  simp [Lit.wf, IntKind.min, IntKind.max, IntKind.signed, IntKind.bits] at h
  exact h
end Go.Proofs.Ytdhenmmmkdhonaa
