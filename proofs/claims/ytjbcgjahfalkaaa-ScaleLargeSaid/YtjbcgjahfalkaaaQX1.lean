/- The engine and the words that all chapters share: several texts in one. -/
import Derived.Test.YtjbcgjahfalkaaaQF
import Derived.Test.YtjbcgjahfalkaaaQX8
import Derived.Test.YtjbcgjahfalkaaaQX0

/- Two rows that are the same. -/
set_option linter.unusedVariables false
set_option linter.unusedSimpArgs false
namespace Go.Proofs.Ytjbcgjahfalkaaa
open Go.RowKit
theorem Net.Right.fits2 {N : Net} (h : N.Right) : N.Fits := by
  have h1 := h.nodes
  have h2 := h.src
  have h3 := h.snk
  have h4 := h.len
  refine ⟨by unfold inB; omega, by unfold inB; omega, by unfold inB; omega, by omega, fun a ha => ?_⟩
  have := h.arc a ha
  have := h.cap ha
  unfold inB
  omega
end Go.Proofs.Ytjbcgjahfalkaaa


/- Chapter 13's example, step by step. -/
set_option linter.unusedVariables false
set_option linter.unusedSimpArgs false
namespace Go.Proofs.Ytjbcgjahfalkaaa
open Go.RowKit
theorem ex13 {f : List Int} {ts : List Turn} (h : Sc (chainN [5]) 3 3 f ts) : f = [5] ∧ ∃ (p0 w0 p1 w1 p2 w2 : Nat) (v1 v2 : Int), ts = [⟨4, p0, w0, 5⟩, ⟨2, p1, w1, v1⟩, ⟨1, p2, w2, v2⟩] := by
  have hR : (chainN [5]).Right := chain_right (by decide) (by decide) (by decide)
  have hz : IsFlow (chainN [5]) [0] := zeroFlow _ hR
  have e0 : halfZ 3 0 = 4 := by decide
  have e1 : halfZ 3 1 = 2 := by decide
  have e2 : halfZ 3 2 = 1 := by decide
  cases h with
  | @step _ f2 _ _ p2 w2 h2 _ d2 =>
    cases h2 with
    | @step _ f1 _ _ p1 w1 h1 _ d1 =>
      cases h1 with
      | @step _ f0 _ _ p0 w0 h0 _ d0 =>
        cases h0
        rw [e0] at d0
        rw [e1] at d1
        rw [e2] at d2
        have hz' : IsFlow (chainN [5]) (List.replicate (chainN [5]).arcs.length 0) := hz
        have k0 := d0.keeps hR (by decide) hz'
        have k1 := d1.keeps hR (by decide) k0.1
        have k2 := d2.keeps hR (by decide) k1.1
        have hv0 : 5 ≤ exZ ((chainN [5]).arcs.zip f1) (chainN [5]).snk := by
          cases d0 with
          | stop j1 j2 =>
            have := chain_deep (cs := [5]) (x := 4) hR (by decide) j1
            omega
          | step j1 j2 j3 j4 =>
            obtain ⟨_, c2⟩ := chain_one (cs := [5]) (mo := 5) hR (by decide) (by decide) (by decide) (by decide) j3
            have g := (j3.gain hR (by decide) hz).1
            have := (j4.keeps hR (by decide) g).2.1
            omega
        have l0 := chain_le (cs := [5]) (mo := 5) k0.1 (by decide)
        have l2 := chain_le (cs := [5]) (mo := 5) k2.1 (by decide)
        have hv0' : exZ ((chainN [5]).arcs.zip f1) (chainN [5]).snk = 5 := by omega
        have hv2 : exZ ((chainN [5]).arcs.zip f) (chainN [5]).snk = 5 := by
          have := k1.2.1
          have := k2.2.1
          omega
        refine ⟨?_, p0, w0, p1, w1, p2, w2, _, _, by rw [hv0', e0, e1, e2]; rfl⟩
        have hl : f.length = 1 := k2.1.len
        have a0 := chain_flow k2.1 0 (by decide)
        rw [hv2] at a0
        match f, hl with
        | [u], _ => exact congrArg (fun x => [x]) a0
theorem shown13_fn : Fn 31 [] [] [] fun v H' => v = .bool true ∧ H' = [] := by
  have hR : (chainN [5]).Right := chain_right (by decide) (by decide) (by decide)
  refine Fn_of Try.func31 rfl rfl fun w0 => ?_
  (repeat' (first | refine J_seq ?_ | refine J_skip ?_ | refine J_yes rfl ?_ | refine J_no rfl ?_))
  refine J_region ?_
  refine JL_all [] rfl ?_
  (repeat' (first | refine J_seq ?_ | refine J_skip ?_ | refine J_yes rfl ?_ | refine J_no rfl ?_))
  refine J_region ?_
  refine JL_val [] (OpV_build rfl rfl rfl rfl rfl rfl) rfl ?_
  refine JL_lit rfl rfl rfl rfl rfl rfl rfl (fun _ => rfl) fun g1 => ?_
  refine JL_val [] (OpV_build rfl rfl rfl rfl rfl rfl) rfl ?_
  refine JL_callR [] (smax_fn 112 (.inl rfl) (chainN [5]) hR.fits2 hR (some ⟨g1, 0, none⟩) 1 g1 0 (fun _ => rfl) 3 (by decide) (by decide)) rfl rfl rfl rfl (by kernel_rfl) ⟨⟨0, _, by simp, rfl, shows_blk _ _ _ (0, 0), .inr rfl⟩, trivial⟩ (fun _ => rfl) ?_
  rintro v H' ⟨f, ts, Af, cf, At, ct, hS, rfl, rfl⟩
  obtain ⟨rfl, p0, w0, p1, w1, p2, w2, v1, v2, rfl⟩ := ex13 hS
  refine ⟨rfl, ?_⟩
  refine JL_know (own_is 0 rfl) fun ⟨_, _, hAo, hl1⟩ => ?_
  obtain ⟨g3, hAo⟩ := own_at hAo hl1
  obtain rfl := hAo (by decide)
  refine JL_know (own_is 1 rfl) fun ⟨_, _, hAo, hl1⟩ => ?_
  obtain ⟨g4, hAo⟩ := own_at hAo hl1
  obtain rfl := hAo (by intro h; cases h)
  refine JL_all [] rfl ?_
  (repeat' (first | refine J_seq ?_ | refine J_skip ?_ | refine J_yes rfl ?_ | refine J_no rfl ?_))
  refine J_region ?_
  refine JL_evO (gs := [999]) rfl ?_
  refine JL_evO (gs := [999]) rfl ?_
  refine JL_evO (gs := [999]) rfl ?_
  refine JL_set 14 (v' := .bool true) rfl (congrArg Value.bool (cdec_yes rfl)) ?_
  refine JL_run [2] rfl ?_
  refine JL_set 19 (v' := .bool true) rfl (congrArg Value.bool (cdec_yes rfl)) ?_
  refine JL_run [2, 7] rfl ?_
  refine JL_val [2, 7] (idx1z (m := 0) rfl rfl rfl rfl rfl (by decide)) rfl ?_
  refine JL_val [2, 7] (OpV_own 0 rfl rfl rfl rfl) rfl ?_
  refine JL_run [2, 7] rfl ?_
  refine JL_set 25 (v' := .bool true) rfl (congrArg Value.bool (cdec_yes rfl)) ?_
  refine JL_run [2, 7, 13] rfl ?_
  refine JL_set 30 (v' := .bool true) rfl (congrArg Value.bool (cdec_yes rfl)) ?_
  refine JL_run [2, 7, 13, 18] rfl ?_
  refine JL_val [2, 7, 13, 18] (idxNz (m := 0) rfl rfl rfl rfl rfl (by simp)) rfl ?_
  refine JL_run [2, 7, 13, 18] rfl ?_
  refine JL_val [2, 7, 13, 18] (OpV_own 1 rfl rfl rfl rfl) rfl ?_
  refine JL_run [2, 7, 13, 18] rfl ?_
  refine JL_set 37 (v' := .bool true) rfl (congrArg Value.bool (cdec_yes rfl)) ?_
  refine JL_run [2, 7, 13, 18, 25] rfl ?_
  refine JL_val [2, 7, 13, 18, 25] (idxNz (m := 0) rfl rfl rfl rfl rfl (by simp)) rfl ?_
  refine JL_run [2, 7, 13, 18, 25] rfl ?_
  refine JL_val [2, 7, 13, 18, 25] (OpV_own 1 rfl rfl rfl rfl) rfl ?_
  refine JL_run [2, 7, 13, 18, 25] rfl ?_
  refine JL_set 44 (v' := .bool true) rfl (congrArg Value.bool (cdec_yes rfl)) ?_
  refine JL_run [2, 7, 13, 18, 25, 32] rfl ?_
  refine JL_val [2, 7, 13, 18, 25, 32] (idxNz (m := 1) rfl rfl rfl rfl rfl (by simp)) rfl ?_
  refine JL_run [2, 7, 13, 18, 25, 32] rfl ?_
  refine JL_val [2, 7, 13, 18, 25, 32] (OpV_own 1 rfl rfl rfl rfl) rfl ?_
  refine JL_run [2, 7, 13, 18, 25, 32] rfl ?_
  refine JL_set 51 (v' := .bool true) rfl (congrArg Value.bool (cdec_yes rfl)) ?_
  refine JL_run [2, 7, 13, 18, 25, 32, 39] rfl ?_
  refine JL_val [2, 7, 13, 18, 25, 32, 39] (idxNz (m := 2) rfl rfl rfl rfl rfl (by simp)) rfl ?_
  refine JL_run [2, 7, 13, 18, 25, 32, 39] rfl ?_
  refine JL_val [2, 7, 13, 18, 25, 32, 39] (OpV_own 1 rfl rfl rfl rfl) rfl ?_
  refine JL_all [2, 7, 13, 18, 25, 32, 39] rfl ?_
  exact J_drop [] (by decide) rfl (J_ret ⟨_, rfl, congrArg Value.bool (cdec_yes rfl), rfl⟩)
end Go.Proofs.Ytjbcgjahfalkaaa
