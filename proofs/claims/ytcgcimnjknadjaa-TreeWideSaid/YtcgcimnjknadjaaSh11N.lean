
/- Chapter 11's example, step by step. -/
import Derived.Test.YtcgcimnjknadjaaTblkN
import Derived.Test.YtcgcimnjknadjaaSh11P
set_option linter.unusedVariables false
set_option linter.unusedSimpArgs false
namespace Go.Proofs.Ytcgcimnjknadjaa
open Go.RowKit
theorem exN_fits : exN.Fits := ⟨by decide, by decide, by decide, by decide, fun a ha => (by
  simp only [exN, List.mem_cons, List.not_mem_nil, or_false] at ha
  rcases ha with rfl | rfl <;> decide)⟩
theorem exN_flow : IsFlow exN [0, 0] := by
  refine ⟨⟨rfl, fun p hp => ?_⟩, fun v hv h1 h2 => ?_⟩
  · simp only [exN, List.zip_cons_cons, List.zip_nil_right, List.mem_cons, List.not_mem_nil, or_false] at hp
    rcases hp with rfl | rfl <;> decide
  · have e1 : exN.src = 1 := rfl
    have e2 : exN.snk = 2 := rfl
    have e3 : exN.nodes = 2 := rfl
    omega
set_option maxHeartbeats 1000000 in
theorem shown11_fn : Fn 15 [] [] [] fun v H' => v = .bool true ∧ H' = [] := by
  refine Fn_of Try.func15 rfl rfl fun w0 => ?_
  (repeat' (first | refine J_seq ?_ | refine J_skip ?_ | refine J_yes rfl ?_ | refine J_no rfl ?_))
  refine J_region ?_
  refine JL_all [] rfl ?_
  (repeat' (first | refine J_seq ?_ | refine J_skip ?_ | refine J_yes rfl ?_ | refine J_no rfl ?_))
  refine J_region ?_
  refine JL_val [] (OpV_build rfl rfl rfl rfl rfl rfl) rfl ?_
  refine JL_val [] (OpV_build rfl rfl rfl rfl rfl rfl) rfl ?_
  refine JL_lit rfl rfl rfl rfl rfl rfl rfl (fun _ => rfl) fun g1 => ?_
  refine JL_val [] (OpV_build rfl rfl rfl rfl rfl rfl) rfl ?_
  refine JL_lit rfl rfl rfl rfl rfl rfl rfl (fun _ => rfl) fun g2 => ?_
  refine JL_callR [] (tblock_fn exN exN_fits exN_right (some ⟨g1, 0, none⟩) 2 g1 0 (fun _ => rfl) [0, 0] (some ⟨g2, 0, none⟩) 2 g2 0 (fun _ => rfl) (by decide) (by decide) 1 (by decide)) rfl rfl rfl rfl (by kernel_rfl) ⟨⟨1, _, by simp, rfl, shows_blk _ _ _ (0, 0), .inr rfl⟩, ⟨0, _, by simp, rfl, shows_blk _ _ _ (0, 0), .inr rfl⟩, trivial⟩ (fun _ => rfl) ?_
  rintro v H' (⟨_, _, f', ws, k, Ao, co, hB, hk2, hkB, _, rfl, rfl⟩ | ⟨hW, _, _⟩ | ⟨_, hl, _, _⟩)
  · obtain ⟨rfl, hws⟩ := ex_blk hB
    refine ⟨rfl, ?_⟩
    rw [hws]
    have hk4 : 4 ≤ k := hk2
    refine JL_know (own_is 0 rfl) fun ⟨_, _, hAo, hl1⟩ => ?_
    obtain ⟨g3, hAo⟩ := own_at hAo hl1
    obtain rfl := hAo (by decide)
    refine JL_all [] rfl ?_
    (repeat' (first | refine J_seq ?_ | refine J_skip ?_ | refine J_yes rfl ?_ | refine J_no rfl ?_))
    refine J_region ?_
    refine JL_evO (gs := [999]) rfl ?_
    refine JL_evO (gs := [999]) rfl ?_
    refine JL_evO (gs := [999]) rfl ?_
    refine JL_set 18 (v' := .bool true) rfl (congrArg Value.bool (cdec_yes rfl)) ?_
    refine JL_run [2] rfl ?_
    refine JL_set 23 (v' := .bool true) rfl (congrArg Value.bool (cdec_yes rfl)) ?_
    refine JL_evO (gs := [2, 7]) rfl ?_
    refine JL_val [2, 7] (idx1z (m := 0) rfl rfl rfl rfl rfl (by decide)) rfl ?_
    refine JL_val [2, 7] (OpV_own 0 rfl rfl rfl rfl) rfl ?_
    refine JL_run [2, 7] rfl ?_
    refine JL_set 29 (v' := .bool true) rfl (congrArg Value.bool (cdec_yes rfl)) ?_
    refine JL_evO (gs := [2, 7, 13]) rfl ?_
    refine JL_val [2, 7, 13] (idx1z (m := 1) rfl rfl rfl rfl rfl (by decide)) rfl ?_
    refine JL_val [2, 7, 13] (OpV_own 0 rfl rfl rfl rfl) rfl ?_
    refine JL_run [2, 7, 13] rfl ?_
    refine JL_set 35 (v' := .bool true) rfl (congrArg Value.bool (cdec_yes rfl)) ?_
    refine JL_run [2, 7, 13, 19] rfl ?_
    refine JL_set 39 (v' := .bool true) rfl (congrArg Value.bool (cdec_yes rfl)) ?_
    refine JL_all [2, 7, 13, 19, 23] rfl ?_
    refine J_drop [] (by decide) rfl (J_ret ⟨_, rfl, congrArg Value.bool (cdec_yes (by omega)), rfl⟩)
  · exact absurd exN_flow hW
  · exact absurd hl (by decide)
end Go.Proofs.Ytcgcimnjknadjaa
