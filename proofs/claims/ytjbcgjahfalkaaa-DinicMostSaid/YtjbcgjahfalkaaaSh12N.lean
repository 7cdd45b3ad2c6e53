
/- Chapter 12's example, step by step. -/
import Derived.Test.YtjbcgjahfalkaaaDinT
import Derived.Test.YtjbcgjahfalkaaaSame5
import Derived.Test.YtjbcgjahfalkaaaSh12P
set_option linter.unusedVariables false
set_option linter.unusedSimpArgs false
namespace Go.Proofs.Ytjbcgjahfalkaaa
open Go.RowKit
set_option maxHeartbeats 1000000 in
theorem shown12_fn : Fn 15 [] [] [] fun v H' => v = .bool true ∧ H' = [] := by
  have hR : (chainN [5, 3]).Right := chain_right (by decide) (by decide) (by decide)
  refine Fn_of Try.func15 rfl rfl fun w0 => ?_
  (repeat' (first | refine J_seq ?_ | refine J_skip ?_ | refine J_yes rfl ?_ | refine J_no rfl ?_))
  refine J_region ?_
  refine JL_all [] rfl ?_
  (repeat' (first | refine J_seq ?_ | refine J_skip ?_ | refine J_yes rfl ?_ | refine J_no rfl ?_))
  refine J_region ?_
  refine JL_val [] (OpV_build rfl rfl rfl rfl rfl rfl) rfl ?_
  refine JL_val [] (OpV_build rfl rfl rfl rfl rfl rfl) rfl ?_
  refine JL_lit rfl rfl rfl rfl rfl rfl rfl (fun _ => rfl) fun g1 => ?_
  refine JL_val [] (OpV_build rfl rfl rfl rfl rfl rfl) rfl ?_
  refine JL_callR [] (max_fn (chainN [5, 3]) hR.fits2 hR (some ⟨g1, 0, none⟩) 2 g1 0 (fun _ => rfl)) rfl rfl rfl rfl (by kernel_rfl) ⟨⟨0, _, by simp, rfl, shows_blk _ _ _ (0, 0), .inr rfl⟩, trivial⟩ (fun _ => rfl) ?_
  rintro v H' ⟨f, p, k, A', c', hd, _, rfl, rfl⟩
  obtain ⟨rfl, rfl, rfl⟩ := ex12 hd
  refine ⟨rfl, ?_⟩
  refine JL_know (own_is 0 rfl) fun ⟨_, _, hAo, hl1⟩ => ?_
  obtain ⟨g3, hAo⟩ := own_at hAo hl1
  obtain rfl := hAo (by decide)
  refine JL_run [] rfl ?_
  refine JL_alloc rfl rfl rfl (fun _ => rfl) fun p1 => ?_
  refine JL_store 0 rfl rfl rfl rfl rfl [] rfl ?_
  refine JL_all [] rfl ?_
  (repeat' (first | refine J_seq ?_ | refine J_skip ?_ | refine J_yes rfl ?_ | refine J_no rfl ?_))
  refine J_region ?_
  refine JL_evO (gs := [999]) rfl ?_
  refine JL_evO (gs := [999]) rfl ?_
  refine JL_evO (gs := [999]) rfl ?_
  refine JL_set 13 (v' := .bool true) rfl (congrArg Value.bool (cdec_yes rfl)) ?_
  refine JL_run [2] rfl ?_
  refine JL_val [2] (OpV_blk 0 rfl rfl rfl rfl) rfl ?_
  refine JL_run [2] rfl ?_
  refine JL_set 19 (v' := .bool true) rfl (congrArg Value.bool (cdec_yes rfl)) ?_
  refine JL_run [2, 8] rfl ?_
  refine JL_val [2, 8] (OpV_blk 0 rfl rfl rfl rfl) rfl ?_
  refine JL_val [2, 8] (idx1z (m := 0) rfl rfl rfl rfl rfl (by decide)) rfl ?_
  refine JL_val [2, 8] (OpV_own 1 rfl rfl rfl rfl) rfl ?_
  refine JL_run [2, 8] rfl ?_
  refine JL_set 26 (v' := .bool true) rfl (congrArg Value.bool (cdec_yes rfl)) ?_
  refine JL_run [2, 8, 15] rfl ?_
  refine JL_val [2, 8, 15] (OpV_blk 0 rfl rfl rfl rfl) rfl ?_
  refine JL_val [2, 8, 15] (idx1z (m := 1) rfl rfl rfl rfl rfl (by decide)) rfl ?_
  refine JL_val [2, 8, 15] (OpV_own 1 rfl rfl rfl rfl) rfl ?_
  refine JL_run [2, 8, 15] rfl ?_
  refine JL_set 33 (v' := .bool true) rfl (congrArg Value.bool (cdec_yes rfl)) ?_
  refine JL_run [2, 8, 15, 22] rfl ?_
  refine JL_val [2, 8, 15, 22] (OpV_blk 0 rfl rfl rfl rfl) rfl ?_
  refine JL_run [2, 8, 15, 22] rfl ?_
  refine JL_set 38 (v' := .bool true) rfl (congrArg Value.bool (cdec_yes rfl)) ?_
  refine JL_run [2, 8, 15, 22, 27] rfl ?_
  refine JL_val [2, 8, 15, 22, 27] (OpV_blk 0 rfl rfl rfl rfl) rfl ?_
  refine JL_run [2, 8, 15, 22, 27] rfl ?_
  refine JL_set 43 (v' := .bool true) rfl (congrArg Value.bool (cdec_yes rfl)) ?_
  refine JL_run [2, 8, 15, 22, 27, 32] rfl ?_
  refine JL_val [2, 8, 15, 22, 27, 32] (OpV_blk 0 rfl rfl rfl rfl) rfl ?_
  refine JL_all [2, 8, 15, 22, 27, 32] rfl ?_
  exact J_drop [] (by decide) rfl (J_ret ⟨_, rfl, congrArg Value.bool (cdec_yes rfl), rfl⟩)
end Go.Proofs.Ytjbcgjahfalkaaa
