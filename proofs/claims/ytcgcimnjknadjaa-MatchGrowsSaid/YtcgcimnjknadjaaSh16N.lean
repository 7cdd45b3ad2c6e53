
/- Chapter 16's example, step by step. -/
import Derived.Test.YtcgcimnjknadjaaEx16
import Derived.Test.YtcgcimnjknadjaaWords16
set_option linter.unusedVariables false
set_option linter.unusedSimpArgs false
namespace Go.Proofs.Ytcgcimnjknadjaa
open Go.RowKit
theorem shown16_fn : Fn 39 [] [] [] fun v H' => v = .bool true ∧ H' = [] := by
  refine Fn_of Try.func39 rfl rfl fun w0 => ?_
  (repeat' (first | refine J_seq ?_ | refine J_skip ?_ | refine J_yes rfl ?_ | refine J_no rfl ?_))
  refine J_region ?_
  refine JL_all [] rfl ?_
  (repeat' (first | refine J_seq ?_ | refine J_skip ?_ | refine J_yes rfl ?_ | refine J_no rfl ?_))
  refine J_region ?_
  refine JL_val [] (OpV_build rfl rfl rfl rfl rfl rfl) rfl ?_
  refine JL_val [] (OpV_build rfl rfl rfl rfl rfl rfl) rfl ?_
  refine JL_val [] (OpV_build rfl rfl rfl rfl rfl rfl) rfl ?_
  refine JL_lit rfl rfl rfl rfl rfl rfl rfl (fun _ => rfl) fun g => ?_
  refine JL_val [] (OpV_build rfl rfl rfl rfl rfl rfl) rfl ?_
  refine JL_callR [] (pairs_fn ex16 ex16_right (some ⟨g, 0, none⟩) 3 g 0 (fun _ => rfl) 2 rfl) rfl rfl rfl rfl (by kernel_rfl) ⟨⟨0, _, by simp, rfl, shows_blk _ _ _ (0, 0), .inr rfl⟩, trivial⟩ (fun _ => rfl) ?_
  rintro v H' ⟨f, A', c', hf, rfl, rfl⟩
  refine ⟨rfl, ?_⟩
  have hb := pairs_best ex16_right hf (nl := 2) (nr := 2) rfl rfl
  have hlist := ex16_only hb.1 (hb.2 _ ex16_match)
  rw [hlist]
  refine JL_know (own_is 0 rfl) fun ⟨_, _, hA, hl1⟩ => ?_
  obtain ⟨g3, hA⟩ := own_at hA hl1
  refine JL_all [] rfl ?_
  (repeat' (first | refine J_seq ?_ | refine J_skip ?_ | refine J_yes rfl ?_ | refine J_no rfl ?_))
  refine J_region ?_
  refine JL_run [] rfl ?_
  refine JL_set 14 (v' := .bool true) rfl (congrArg Value.bool (cdec_yes rfl)) ?_
  refine JL_run [2] rfl ?_
  refine JL_litG [2] rfl rfl rfl rfl rfl rfl rfl (fun _ => rfl) fun g4 => ?_
  refine JL_callR [2] (same16_fn A' c' g3 0 [1, 2] (fun _ => hA (by decide)) (by decide) (some ⟨g4, 0, none⟩) 2 g4 0 [1, 2] (fun _ => rfl)) rfl rfl rfl rfl (by kernel_rfl) ⟨⟨1, _, by simp, rfl, shows_ownS hA, seen_ownS hA⟩, ⟨0, _, by simp, rfl, shows_blk _ _ _ (0, 0), .inr rfl⟩, trivial⟩ (fun _ => rfl) ?_
  rintro v H' ⟨rfl, rfl⟩
  refine ⟨rfl, ?_⟩
  refine JL_all [2] rfl ?_
  refine J_drop [] (by decide) rfl (J_ret ⟨_, rfl, congrArg Value.bool (cdec_yes rfl), rfl⟩)
/-! ### A path -/
end Go.Proofs.Ytcgcimnjknadjaa
