
/- DimacsPrints: both ways to write a network tell the same text, or the same error. No condition but what the row lists. -/
import Derived.Test.YtkiadfpkgpgbiaaGreatDoorDimaS
import Derived.Test.YtkiadfpkgpgbiaaGreatDoorRefV
set_option linter.unusedVariables false
set_option linter.unusedSimpArgs false
namespace Go.Proofs.YtkiadfpkgpgbiaaGreatDoor
open Go.RowKit
open Lib
theorem dimacsPrints_fn (V : LibV) (nd : Int) (hnd : inB nd) (sr : Int) (hsr : inB sr) (sk : Int) (hsk : inB sk) (A : Option Addr) (c b o : Nat) (l : List Arc) (hA : l ≠ [] → A = some ⟨b, o, none⟩) (hl : ∀ x ∈ l, inB x.fr ∧ inB x.to ∧ inB x.cap) (hs : l.length * 24 ≤ 140737488351232) :
    Fn 3 [.agg #[.int .i64 nd, .int .i64 sr, .int .i64 sk, .slice A l.length c]] [] ([.seg b o (arcs l)] ++ V.heap) fun v _ => v = .bool true := by
  obtain ⟨N, hN⟩ : ∃ N : Net, N = ⟨nd, sr, sk, l⟩ := ⟨_, rfl⟩
  have hF : N.Fits := by rw [hN]; exact ⟨hnd, hsr, hsk, hs, hl⟩
  have hA' : N.arcs ≠ [] → A = some ⟨b, o, none⟩ := by rw [hN]; exact hA
  have key : Fn 3 [netV N A c] [] ([.seg b o (arcs N.arcs)] ++ V.heap) fun v _ => v = .bool true := by
    clear hN hnd hsr hsk hs hl hA
    refine Fn_of Tryz.func3 rfl rfl fun w0 => ?_
    (repeat' (first | refine J_seq ?_ | refine J_skip ?_ | refine J_yes rfl ?_ | refine J_no rfl ?_))
    refine J_region ?_
    refine JL_box (cs := netC N A c) rfl rfl rfl (fun _ => rfl) fun p1 => ?_
    refine JL_all [] rfl ?_
    (repeat' (first | refine J_seq ?_ | refine J_skip ?_ | refine J_yes rfl ?_ | refine J_no rfl ?_))
    refine J_region ?_
    refine JL_callR [] (shown4_fn V) rfl rfl rfl rfl (by kernel_rfl) ⟨⟨2, by simp, rfl⟩, ⟨3, by simp, rfl⟩, ⟨4, by simp, rfl⟩, trivial⟩ (fun _ => rfl) ?_
    rintro v H' ⟨rfl, rfl⟩
    refine ⟨rfl, ?_⟩
    refine JL_all [] rfl ?_
    refine J_seq ?_
    (repeat' (first | refine J_seq ?_ | refine J_skip ?_ | refine J_yes rfl ?_ | refine J_no rfl ?_))
    refine J_region ?_
    refine JL_run [] rfl ?_
    refine JL_set 11 (v' := .bool false) rfl rfl ?_
    refine JL_run [2] rfl ?_
    refine JL_val [2] (OpV_blk (i := 3) (v := .slice A N.arcs.length c) 0 rfl rfl rfl rfl) rfl ?_
    refine JL_all [2] rfl ?_
    refine J_dec rfl (fun _ => ?_) (fun h300 => J_skip ?_)
    · (repeat' (first | refine J_seq ?_ | refine J_skip ?_ | refine J_yes rfl ?_ | refine J_no rfl ?_))
      refine J_region ?_
      refine JL_all [] rfl ?_
      exact J_ret ⟨_, rfl, rfl⟩
    (repeat' (first | refine J_seq ?_ | refine J_skip ?_ | refine J_yes rfl ?_ | refine J_no rfl ?_))
    refine J_region ?_
    refine JL_val [] (v := netV N A c) (OpV_blk (i := 0) 0 rfl rfl rfl rfl) rfl ?_
    refine JL_callR [] (print_fn V N hF A c b o hA') rfl rfl rfl rfl (by kernel_rfl) ⟨⟨1, _, by simp, rfl, shows_seg _ _ _, seen_seg⟩, ⟨2, by simp, rfl⟩, ⟨3, by simp, rfl⟩, ⟨4, by simp, rfl⟩, trivial⟩ (fun _ => rfl) ?_
    rintro v H' ⟨rfl, rfl⟩
    refine ⟨rfl, ?_⟩
    refine JL_all [] rfl ?_
    (repeat' (first | refine J_seq ?_ | refine J_skip ?_ | refine J_yes rfl ?_ | refine J_no rfl ?_))
    refine J_region ?_
    refine JL_val [] (v := netV N A c) (OpV_blk (i := 0) 0 rfl rfl rfl rfl) rfl ?_
    refine JL_callR [] (rprint_fn N hF A c b o hA') rfl rfl rfl rfl (by kernel_rfl) ⟨⟨1, _, by simp, rfl, shows_seg _ _ _, seen_seg⟩, trivial⟩ (fun _ => rfl) ?_
    rintro v H' ⟨rfl, rfl⟩
    refine ⟨rfl, ?_⟩
    refine JL_all [] rfl ?_
    (repeat' (first | refine J_seq ?_ | refine J_skip ?_ | refine J_yes rfl ?_ | refine J_no rfl ?_))
    refine J_region ?_
    refine JL_run [] rfl ?_
    refine JL_set 31 (v' := .bool true) rfl (by rw [eq_str]; exact congrArg Value.bool (cdec_yes rfl)) ?_
    refine JL_all [3] rfl ?_
    refine J_ret ⟨_, rfl, congrArg Value.bool (cdec_yes rfl)⟩
  rw [hN] at key
  exact key
end Go.Proofs.YtkiadfpkgpgbiaaGreatDoor
