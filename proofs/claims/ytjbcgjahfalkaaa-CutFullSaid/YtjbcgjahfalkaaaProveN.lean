
/- Whether a flow and a cut prove one another: of a right network, a flow and a cut. -/
import Derived.Test.YtjbcgjahfalkaaaRoutedN
set_option linter.unusedVariables false
set_option linter.unusedSimpArgs false
namespace Go.Proofs.Ytjbcgjahfalkaaa
open Go.RowKit
set_option maxHeartbeats 1000000 in
theorem prove_fn (N : Net) (hN : N.Fits) (hR : N.Right) (A : Option Addr) (c b o : Nat) (hA : N.arcs ≠ [] → A = some ⟨b, o, none⟩) (f : List Int) (hf : IsFlow N f) (F : Option Addr) (cf bf of : Nat) (hF : f ≠ [] → F = some ⟨bf, of, none⟩)
    (s : List Int) (hs : IsCut N s) (hsl : s.length ≤ 100000) (S : Option Addr) (cs bs os : Nat) (hS : s ≠ [] → S = some ⟨bs, os, none⟩) :
    Fn 30 [netV N A c, .slice F f.length cf, .slice S s.length cs] [] [.seg b o (arcs N.arcs), .seg bf of (ints f), .seg bs os (ints s)] fun v H' => v = .int .i64 (if exZ (N.arcs.zip f) N.snk = capZ s N.arcs then 0 else 8) ∧ H' = [] := by
  have hl2 := hR.len
  have hfl := hf.len
  refine Fn_of Try.func30 rfl rfl fun w0 => ?_
  (repeat' (first | refine J_seq ?_ | refine J_skip ?_ | refine J_yes rfl ?_ | refine J_no rfl ?_))
  refine J_region ?_
  refine JL_box (cs := netC N A c) rfl rfl rfl (fun _ => rfl) fun p => ?_
  refine JL_all [] rfl ?_
  (repeat' (first | refine J_seq ?_ | refine J_skip ?_ | refine J_yes rfl ?_ | refine J_no rfl ?_))
  refine J_region ?_
  refine JL_val [] (v := netV N A c) (OpV_blk 0 rfl rfl rfl rfl) rfl ?_
  refine JL_run [] rfl ?_
  refine JL_callR [] (fvalue_fn N hN hR A c b o hA f F cf bf of hF (IsFlow.inB hR hf.toRanged) (by omega)) rfl rfl rfl rfl (by kernel_rfl) ⟨⟨1, _, by simp, rfl, shows_seg _ _ _, seen_seg⟩, ⟨2, _, by simp, rfl, shows_seg _ _ _, seen_seg⟩, trivial⟩ (fun _ => rfl) ?_
  rintro v H' ⟨⟨rfl, _⟩ | ⟨_, h⟩, rfl⟩
  case inr => exact absurd hf h
  refine ⟨rfl, ?_⟩
  refine JL_all [] rfl ?_
  (repeat' (first | refine J_seq ?_ | refine J_skip ?_ | refine J_yes rfl ?_ | refine J_no rfl ?_))
  refine J_region ?_
  refine JL_all [] rfl ?_
  refine J_dec rfl (fun h => absurd rfl h) (fun _ => J_skip ?_)
  (repeat' (first | refine J_seq ?_ | refine J_skip ?_ | refine J_yes rfl ?_ | refine J_no rfl ?_))
  refine J_region ?_
  refine JL_val [] (v := netV N A c) (OpV_blk 0 rfl rfl rfl rfl) rfl ?_
  refine JL_run [] rfl ?_
  refine JL_callR [] (capacity_fn N hN hR A c b o hA s hs hsl S cs bs os hS) rfl rfl rfl rfl (by kernel_rfl) ⟨⟨1, _, by simp, rfl, shows_seg _ _ _, seen_seg⟩, ⟨3, _, by simp, rfl, shows_seg _ _ _, seen_seg⟩, trivial⟩ (fun _ => rfl) ?_
  rintro v H' ⟨rfl, rfl⟩
  refine ⟨rfl, ?_⟩
  refine JL_all [] rfl ?_
  (repeat' (first | refine J_seq ?_ | refine J_skip ?_ | refine J_yes rfl ?_ | refine J_no rfl ?_))
  refine J_block ?_
  (repeat' (first | refine J_seq ?_ | refine J_skip ?_ | refine J_yes rfl ?_ | refine J_no rfl ?_))
  refine J_region ?_
  refine JL_all [] rfl ?_
  refine J_dec rfl (fun h => absurd rfl h) (fun _ => ?_)
  (repeat' (first | refine J_seq ?_ | refine J_skip ?_ | refine J_yes rfl ?_ | refine J_no rfl ?_))
  refine J_region ?_
  refine JL_all [] rfl ?_
  refine J_dec rfl (fun h => ?_) (fun h => J_skip ?_)
  · (repeat' (first | refine J_seq ?_ | refine J_skip ?_ | refine J_yes rfl ?_ | refine J_no rfl ?_))
    refine J_region ?_
    refine JL_all [] rfl ?_
    refine J_drop [] (by decide) rfl (J_ret ⟨_, rfl, congrArg (Value.int .i64) (if_neg h).symm, rfl⟩)
  · (repeat' (first | refine J_seq ?_ | refine J_skip ?_ | refine J_yes rfl ?_ | refine J_no rfl ?_))
    refine J_region ?_
    refine JL_all [] rfl ?_
    refine J_drop [] (by decide) rfl (J_ret ⟨_, rfl, congrArg (Value.int .i64) (if_pos (Classical.not_not.1 h)).symm, rfl⟩)
end Go.Proofs.Ytjbcgjahfalkaaa
