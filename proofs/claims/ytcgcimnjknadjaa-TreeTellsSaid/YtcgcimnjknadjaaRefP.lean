
/- The references' words: flows checked, and their room. -/
import Derived.Test.YtcgcimnjknadjaaRefO
set_option linter.unusedVariables false
set_option linter.unusedSimpArgs false
namespace Go.Proofs.Ytcgcimnjknadjaa
open Go.RowKit
theorem wrong_range {N : Net} {f : List Int} (h : rangeZ N f ≠ 0) : wrongZ N f = rangeZ N f := by
  unfold wrongZ rangeZ at *
  by_cases hc : checkZ N ≠ 0
  · rw [if_pos hc, if_pos hc]
  · rw [if_neg hc] at h
    rw [if_neg hc, if_neg hc]
    unfold flowZ
    rw [if_pos h]
theorem range_zero {N : Net} {f : List Int} (h : rangeZ N f = 0) : N.Right ∧ Ranged N f ∧ wrongZ N f = flowZ N f := by
  unfold rangeZ at h
  by_cases hc : checkZ N ≠ 0
  · rw [if_pos hc] at h; exact absurd h hc
  · rw [if_neg hc] at h
    refine ⟨checkZ_zero (Classical.not_not.1 hc), withinZ_zero.1 h, ?_⟩
    unfold wrongZ; rw [if_neg hc]
theorem wrong_zero {N : Net} {f : List Int} : wrongZ N f = 0 ↔ N.Right ∧ IsFlow N f := by
  constructor
  · intro h
    unfold wrongZ at h
    by_cases hc : checkZ N ≠ 0
    · rw [if_pos hc] at h; exact absurd h hc
    · rw [if_neg hc] at h
      exact ⟨checkZ_zero (Classical.not_not.1 hc), flowZ_zero.1 h⟩
  · rintro ⟨hR, hf⟩
    unfold wrongZ
    rw [if_neg (fun h => h hR.check)]
    exact flowZ_zero.2 hf
set_option maxHeartbeats 1000000 in
theorem rflow_fn (N : Net) (hN : N.Fits) (A : Option Addr) (c b o : Nat) (hA : N.arcs ≠ [] → A = some ⟨b, o, none⟩) (f : List Int) (F : Option Addr) (cf bf of : Nat) (hF : f ≠ [] → F = some ⟨bf, of, none⟩) (hf : ∀ x ∈ f, inB x) (hfl : f.length * 8 ≤ 140737488351232) :
    Fn 106 [netV N A c, .slice F f.length cf] [] [.seg b o (arcs N.arcs), .seg bf of (ints f)] fun v H' => v = .int .i64 (wrongZ N f) ∧ H' = [] := by
  refine Fn_of Try.func106 rfl rfl fun w0 => ?_
  (repeat' (first | refine J_seq ?_ | refine J_skip ?_ | refine J_yes rfl ?_ | refine J_no rfl ?_))
  refine J_region ?_
  refine JL_box (cs := netC N A c) rfl rfl rfl (fun _ => rfl) fun p => ?_
  refine JL_all [] rfl ?_
  (repeat' (first | refine J_seq ?_ | refine J_skip ?_ | refine J_yes rfl ?_ | refine J_no rfl ?_))
  refine J_region ?_
  refine JL_val [] (v := netV N A c) (OpV_blk 0 rfl rfl rfl rfl) rfl ?_
  refine JL_run [] rfl ?_
  refine JL_callR [] (rwithin_fn N hN A c b o hA f F cf bf of hF hf hfl) rfl rfl rfl rfl (by kernel_rfl) ⟨⟨1, _, by simp, rfl, shows_seg _ _ _, seen_seg⟩, ⟨2, _, by simp, rfl, shows_seg _ _ _, seen_seg⟩, trivial⟩ (fun _ => rfl) ?_
  rintro v H' ⟨rfl, rfl⟩
  refine ⟨rfl, ?_⟩
  refine JL_all [] rfl ?_
  (repeat' (first | refine J_seq ?_ | refine J_skip ?_ | refine J_yes rfl ?_ | refine J_no rfl ?_))
  refine J_region ?_
  refine JL_all [] rfl ?_
  refine J_dec rfl (fun h => ?_) (fun hz => J_skip ?_)
  · (repeat' (first | refine J_seq ?_ | refine J_skip ?_ | refine J_yes rfl ?_ | refine J_no rfl ?_))
    refine J_region ?_
    refine JL_all [] rfl ?_
    refine J_drop [] (by decide) rfl (J_ret ⟨_, rfl, ?_, rfl⟩)
    rw [wrong_range h]; rfl
  obtain ⟨hR, hr, hw⟩ := range_zero (Classical.not_not.1 hz)
  rw [hw]
  have hnn := hR.nodes
  obtain ⟨n, hn⟩ : ∃ n : Nat, N.nodes = n := ⟨N.nodes.toNat, by omega⟩
  (repeat' (first | refine J_seq ?_ | refine J_skip ?_ | refine J_yes rfl ?_ | refine J_no rfl ?_))
  refine J_region ?_
  refine JL_all [] rfl ?_
  (repeat' (first | refine J_seq ?_ | refine J_skip ?_ | refine J_yes rfl ?_ | refine J_no rfl ?_))
  refine J_block ?_
  refine J_loopF (σ := Nat) (fun k => [(6, .int .i64 ((k + 1 : Nat) : Int)), (1, .slice F f.length cf), (2, .pointer (some ⟨p, 0, none⟩))])
    (fun k => [blk p 26 (netC N A c), .seg b o (arcs N.arcs), .seg bf of (ints f)]) (fun k => k ≤ n ∧ ∀ v : Int, 1 ≤ v ∧ v ≤ k → v ≠ N.src → v ≠ N.snk → exZ (N.arcs.zip f) v = 0) (fun k => n - k)
    0 ⟨rfl, rfl, rfl, trivial⟩ Fit.refl ⟨Nat.zero_le _, fun v hv => by omega⟩ ?_
  rintro k ⟨hk, hall⟩
  (repeat' (first | refine J_seq ?_ | refine J_skip ?_ | refine J_yes rfl ?_ | refine J_no rfl ?_))
  refine J_region ?_
  refine JL_run [] rfl ?_
  refine JL_val [] (v := .int .i64 N.nodes) (OpV_blk 0 rfl rfl rfl rfl) rfl ?_
  refine JL_all [] rfl ?_
  (repeat' (first | refine J_seq ?_ | refine J_skip ?_ | refine J_yes rfl ?_ | refine J_no rfl ?_))
  refine J_dec rfl (fun hlt => J_skip ?_) (fun hge => J_exit ?_)
  · have hkn : k < n := by omega
    refine J_seq (J_block ?_)
    refine J_cut [(35, .bool (cdec (((k + 1 : Nat) : Int) ≠ N.src ∧ ((k + 1 : Nat) : Int) ≠ N.snk ∧ exZ (N.arcs.zip f) ((k + 1 : Nat) : Int) ≠ 0))), (6, .int .i64 ((k + 1 : Nat) : Int)), (1, .slice F f.length cf), (2, .pointer (some ⟨p, 0, none⟩))] [blk p 26 (netC N A c), .seg b o (arcs N.arcs), .seg bf of (ints f)] ?_ ?_
    · (repeat' (first | refine J_seq ?_ | refine J_skip ?_ | refine J_yes rfl ?_ | refine J_no rfl ?_))
      refine J_region ?_
      refine JL_run [] rfl ?_
      refine JL_val [] (v := .int .i64 N.src) (OpV_blk 0 rfl rfl rfl rfl) rfl ?_
      refine JL_evO (gs := [999]) rfl ?_
      refine JL_evO (gs := [999]) rfl ?_
      by_cases h1 : ((k + 1 : Nat) : Int) ≠ N.src
      case neg =>
        refine JL_set 23 (v' := .bool false) rfl (congrArg Value.bool (cdec_no h1)) ?_
        refine JL_all [4, 10] rfl ?_
        exact ⟨[0, 1, 2], ⟨congrArg some (congrArg Value.bool (cdec_no (fun h => h1 h.1)).symm), rfl, rfl, rfl, trivial⟩, by decide, rfl⟩
      refine JL_set 23 (v' := .bool true) rfl (congrArg Value.bool (cdec_yes h1)) ?_
      refine JL_run [4] rfl ?_
      refine JL_val [4] (v := .int .i64 N.snk) (OpV_blk 0 rfl rfl rfl rfl) rfl ?_
      refine JL_run [4] rfl ?_
      by_cases h2 : ((k + 1 : Nat) : Int) ≠ N.snk
      case neg =>
        refine JL_set 29 (v' := .bool false) rfl (congrArg Value.bool (cdec_no h2)) ?_
        refine JL_all [4, 10] rfl ?_
        exact ⟨[0, 1, 2], ⟨congrArg some (congrArg Value.bool (cdec_no (fun h => h2 h.2.1)).symm), rfl, rfl, rfl, trivial⟩, by decide, rfl⟩
      refine JL_set 29 (v' := .bool true) rfl (congrArg Value.bool (cdec_yes h2)) ?_
      refine JL_run [4, 10] rfl ?_
      refine JL_val [4, 10] (v := netV N A c) (OpV_blk 0 rfl rfl rfl rfl) rfl ?_
      refine JL_run [4, 10] rfl ?_
      refine JL_callR [4, 10] (rexcess_fn N hR A c b o hA f hr F cf bf of hF ((k + 1 : Nat) : Int)) rfl rfl rfl rfl (by kernel_rfl) ⟨⟨1, _, by simp, rfl, shows_seg _ _ _, seen_seg⟩, ⟨2, _, by simp, rfl, shows_seg _ _ _, seen_seg⟩, trivial⟩ (fun _ => rfl) ?_
      rintro v H' ⟨rfl, rfl⟩
      refine ⟨rfl, ?_⟩
      refine JL_all [4, 10] rfl ?_
      exact ⟨[0, 1, 2], ⟨congrArg some (congrArg Value.bool (cdec_iff ⟨fun h => ⟨h1, h2, h⟩, fun h => h.2.2⟩)), rfl, rfl, rfl, trivial⟩, by decide, rfl⟩
    · refine J_dec rfl (fun h1 => ?_) (fun h1 => J_skip ?_)
      · (repeat' (first | refine J_seq ?_ | refine J_skip ?_ | refine J_yes rfl ?_ | refine J_no rfl ?_))
        refine J_region ?_
        refine JL_all [] rfl ?_
        refine J_drop [] (by decide) rfl (J_ret ⟨_, rfl, ?_, rfl⟩)
        rw [flowZ_no hr (fun h => h1.2.2 (h _ ⟨by omega, by omega⟩ h1.1 h1.2.1))]; rfl
      (repeat' (first | refine J_seq ?_ | refine J_skip ?_ | refine J_yes rfl ?_ | refine J_no rfl ?_))
      refine J_region ?_
      refine JL_all [] rfl ?_
      refine ⟨k + 1, ⟨?_, rfl, rfl, trivial⟩, Fit.refl, ⟨by omega, fun v hv h2 h3 => ?_⟩, by omega⟩
      · show some (Value.int .i64 (IntKind.i64.wrap (((k + 1 : Nat) : Int) + 1))) = _
        rw [w64 (by omega)]; rfl
      · by_cases e : v = ((k + 1 : Nat) : Int)
        · subst e
          exact Classical.byContradiction fun h => h1 ⟨h2, h3, h⟩
        · exact hall v (by omega) h2 h3
  · obtain rfl : k = n := by omega
    (repeat' (first | refine J_seq ?_ | refine J_skip ?_ | refine J_yes rfl ?_ | refine J_no rfl ?_))
    refine J_region ?_
    refine JL_all [] rfl ?_
    refine J_drop [] (by decide) rfl (J_ret ⟨_, rfl, ?_, rfl⟩)
    rw [flowZ_yes hr (fun v hv h2 h3 => hall v (by omega) h2 h3)]; rfl
end Go.Proofs.Ytcgcimnjknadjaa
