
/- The other way to write a network. -/
import Derived.Test.YtkiadfpkgpgbiaaGreatDoorDimaV
import Derived.Test.YtkiadfpkgpgbiaaGreatDoorRefW
import Derived.Test.YtkiadfpkgpgbiaaGreatDoorRefN
set_option linter.unusedVariables false
set_option linter.unusedSimpArgs false
namespace Go.Proofs.YtkiadfpkgpgbiaaGreatDoor
open Go.RowKit
open Lib
theorem arcs_len (N : Net) (hF : N.Fits) (l : List Arc) (h : ∀ a ∈ l, a ∈ N.arcs) : ((l.map arcT).flatten).length ≤ l.length * 70 := by
  induction l with
  | nil => simp
  | cons a l ih =>
    have h1 := hF.arc a (h a (by simp))
    have h2 := ih fun x hx => h x (by simp [hx])
    have h3 := wrL_len [97] [a.fr, a.to, a.cap] (fun n hn => by simp at hn; rcases hn with rfl | rfl | rfl; exact h1.1; exact h1.2.1; exact h1.2.2)
    simp only [List.map_cons, List.flatten_cons, List.length_append, List.length_cons, arcT, List.length_nil] at *
    omega
theorem head_len (N : Net) (hF : N.Fits) : (printH N).length ≤ 400 := by
  have hl : inB (N.arcs.length : Int) := by have := hF.len; unfold inB; omega
  have h1 := wrL_len [112, 32, 109, 97, 120] [N.nodes, N.arcs.length] (fun n hn => by simp at hn; rcases hn with rfl | rfl; exact hF.nodes; exact hl)
  have hws := wrL_len [110] [N.src] (fun n hn => by simp at hn; subst hn; exact hF.src)
  have hwt := wrL_len [110] [N.snk] (fun n hn => by simp at hn; subst hn; exact hF.snk)
  unfold printH
  simp only [List.length_append, List.length_cons, List.length_nil] at *
  omega
theorem itoa20 {n : Int} (h : inB n) : (itoa n).length ≤ 20 := by unfold inB at h; exact (itoa_len n (by omega)).2
set_option maxHeartbeats 1000000 in
theorem rprint_fn (N : Net) (hF : N.Fits) (A : Option Addr) (c b o : Nat) (hA : N.arcs ≠ [] → A = some ⟨b, o, none⟩) : Fn 9 [netV N A c] [] [.seg b o (arcs N.arcs)] fun v H' => v = printV N ∧ H' = [] := by
  refine Fn_of Tryz.func9 rfl rfl fun w0 => ?_
  (repeat' (first | refine J_seq ?_ | refine J_skip ?_ | refine J_yes rfl ?_ | refine J_no rfl ?_))
  refine J_region ?_
  refine JL_box (cs := netC N A c) rfl rfl rfl (fun _ => rfl) fun p1 => ?_
  refine JL_all [] rfl ?_
  refine J_seq ?_
  (repeat' (first | refine J_seq ?_ | refine J_skip ?_ | refine J_yes rfl ?_ | refine J_no rfl ?_))
  refine J_region ?_
  refine JL_val [] (v := netV N A c) (OpV_blk 0 rfl rfl rfl rfl) rfl ?_
  refine JL_callR [] (rcheck_fn N hF A c b o hA) rfl rfl rfl rfl (by kernel_rfl) ⟨⟨1, _, by simp, rfl, shows_seg _ _ _, seen_seg⟩, trivial⟩ (fun _ => rfl) ?_
  rintro v H' ⟨rfl, rfl⟩
  refine ⟨rfl, ?_⟩
  refine JL_all [] rfl ?_
  refine J_dec rfl (fun hz => ?_) (fun hz => J_skip ?_)
  · (repeat' (first | refine J_seq ?_ | refine J_skip ?_ | refine J_yes rfl ?_ | refine J_no rfl ?_))
    refine J_region ?_
    refine JL_all [] rfl ?_
    refine J_drop [] (by decide) rfl (J_ret ⟨_, rfl, ?_, rfl⟩)
    unfold printV
    rw [if_neg hz, if_neg hz]; rfl
  have hz0 : checkZ N = 0 := Classical.not_not.1 hz
  have hR := checkZ_zero hz0
  have hnn := hR.nodes
  have hln := hR.len
  have hlB : inB (N.arcs.length : Int) := by unfold inB; omega
  have i1 := itoa20 hF.nodes
  have i2 := itoa20 hlB
  have i3 := itoa20 hF.src
  have i4 := itoa20 hF.snk
  (repeat' (first | refine J_seq ?_ | refine J_skip ?_ | refine J_yes rfl ?_ | refine J_no rfl ?_))
  refine J_walk 22 [(0, true), (1, true), (5, true), (6, true), (7, true), (11, true), (12, true), (16, true), (17, true), (2, false), (3, true), (4, true), (8, false), (9, true), (10, true), (13, false), (14, true), (15, true), (18, false), (19, true), (20, true), (21, true)] [0] (by kernel_rfl) (by decide) rfl ?_
  refine JW_run [] rfl ?_
  refine JW_still [] rfl (OpV_blk (i := 0) (v := .int .i64 N.nodes) 0 rfl rfl rfl rfl) rfl ?_
  refine JW_run [] rfl ?_
  refine JW_still [] rfl (OpV_blk (i := 3) (v := .slice A N.arcs.length c) 0 rfl rfl rfl rfl) rfl ?_
  refine JW_run [] rfl ?_
  refine JW_still [] rfl (OpV_blk (i := 1) (v := .int .i64 N.src) 0 rfl rfl rfl rfl) rfl ?_
  refine JW_run [] rfl ?_
  refine JW_still [] rfl (OpV_blk (i := 2) (v := .int .i64 N.snk) 0 rfl rfl rfl rfl) rfl ?_
  refine JW_eff rfl ?_
  refine JL_callR [] (rwrite_fn _ (hF.nodes)) rfl rfl rfl rfl (by kernel_rfl) trivial (fun _ => rfl) ?_
  rintro v H' ⟨rfl, rfl⟩
  refine ⟨rfl, JL_nil ⟨⟨[0], by decide, rfl⟩, ?_⟩⟩
  refine JW_still [] rfl (OpV_cat (l := [112, 32, 109, 97, 120, 32]) rfl rfl rfl (by simp only [List.length_append, List.length_cons, List.length_nil]; omega)) rfl ?_
  refine JW_still [] rfl (OpV_cat (m := [32]) rfl rfl rfl (by simp only [List.length_append, List.length_cons, List.length_nil]; omega)) rfl ?_
  refine JW_eff rfl ?_
  refine JL_callR [] (rwrite_fn _ (hlB)) rfl rfl rfl rfl (by kernel_rfl) trivial (fun _ => rfl) ?_
  rintro v H' ⟨rfl, rfl⟩
  refine ⟨rfl, JL_nil ⟨⟨[0], by decide, rfl⟩, ?_⟩⟩
  refine JW_still [] rfl (OpV_cat rfl rfl rfl (by simp only [List.length_append, List.length_cons, List.length_nil]; omega)) rfl ?_
  refine JW_still [] rfl (OpV_cat (m := [10, 110, 32]) rfl rfl rfl (by simp only [List.length_append, List.length_cons, List.length_nil]; omega)) rfl ?_
  refine JW_eff rfl ?_
  refine JL_callR [] (rwrite_fn _ (hF.src)) rfl rfl rfl rfl (by kernel_rfl) trivial (fun _ => rfl) ?_
  rintro v H' ⟨rfl, rfl⟩
  refine ⟨rfl, JL_nil ⟨⟨[0], by decide, rfl⟩, ?_⟩⟩
  refine JW_still [] rfl (OpV_cat rfl rfl rfl (by simp only [List.length_append, List.length_cons, List.length_nil]; omega)) rfl ?_
  refine JW_still [] rfl (OpV_cat (m := [32, 115, 10, 110, 32]) rfl rfl rfl (by simp only [List.length_append, List.length_cons, List.length_nil]; omega)) rfl ?_
  refine JW_eff rfl ?_
  refine JL_callR [] (rwrite_fn _ (hF.snk)) rfl rfl rfl rfl (by kernel_rfl) trivial (fun _ => rfl) ?_
  rintro v H' ⟨rfl, rfl⟩
  refine ⟨rfl, JL_nil ⟨⟨[0], by decide, rfl⟩, ?_⟩⟩
  refine JW_still [] rfl (OpV_cat rfl rfl rfl (by simp only [List.length_append, List.length_cons, List.length_nil]; omega)) rfl ?_
  refine JW_still [] rfl (OpV_cat (m := [32, 116, 10]) rfl rfl rfl (by simp only [List.length_append, List.length_cons, List.length_nil]; omega)) rfl ?_
  refine JW_all [] rfl ?_
  refine JL_nil ?_
  refine J_set 4 (v' := str (printH N)) rfl (congrArg str (by simp [printH, wrL_eq])) ?_
  have hHl := head_len N hF
  (repeat' (first | refine J_seq ?_ | refine J_skip ?_ | refine J_yes rfl ?_ | refine J_no rfl ?_))
  refine J_region ?_
  refine JL_all [] rfl ?_
  (repeat' (first | refine J_seq ?_ | refine J_skip ?_ | refine J_yes rfl ?_ | refine J_no rfl ?_))
  refine J_block ?_
  refine J_loop (σ := Nat) (fun k => [(5, .int .i64 k), (1, .pointer (some ⟨p1, 0, none⟩)), (4, str (printH N ++ ((N.arcs.take k).map arcT).flatten))]) (fun _ => [blk p1 24 (netC N A c), .seg b o (arcs N.arcs)])
    (fun k => k ≤ N.arcs.length) (fun k => N.arcs.length - k) 0 [0, 1] ⟨rfl, rfl, (show some (str (printH N)) = some (str _) by simp), trivial⟩ (by decide) rfl (Nat.zero_le _) ?_
  intro k hk
  refine J_seq ?_
  refine J_seq ?_
  (repeat' (first | refine J_seq ?_ | refine J_skip ?_ | refine J_yes rfl ?_ | refine J_no rfl ?_))
  refine J_region ?_
  refine JL_run [] rfl ?_
  refine JL_val [] (OpV_blk (i := 3) (v := .slice A N.arcs.length c) 0 rfl rfl rfl rfl) rfl ?_
  refine JL_all [] rfl ?_
  refine J_dec rfl (fun hlt => J_skip ?_) (fun hge => J_exit ?_)
  · have hlt' : k < N.arcs.length := by omega
    obtain ⟨a, ha⟩ : ∃ a, N.arcs[k]? = some a := ⟨N.arcs[k], List.getElem?_eq_getElem hlt'⟩
    obtain rfl := hA (by intro h; rw [h] at hlt'; simp at hlt')
    have haB := hF.arc a (List.mem_of_getElem? ha)
    have j1 := itoa20 haB.1
    have j2 := itoa20 haB.2.1
    have j3 := itoa20 haB.2.2
    have hul := arcs_len N hF (N.arcs.take k) (fun x hx => List.mem_of_mem_take hx)
    rw [List.length_take] at hul
    refine J_seq (J_block ?_)
    refine J_seq ?_
    (repeat' (first | refine J_seq ?_ | refine J_skip ?_ | refine J_yes rfl ?_ | refine J_no rfl ?_))
    refine J_region ?_
    refine JL_run [] rfl ?_
    refine JL_val [] (OpV_blk (i := 3) (v := .slice (some ⟨b, o, none⟩) N.arcs.length c) 0 rfl rfl rfl rfl) rfl ?_
    refine JL_run [] rfl ?_
    refine JL_val [] (idxN rfl rfl rfl rfl rfl hlt') rfl ?_
    refine JL_val [] (ldseg 1 rfl rfl rfl rfl (readT_arc ha)) rfl ?_
    refine JL_alloc rfl rfl rfl (fun _ => rfl) fun p6 => ?_
    refine JL_store 0 rfl rfl rfl rfl rfl [] rfl ?_
    refine JL_all [] rfl ?_
    (repeat' (first | refine J_seq ?_ | refine J_skip ?_ | refine J_yes rfl ?_ | refine J_no rfl ?_))
    refine J_walk 18 [(0, true), (1, true), (2, true), (3, true), (7, true), (8, true), (12, true), (13, true), (4, false), (5, true), (6, true), (9, false), (10, true), (11, true), (14, false), (15, true), (16, true), (17, true)] [0] (by kernel_rfl) (by decide) rfl ?_
    refine JW_run [] rfl ?_
    refine JW_still [] rfl (OpV_cat (m := [97, 32]) rfl rfl rfl (by simp only [List.length_append, List.length_cons, List.length_nil]; omega)) rfl ?_
    refine JW_run [] rfl ?_
    refine JW_still [] rfl (OpV_blk (i := 0) (v := .int .i64 a.fr) 0 rfl rfl rfl rfl) rfl ?_
    refine JW_run [] rfl ?_
    refine JW_still [] rfl (OpV_blk (i := 1) (v := .int .i64 a.to) 0 rfl rfl rfl rfl) rfl ?_
    refine JW_run [] rfl ?_
    refine JW_still [] rfl (OpV_blk (i := 2) (v := .int .i64 a.cap) 0 rfl rfl rfl rfl) rfl ?_
    refine JW_eff rfl ?_
    refine JL_callR [] (rwrite_fn _ (haB.1)) rfl rfl rfl rfl (by kernel_rfl) trivial (fun _ => rfl) ?_
    rintro v H' ⟨rfl, rfl⟩
    refine ⟨rfl, JL_nil ⟨⟨[0], by decide, rfl⟩, ?_⟩⟩
    refine JW_still [] rfl (OpV_cat rfl rfl rfl (by simp only [List.length_append, List.length_cons, List.length_nil]; omega)) rfl ?_
    refine JW_still [] rfl (OpV_cat (m := [32]) rfl rfl rfl (by simp only [List.length_append, List.length_cons, List.length_nil]; omega)) rfl ?_
    refine JW_eff rfl ?_
    refine JL_callR [] (rwrite_fn _ (haB.2.1)) rfl rfl rfl rfl (by kernel_rfl) trivial (fun _ => rfl) ?_
    rintro v H' ⟨rfl, rfl⟩
    refine ⟨rfl, JL_nil ⟨⟨[0], by decide, rfl⟩, ?_⟩⟩
    refine JW_still [] rfl (OpV_cat rfl rfl rfl (by simp only [List.length_append, List.length_cons, List.length_nil]; omega)) rfl ?_
    refine JW_still [] rfl (OpV_cat (m := [32]) rfl rfl rfl (by simp only [List.length_append, List.length_cons, List.length_nil]; omega)) rfl ?_
    refine JW_eff rfl ?_
    refine JL_callR [] (rwrite_fn _ (haB.2.2)) rfl rfl rfl rfl (by kernel_rfl) trivial (fun _ => rfl) ?_
    rintro v H' ⟨rfl, rfl⟩
    refine ⟨rfl, JL_nil ⟨⟨[0], by decide, rfl⟩, ?_⟩⟩
    refine JW_still [] rfl (OpV_cat rfl rfl rfl (by simp only [List.length_append, List.length_cons, List.length_nil]; omega)) rfl ?_
    refine JW_still [] rfl (OpV_cat (m := [10]) rfl rfl rfl (by simp only [List.length_append, List.length_cons, List.length_nil]; omega)) rfl ?_
    refine JW_all [] rfl ?_
    refine JL_nil ?_
    (repeat' (first | refine J_seq ?_ | refine J_skip ?_ | refine J_yes rfl ?_ | refine J_no rfl ?_))
    refine J_region ?_
    refine JL_all [] rfl ?_
    refine ⟨k + 1, [1, 2], ⟨?_, rfl, ?_, trivial⟩, by decide, rfl, by omega, by omega⟩
    · show some (Value.int .i64 (IntKind.i64.wrap ((k : Int) + 1))) = _
      rw [w64 (by omega)]; rfl
    · refine congrArg some (congrArg str ?_)
      rw [List.take_add_one, ha]
      simp [arcT, wrL_eq]
  obtain rfl : k = N.arcs.length := by omega
  rw [List.take_length]
  (repeat' (first | refine J_seq ?_ | refine J_skip ?_ | refine J_yes rfl ?_ | refine J_no rfl ?_))
  refine J_region ?_
  refine JL_all [] rfl ?_
  refine J_drop [] (by decide) rfl (J_ret ⟨_, rfl, ?_, rfl⟩)
  unfold printV
  rw [if_pos hz0, if_pos hz0]; rfl
end Go.Proofs.YtkiadfpkgpgbiaaGreatDoor
