
/- BudgetHolds: a run takes no more steps than were reckoned ahead, its phases are fewer than nodes, and its value is what the least cut lets through. -/
import Derived.Test.YtjbcgjahfalkaaaBudT
import Derived.Test.YtjbcgjahfalkaaaMade18
import Derived.Test.YtjbcgjahfalkaaaQF
import Derived.Test.YtjbcgjahfalkaaaSh12P
set_option linter.unusedVariables false
set_option linter.unusedSimpArgs false
namespace Go.Proofs.Ytjbcgjahfalkaaa
open Go.RowKit
set_option maxHeartbeats 4000000 in
theorem budgetHolds_fn (nodes : Int) (hn : inB nodes) (ends : Int) (he : inB ends) (A : Option Addr) (c b o : Nat) (l : List Arc) (hA : l ≠ [] → A = some ⟨b, o, none⟩) (hl : ∀ x ∈ l, inB x.fr ∧ inB x.to ∧ inB x.cap) (hs : l.length * 24 ≤ 140737488351232) :
    Fn 14 [.int .i64 nodes, .int .i64 ends, .slice A l.length c] [] [.seg b o (arcs l)] fun v _ => v = .bool true := by
  refine Fn_of Try.func14 rfl rfl fun w0 => ?_
  (repeat' (first | refine J_seq ?_ | refine J_skip ?_ | refine J_yes rfl ?_ | refine J_no rfl ?_))
  refine J_region ?_
  refine JL_all [] rfl ?_
  (repeat' (first | refine J_seq ?_ | refine J_skip ?_ | refine J_yes rfl ?_ | refine J_no rfl ?_))
  refine J_region ?_
  refine JL_callR [] (shown18_fn) rfl rfl rfl rfl (by kernel_rfl) trivial (fun _ => rfl) ?_
  rintro v H' ⟨rfl, rfl⟩
  refine ⟨rfl, ?_⟩
  refine JL_all [] rfl ?_
  (repeat' (first | refine J_seq ?_ | refine J_skip ?_ | refine J_yes rfl ?_ | refine J_no rfl ?_))
  refine J_region ?_
  refine JL_all [] rfl ?_
  (repeat' (first | refine J_seq ?_ | refine J_skip ?_ | refine J_yes rfl ?_ | refine J_no rfl ?_))
  refine J_region ?_
  refine JL_run [] rfl ?_
  refine JL_callR [] (made18_fn nodes ends hn he A c b o l hA hl (by omega)) rfl rfl rfl rfl (by kernel_rfl) ⟨⟨0, _, by simp, rfl, shows_seg _ _ _, seen_seg⟩, trivial⟩ (fun _ => rfl) ?_
  rintro v H' ⟨N, A1, cn, hR, hn9, h24, hcm, rfl, rfl⟩
  refine ⟨rfl, ?_⟩
  refine JL_alloc rfl rfl rfl (fun _ => rfl) fun b8 => ?_
  refine JL_store 0 rfl rfl rfl rfl rfl [] rfl ?_
  refine JL_know (own_is 1 rfl) fun ⟨_, _, hA1, hla⟩ => ?_
  obtain ⟨g1, hA1⟩ := own_at hA1 hla
  have hA1' : N.arcs ≠ [] → A1 = some ⟨g1, 0, none⟩ := fun h => hA1 (fun h0 => h (List.length_eq_zero_iff.1 (by have := arcs_length N.arcs; rw [h0] at this; simp at this; omega)))
  refine JL_nil ?_
  have hF := hR.fits2
  have hz := zeroFlow N hR
  have hnn := hR.nodes
  obtain ⟨n, hnd⟩ : ∃ n : Nat, N.nodes = n := ⟨N.nodes.toNat, by omega⟩
  obtain ⟨_, _, m1, m2⟩ := mostZ_in hnn.1 hnn.2 (show N.arcs.length ≤ 2001 by omega)
  obtain ⟨bz1, bz2⟩ := boundZ_in hnn.1 hnn.2 (show N.arcs.length ≤ 2001 by omega)
  have hcm2 := cost_most hR (by omega)
  (repeat' (first | refine J_seq ?_ | refine J_skip ?_ | refine J_yes rfl ?_ | refine J_no rfl ?_))
  refine J_region ?_
  refine JL_val [] (v := netV N A1 cn) (OpV_blk 0 rfl rfl rfl rfl) rfl ?_
  refine JL_callR [] (brun_fn N hF hR A1 cn g1 0 hA1') rfl rfl rfl rfl (by kernel_rfl) ⟨⟨1, _, by simp, rfl, shows_ownS hA1, seen_ownS hA1⟩, trivial⟩ (fun _ => rfl) ?_
  rintro v H' ⟨fb, p, k, s, hdb, hp, _, hs2, rfl, rfl⟩
  obtain ⟨hfb, _⟩ := hdb.keeps hR (by decide) hz
  have hsm : (s : Int) ≤ p * mostZ N := by
    have e1 : ((s : Nat) : Int) ≤ ((costB N.nodes.toNat N.arcs.length * p : Nat) : Int) := Int.ofNat_le.2 hs2
    rw [Int.natCast_mul] at e1
    have e2 : (costB N.nodes.toNat N.arcs.length : Int) * p ≤ mostZ N * p := Int.mul_le_mul_of_nonneg_right hcm2 (by omega)
    rw [Int.mul_comm (mostZ N)] at e2
    omega
  have hpm : (p : Int) * mostZ N ≤ boundZ N := Int.mul_le_mul_of_nonneg_right (by omega) (by omega)
  have hpm0 : 0 ≤ (p : Int) * mostZ N := Int.mul_nonneg (by omega) (by omega)
  refine ⟨rfl, ?_⟩
  refine JL_run [] rfl ?_
  refine JL_alloc rfl rfl rfl (fun _ => rfl) fun b9 => ?_
  refine JL_store 0 rfl rfl rfl rfl rfl [] rfl ?_
  refine JL_all [] rfl ?_
  (repeat' (first | refine J_seq ?_ | refine J_skip ?_ | refine J_yes rfl ?_ | refine J_no rfl ?_))
  refine J_region ?_
  refine JL_val [] (v := netV N A1 cn) (OpV_blk 1 rfl rfl rfl rfl) rfl ?_
  refine JL_callR [] (bound_fn N hF A1 cn g1 0 hA1') rfl rfl rfl rfl (by kernel_rfl) ⟨⟨2, _, by simp, rfl, shows_ownS hA1, seen_ownS hA1⟩, trivial⟩ (fun _ => rfl) ?_
  rintro v H' ⟨rfl, rfl⟩
  refine ⟨rfl, ?_⟩
  rw [if_pos hR.check]
  refine JL_all [] rfl ?_
  have S1 := share_fn (exZ (N.arcs.zip fb) N.snk) p k s (boundZ N) (by unfold inB; omega) (fun _ => by unfold inB; omega)
  have hsh : shareZ (s : Int) (boundZ N) = (Int.tdiv (1000 * s) (boundZ N), 0) := by unfold shareZ; rw [if_neg (by omega)]
  rw [hsh] at S1
  obtain ⟨w, hw⟩ : ∃ w, w = Int.tdiv (1000 * (s : Int)) (boundZ N) := ⟨_, rfl⟩
  have hwb : 0 ≤ w ∧ w ≤ 1000 := by
    rw [hw, Int.tdiv_eq_ediv_of_nonneg (by omega)]
    refine ⟨Int.ediv_nonneg (by omega) (by omega), ?_⟩
    have := Int.ediv_le_ediv bz1 (show 1000 * (s : Int) ≤ 1000 * boundZ N by omega)
    rwa [Int.mul_ediv_cancel _ (by omega)] at this
  rw [← hw] at S1
  (repeat' (first | refine J_seq ?_ | refine J_skip ?_ | refine J_yes rfl ?_ | refine J_no rfl ?_))
  refine J_region ?_
  refine JL_val [] (v := countV (exZ (N.arcs.zip fb) N.snk) p k s (boundZ N)) (OpV_blk 0 rfl rfl rfl rfl) rfl ?_
  refine JL_callR [] (S1) rfl rfl rfl rfl (by kernel_rfl) trivial (fun _ => rfl) ?_
  rintro v H' ⟨rfl, rfl⟩
  refine ⟨rfl, ?_⟩
  refine JL_all [] rfl ?_
  (repeat' (first | refine J_seq ?_ | refine J_skip ?_ | refine J_yes rfl ?_ | refine J_no rfl ?_))
  refine J_region ?_
  refine JL_val [] (v := netV N A1 cn) (OpV_blk 1 rfl rfl rfl rfl) rfl ?_
  refine JL_callR [] (max_fn N hF hR A1 cn g1 0 hA1') rfl rfl rfl rfl (by kernel_rfl) ⟨⟨2, _, by simp, rfl, shows_ownS hA1, seen_ownS hA1⟩, trivial⟩ (fun _ => rfl) ?_
  rintro v H' ⟨f, ph, wk, Af, cf, hdn, _, rfl, rfl⟩
  obtain ⟨rfl, rfl, rfl⟩ := hdn.uniq hR (by decide) hdb
  obtain ⟨hf, _, _, lv, hlv, hlt⟩ := hdn.keeps hR (by decide) hz
  have hno := no_reach hf.toRanged hlv hlt
  have hfl := hf.len
  have hfin := IsFlow.inB hR hf.toRanged
  refine ⟨rfl, ?_⟩
  refine JL_run [] rfl ?_
  refine JL_alloc rfl rfl rfl (fun _ => rfl) fun b15 => ?_
  refine JL_store 0 rfl rfl rfl rfl rfl [] rfl ?_
  refine JL_all [] rfl ?_
  refine J_know (own_is 1 rfl) fun ⟨_, _, hAf, hlf⟩ => ?_
  obtain ⟨gf, hAf⟩ := own_at hAf hlf
  have hAf' : f ≠ [] → Af = some ⟨gf, 0, none⟩ := fun h => hAf (by simpa [ints] using h)
  (repeat' (first | refine J_seq ?_ | refine J_skip ?_ | refine J_yes rfl ?_ | refine J_no rfl ?_))
  refine J_region ?_
  refine JL_val [] (v := netV N A1 cn) (OpV_blk 3 rfl rfl rfl rfl) rfl ?_
  refine JL_run [] rfl ?_
  refine JL_val [] (OpV_blk (v := .slice Af f.length cf) 0 rfl rfl rfl rfl) rfl ?_
  refine JL_callR [] (first_fn N hF hR A1 cn g1 0 hA1' f Af cf gf 0 hAf' hfin (by omega) n hnd) rfl rfl rfl rfl (by kernel_rfl) ⟨⟨4, _, by simp, rfl, shows_ownS hA1, seen_ownS hA1⟩, ⟨1, _, by simp, rfl, shows_ownS hAf, seen_ownS hAf⟩, trivial⟩ (fun _ => rfl) ?_
  rintro _ H' (⟨_, _, lb, Aa, ca, hll, hlr, rfl, rfl⟩ | ⟨hW, _, _⟩ | ⟨_, hr, _, _⟩)
  case inr.inl => exact absurd hf hW
  case inr.inr => exact absurd hr hno
  obtain ⟨hca, hcla⟩ := first_cut hR hf hnd hno hlr
  have hsa := whereK_length lb true (n + 1)
  have hcap := (closed_cut hR hf hca).2 hcla
  obtain ⟨sa, hsae⟩ : ∃ sa, sa = whereK lb true (n + 1) := ⟨_, rfl⟩
  rw [← hsae] at hca hcla hsa hcap ⊢
  refine ⟨rfl, ?_⟩
  refine JL_all [] rfl ?_
  refine J_know (own_is 0 rfl) fun ⟨_, _, hAa, hlaa⟩ => ?_
  obtain ⟨ga, hAa⟩ := own_at hAa hlaa
  have hAa' : sa ≠ [] → Aa = some ⟨ga, 0, none⟩ := fun h => hAa (by simpa [ints] using h)
  (repeat' (first | refine J_seq ?_ | refine J_skip ?_ | refine J_yes rfl ?_ | refine J_no rfl ?_))
  refine J_region ?_
  refine JL_val [] (v := netV N A1 cn) (OpV_blk 4 rfl rfl rfl rfl) rfl ?_
  refine JL_run [] rfl ?_
  refine JL_callR [] (capacity_fn N hF hR A1 cn g1 0 hA1' sa hca (by omega) Aa ca ga 0 hAa') rfl rfl rfl rfl (by kernel_rfl) ⟨⟨5, _, by simp, rfl, shows_ownS hA1, seen_ownS hA1⟩, ⟨0, _, by simp, rfl, shows_ownS hAa, seen_ownS hAa⟩, trivial⟩ (fun _ => rfl) ?_
  rintro _ H' ⟨rfl, rfl⟩
  refine ⟨rfl, ?_⟩
  rw [hcap]
  refine JL_all [] rfl ?_
  (repeat' (first | refine J_seq ?_ | refine J_skip ?_ | refine J_yes rfl ?_ | refine J_no rfl ?_))
  refine J_region ?_
  refine JL_evO (gs := [999]) rfl ?_
  refine JL_evO (gs := [999]) rfl ?_
  refine JL_evO (gs := [999]) rfl ?_
  refine JL_set 63 (v' := .bool false) rfl (congrArg Value.bool (cdec_no (fun h => h rfl))) ?_
  refine JL_run [2] rfl ?_
  refine JL_set 67 (v' := .bool false) rfl (congrArg Value.bool (cdec_no (fun h => h rfl))) ?_
  refine JL_run [2, 6] rfl ?_
  refine JL_set 71 (v' := .bool false) rfl (congrArg Value.bool (cdec_no (fun h => h rfl))) ?_
  refine JL_run [2, 6, 10] rfl ?_
  refine JL_set 75 (v' := .bool false) rfl (congrArg Value.bool (cdec_no (fun h => h rfl))) ?_
  refine JL_all [2, 6, 10, 14] rfl ?_
  (repeat' (first | refine J_seq ?_ | refine J_skip ?_ | refine J_yes rfl ?_ | refine J_no rfl ?_))
  refine J_dec rfl (fun h => absurd rfl h) (fun _ => J_skip ?_)
  (repeat' (first | refine J_seq ?_ | refine J_skip ?_ | refine J_yes rfl ?_ | refine J_no rfl ?_))
  refine J_walk 61 [(0, true), (1, true), (2, true), (3, true), (4, true), (5, true), (6, true), (7, true), (8, true), (9, true), (10, true), (11, true), (12, true), (13, true), (14, true), (15, true), (16, true), (17, true), (18, true), (19, true), (20, true), (21, true), (22, true), (23, true), (24, true), (25, true), (26, true), (27, true), (28, true), (29, true), (30, true), (31, true), (32, true), (33, true), (34, true), (35, true), (36, true), (37, true), (38, true), (39, true), (40, true), (41, true), (42, true), (43, true), (44, true), (45, true), (46, true), (47, true), (48, true), (49, true), (50, true), (51, true), (52, true), (53, true), (54, true), (55, true), (56, false), (57, true), (58, true), (59, true), (60, true)] [1, 3, 4] (by kernel_rfl) (by decide) rfl ?_
  refine JW_run [] rfl ?_
  refine JW_still [] rfl (OpV_blk (v := .int .i64 (s : Int)) 1 rfl rfl rfl rfl) rfl ?_
  refine JW_run [] rfl ?_
  refine JW_set 82 (v' := .bool true) rfl (congrArg Value.bool (cdec_yes (show (0 : Int) ≤ s by omega))) ?_
  refine JW_run [3] rfl ?_
  refine JW_still [3] rfl (OpV_blk (v := .int .i64 (s : Int)) 1 rfl rfl rfl rfl) rfl ?_
  refine JW_run [3] rfl ?_
  refine JW_set 88 (v' := .bool true) rfl (congrArg Value.bool (cdec_yes (show (s : Int) ≤ boundZ N by omega))) ?_
  refine JW_run [3, 9] rfl ?_
  refine JW_still [3, 9] rfl (OpV_blk (v := .int .i64 (boundZ N)) 1 rfl rfl rfl rfl) rfl ?_
  refine JW_run [3, 9] rfl ?_
  refine JW_set 94 (v' := .bool true) rfl (congrArg Value.bool (cdec_yes (rfl))) ?_
  refine JW_run [3, 9, 15] rfl ?_
  refine JW_set 98 (v' := .bool true) rfl (congrArg Value.bool (cdec_yes (show w ≤ 1000 by omega))) ?_
  refine JW_run [3, 9, 15, 19] rfl ?_
  refine JW_set 102 (v' := .bool true) rfl (congrArg Value.bool (cdec_yes (show 0 ≤ w by omega))) ?_
  refine JW_run [3, 9, 15, 19, 23] rfl ?_
  refine JW_still [3, 9, 15, 19, 23] rfl (OpV_blk (v := .int .i64 (ph : Int)) 1 rfl rfl rfl rfl) rfl ?_
  refine JW_run [3, 9, 15, 19, 23] rfl ?_
  refine JW_still [3, 9, 15, 19, 23] rfl (OpV_blk (v := .int .i64 N.nodes) 2 rfl rfl rfl rfl) rfl ?_
  refine JW_run [3, 9, 15, 19, 23] rfl ?_
  refine JW_set 109 (v' := .bool true) rfl (congrArg Value.bool (cdec_yes (show (ph : Int) < N.nodes by omega))) ?_
  refine JW_run [3, 9, 15, 19, 23, 30] rfl ?_
  refine JW_still [3, 9, 15, 19, 23, 30] rfl (OpV_blk (v := .int .i64 (ph : Int)) 1 rfl rfl rfl rfl) rfl ?_
  refine JW_run [3, 9, 15, 19, 23, 30] rfl ?_
  refine JW_still [3, 9, 15, 19, 23, 30] rfl (OpV_blk (v := .int .i64 (ph : Int)) 0 rfl rfl rfl rfl) rfl ?_
  refine JW_run [3, 9, 15, 19, 23, 30] rfl ?_
  refine JW_set 116 (v' := .bool true) rfl (congrArg Value.bool (cdec_yes (rfl))) ?_
  refine JW_run [3, 9, 15, 19, 23, 30, 37] rfl ?_
  refine JW_still [3, 9, 15, 19, 23, 30, 37] rfl (OpV_blk (v := .int .i64 (wk : Int)) 1 rfl rfl rfl rfl) rfl ?_
  refine JW_run [3, 9, 15, 19, 23, 30, 37] rfl ?_
  refine JW_still [3, 9, 15, 19, 23, 30, 37] rfl (OpV_blk (v := .int .i64 (wk : Int)) 0 rfl rfl rfl rfl) rfl ?_
  refine JW_run [3, 9, 15, 19, 23, 30, 37] rfl ?_
  refine JW_set 123 (v' := .bool true) rfl (congrArg Value.bool (cdec_yes (rfl))) ?_
  refine JW_run [3, 9, 15, 19, 23, 30, 37, 44] rfl ?_
  refine JW_still [3, 9, 15, 19, 23, 30, 37, 44] rfl (OpV_blk (v := .int .i64 (exZ (N.arcs.zip f) N.snk)) 1 rfl rfl rfl rfl) rfl ?_
  refine JW_run [3, 9, 15, 19, 23, 30, 37, 44] rfl ?_
  refine JW_set 129 (v' := .bool true) rfl (congrArg Value.bool (cdec_yes (rfl))) ?_
  refine JW_run [3, 9, 15, 19, 23, 30, 37, 44, 50] rfl ?_
  refine JW_still [3, 9, 15, 19, 23, 30, 37, 44, 50] rfl (OpV_blk (v := .int .i64 (s : Int)) 1 rfl rfl rfl rfl) rfl ?_
  refine JW_run [3, 9, 15, 19, 23, 30, 37, 44, 50] rfl ?_
  refine JW_still [3, 9, 15, 19, 23, 30, 37, 44, 50] rfl (OpV_blk (v := .int .i64 (ph : Int)) 1 rfl rfl rfl rfl) rfl ?_
  refine JW_run [3, 9, 15, 19, 23, 30, 37, 44, 50] rfl ?_
  refine JW_still [3, 9, 15, 19, 23, 30, 37, 44, 50] rfl (OpV_blk (v := netV N A1 cn) 2 rfl rfl rfl rfl) rfl ?_
  refine JW_eff rfl ?_
  refine JL_callR [3, 9, 15, 19, 23, 30, 37, 44, 50] (most_fn N hnn.1 hnn.2 (by omega) A1 cn) rfl rfl rfl rfl (by kernel_rfl) trivial (fun _ => rfl) ?_
  rintro _ H' ⟨rfl, rfl⟩
  refine ⟨rfl, JL_nil ⟨⟨[1, 3, 4], by decide, rfl⟩, ?_⟩⟩
  refine JW_all [3, 9, 15, 19, 23, 30, 37, 44, 50] rfl ?_
  refine JL_nil ?_
  exact J_ret ⟨_, rfl, congrArg Value.bool (cdec_yes (by rw [w64 (by omega)]; omega))⟩
end Go.Proofs.Ytjbcgjahfalkaaa
