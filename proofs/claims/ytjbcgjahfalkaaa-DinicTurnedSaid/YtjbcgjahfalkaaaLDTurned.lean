
/- DinicTurned: a network turned, one with its arcs in another order, and one with an arc parted have the same greatest value. -/
import Derived.Test.YtjbcgjahfalkaaaSh12N
import Derived.Test.YtjbcgjahfalkaaaMade12
import Derived.Test.YtjbcgjahfalkaaaTurnP
import Derived.Test.YtjbcgjahfalkaaaMaxG
set_option linter.unusedVariables false
set_option linter.unusedSimpArgs false
namespace Go.Proofs.Ytjbcgjahfalkaaa
open Go.RowKit
set_option maxHeartbeats 4000000 in
theorem dinicTurned_fn (nodes : Int) (hn : inB nodes) (ends : Int) (he : inB ends) (A : Option Addr) (c b o : Nat) (l : List Arc) (hA : l ≠ [] → A = some ⟨b, o, none⟩) (hl : ∀ x ∈ l, inB x.fr ∧ inB x.to ∧ inB x.cap) (hs : l.length * 24 ≤ 140737488351232) (by_ : Int) (hby : inB by_) (at_ : Int) (hat : inB at_) :
    Fn 4 [.int .i64 nodes, .int .i64 ends, .slice A l.length c, .int .i64 by_, .int .i64 at_] [] [.seg b o (arcs l)] fun v _ => v = .bool true := by
  refine Fn_of Try.func4 rfl rfl fun w0 => ?_
  (repeat' (first | refine J_seq ?_ | refine J_skip ?_ | refine J_yes rfl ?_ | refine J_no rfl ?_))
  refine J_region ?_
  refine JL_all [] rfl ?_
  (repeat' (first | refine J_seq ?_ | refine J_skip ?_ | refine J_yes rfl ?_ | refine J_no rfl ?_))
  refine J_region ?_
  refine JL_callR [] (shown12_fn) rfl rfl rfl rfl (by kernel_rfl) trivial (fun _ => rfl) ?_
  rintro v H' ⟨rfl, rfl⟩
  refine ⟨rfl, ?_⟩
  refine JL_all [] rfl ?_
  (repeat' (first | refine J_seq ?_ | refine J_skip ?_ | refine J_yes rfl ?_ | refine J_no rfl ?_))
  refine J_region ?_
  refine JL_all [] rfl ?_
  (repeat' (first | refine J_seq ?_ | refine J_skip ?_ | refine J_yes rfl ?_ | refine J_no rfl ?_))
  refine J_region ?_
  refine JL_run [] rfl ?_
  refine JL_callR [] (made12_fn nodes ends hn he A c b o l hA hl (by omega)) rfl rfl rfl rfl (by kernel_rfl) ⟨⟨0, _, by simp, rfl, shows_seg _ _ _, seen_seg⟩, trivial⟩ (fun _ => rfl) ?_
  rintro v H' ⟨N, A1, cn, hR, hn9, h24, hcm, rfl, rfl⟩
  refine ⟨rfl, ?_⟩
  refine JL_alloc rfl rfl rfl (fun _ => rfl) fun b12 => ?_
  refine JL_store 0 rfl rfl rfl rfl rfl [] rfl ?_
  refine JL_know (own_is 1 rfl) fun ⟨_, hcn, hA1, hla⟩ => ?_
  obtain ⟨g1, hA1⟩ := own_at hA1 hla
  have hA1' : N.arcs ≠ [] → A1 = some ⟨g1, 0, none⟩ := fun h => hA1 (fun h0 => h (List.length_eq_zero_iff.1 (by have := arcs_length N.arcs; rw [h0] at this; simp at this; omega)))
  refine JL_nil ?_
  have hF := hR.fits2
  have hz := zeroFlow N hR
  have hT := turn_right hR
  have hTF := hT.fits2
  have hTz := zeroFlow _ hT
  have hTl : (turnN N).arcs.length = N.arcs.length := by simp [turnN]
  (repeat' (first | refine J_seq ?_ | refine J_skip ?_ | refine J_yes rfl ?_ | refine J_no rfl ?_))
  refine J_region ?_
  refine JL_val [] (v := netV N A1 cn) (OpV_blk 0 rfl rfl rfl rfl) rfl ?_
  refine JL_callR [] (max_fn N hF hR A1 cn g1 0 hA1') rfl rfl rfl rfl (by kernel_rfl) ⟨⟨1, _, by simp, rfl, shows_ownS hA1, seen_ownS hA1⟩, trivial⟩ (fun _ => rfl) ?_
  rintro v H' ⟨fa, pa, ka, Aa, ca, hda, _, rfl, rfl⟩
  obtain ⟨hfa, _, _, lva, hlva, hlta⟩ := hda.keeps hR (by decide) hz
  refine ⟨rfl, ?_⟩
  refine JL_run [] rfl ?_
  refine JL_alloc rfl rfl rfl (fun _ => rfl) fun b13 => ?_
  refine JL_store 0 rfl rfl rfl rfl rfl [] rfl ?_
  refine JL_all [] rfl ?_
  refine J_know (own_is 1 rfl) fun ⟨_, _, hAa, hlaa⟩ => ?_
  obtain ⟨ga, hAa⟩ := own_at hAa hlaa
  have hAa' : fa ≠ [] → Aa = some ⟨ga, 0, none⟩ := fun h => hAa (by simpa [ints] using h)
  have hfal := hfa.len
  (repeat' (first | refine J_seq ?_ | refine J_skip ?_ | refine J_yes rfl ?_ | refine J_no rfl ?_))
  refine J_region ?_
  refine JL_val [] (v := netV N A1 cn) (OpV_blk 2 rfl rfl rfl rfl) rfl ?_
  refine JL_run [] rfl ?_
  refine JL_val [] (v := .slice Aa fa.length ca) (OpV_blk 0 rfl rfl rfl rfl) rfl ?_
  refine JL_callR [] (fvalue_fn N hF hR A1 cn g1 0 hA1' fa Aa ca ga 0 hAa' (IsFlow.inB hR hfa.toRanged) (by omega)) rfl rfl rfl rfl (by kernel_rfl) ⟨⟨3, _, by simp, rfl, shows_ownS hA1, seen_ownS hA1⟩, ⟨1, _, by simp, rfl, shows_ownS hAa, seen_ownS hAa⟩, trivial⟩ (fun _ => rfl) ?_
  rintro v H' ⟨⟨rfl, _⟩ | ⟨_, h⟩, rfl⟩
  case inr => exact absurd hfa h
  refine ⟨rfl, ?_⟩
  refine JL_all [] rfl ?_
  obtain ⟨v, hv⟩ : ∃ v, v = exZ (N.arcs.zip fa) N.snk := ⟨_, rfl⟩
  refine J_set 15 (v' := .int .i64 v) rfl (congrArg (Value.int .i64) hv.symm) ?_
  (repeat' (first | refine J_seq ?_ | refine J_skip ?_ | refine J_yes rfl ?_ | refine J_no rfl ?_))
  refine J_region ?_
  refine JL_val [] (v := netV N A1 cn) (OpV_blk 2 rfl rfl rfl rfl) rfl ?_
  refine JL_callR [] (turnN_fn N (by omega) A1 cn g1 0 hA1') rfl rfl rfl rfl (by kernel_rfl) ⟨⟨3, _, by simp, rfl, shows_ownS hA1, seen_ownS hA1⟩, trivial⟩ (fun _ => rfl) ?_
  rintro _ H' ⟨A2, c2, rfl, rfl⟩
  refine ⟨rfl, ?_⟩
  refine JL_alloc rfl rfl rfl (fun _ => rfl) fun b17 => ?_
  refine JL_store 0 rfl rfl rfl rfl rfl [] rfl ?_
  refine JL_know (own_is 1 rfl) fun ⟨_, _, hA2, hlb⟩ => ?_
  obtain ⟨g2, hA2⟩ := own_at hA2 hlb
  have hA2' : (turnN N).arcs ≠ [] → A2 = some ⟨g2, 0, none⟩ := fun h => hA2 (fun h0 => h (List.length_eq_zero_iff.1 (by have := arcs_length (turnN N).arcs; rw [h0] at this; simp at this; omega)))
  refine JL_all [] rfl ?_
  (repeat' (first | refine J_seq ?_ | refine J_skip ?_ | refine J_yes rfl ?_ | refine J_no rfl ?_))
  refine J_region ?_
  refine JL_val [] (v := netV (turnN N) A2 c2) (OpV_blk 0 rfl rfl rfl rfl) rfl ?_
  refine JL_callR [] (maxG_fn (turnN N) hTF hT A2 c2 g2 0 hA2' 116 (.inr rfl)) rfl rfl rfl rfl (by kernel_rfl) ⟨⟨1, _, by simp, rfl, shows_ownS hA2, seen_ownS hA2⟩, trivial⟩ (fun _ => rfl) ?_
  rintro _ H' ⟨fb, pb, kb, sb, Ab, cb, hdb, _, _, _, _, _, rfl, rfl⟩
  obtain ⟨hfb, _, _, lvb, hlvb, hltb⟩ := hdb.keeps hT (by decide) hTz
  refine ⟨rfl, ?_⟩
  refine JL_run [] rfl ?_
  refine JL_alloc rfl rfl rfl (fun _ => rfl) fun b18 => ?_
  refine JL_store 0 rfl rfl rfl rfl rfl [] rfl ?_
  refine JL_all [] rfl ?_
  refine J_know (own_is 1 rfl) fun ⟨_, _, hAb, hlbb⟩ => ?_
  obtain ⟨gb, hAb⟩ := own_at hAb hlbb
  have hAb' : fb ≠ [] → Ab = some ⟨gb, 0, none⟩ := fun h => hAb (by simpa [ints] using h)
  have hfbl := hfb.len
  (repeat' (first | refine J_seq ?_ | refine J_skip ?_ | refine J_yes rfl ?_ | refine J_no rfl ?_))
  refine J_region ?_
  refine JL_val [] (v := netV (turnN N) A2 c2) (OpV_blk 2 rfl rfl rfl rfl) rfl ?_
  refine JL_run [] rfl ?_
  refine JL_val [] (v := .slice Ab fb.length cb) (OpV_blk 0 rfl rfl rfl rfl) rfl ?_
  refine JL_callR [] (fvalue_fn (turnN N) hTF hT A2 c2 g2 0 hA2' fb Ab cb gb 0 hAb' (IsFlow.inB hT hfb.toRanged) (by omega)) rfl rfl rfl rfl (by kernel_rfl) ⟨⟨3, _, by simp, rfl, shows_ownS hA2, seen_ownS hA2⟩, ⟨1, _, by simp, rfl, shows_ownS hAb, seen_ownS hAb⟩, trivial⟩ (fun _ => rfl) ?_
  rintro v H' ⟨⟨rfl, _⟩ | ⟨_, h⟩, rfl⟩
  case inr => exact absurd hfb h
  refine ⟨rfl, ?_⟩
  refine JL_all [] rfl ?_
  refine J_set 20 (v' := .int .i64 v) rfl (congrArg (Value.int .i64) ((turn_value hR hfa hlva hlta hfb hlvb hltb).trans hv.symm)) ?_
  (repeat' (first | refine J_seq ?_ | refine J_skip ?_ | refine J_yes rfl ?_ | refine J_no rfl ?_))
  refine J_region ?_
  refine JL_evO (gs := [999]) rfl ?_
  refine JL_evO (gs := [999]) rfl ?_
  refine JL_evO (gs := [999]) rfl ?_
  refine JL_set 65 (v' := .bool false) rfl (congrArg Value.bool (cdec_no (fun h => h rfl))) ?_
  refine JL_run [2] rfl ?_
  refine JL_set 69 (v' := .bool false) rfl (congrArg Value.bool (cdec_no (fun h => h rfl))) ?_
  refine JL_all [2, 6] rfl ?_
  (repeat' (first | refine J_seq ?_ | refine J_skip ?_ | refine J_yes rfl ?_ | refine J_no rfl ?_))
  refine J_dec rfl (fun h => absurd rfl h) (fun _ => J_skip ?_)
  refine J_fit (K := [blk b12 27 (netC N A1 cn), .own (.slice A1 N.arcs.length cn) 42 3 N.arcs.length (arcs N.arcs)]) (Fit.picks [6, 7] (by decide) rfl) ?_
  (repeat' (first | refine J_seq ?_ | refine J_skip ?_ | refine J_yes rfl ?_ | refine J_no rfl ?_))
  refine J_region ?_
  refine JL_run [] rfl ?_
  refine JL_val [] (v := .slice A1 N.arcs.length cn) (OpV_blk 0 rfl rfl rfl rfl) rfl ?_
  refine JL_all [] rfl ?_
  refine J_dec rfl (fun h0 => ?_) (fun h0 => J_skip ?_)
  · (repeat' (first | refine J_seq ?_ | refine J_skip ?_ | refine J_yes rfl ?_ | refine J_no rfl ?_))
    refine J_region ?_
    refine JL_all [] rfl ?_
    have hN0 : N.arcs = [] := List.length_eq_zero_iff.1 (by omega)
    exact J_ret ⟨_, rfl, congrArg Value.bool (cdec_yes (by rw [hv, hN0]; rfl))⟩
  have hNl : 0 < N.arcs.length := by omega
  obtain rfl := hA1' (by intro h; rw [h] at hNl; simp at hNl)
  have hpk := pickZ_in (c := by_) (n := (N.arcs.length : Int)) (by omega)
  obtain ⟨k, hk⟩ : ∃ k : Nat, pickZ by_ (N.arcs.length : Int) = k := ⟨(pickZ by_ (N.arcs.length : Int)).toNat, by omega⟩
  have hkl : k < N.arcs.length := by omega
  (repeat' (first | refine J_seq ?_ | refine J_skip ?_ | refine J_yes rfl ?_ | refine J_no rfl ?_))
  refine J_region ?_
  refine JL_run [] rfl ?_
  refine JL_val [] (v := .slice (some ⟨g1, 0, none⟩) N.arcs.length cn) (OpV_blk 0 rfl rfl rfl rfl) rfl ?_
  refine JL_run [] rfl ?_
  refine JL_callR [] (pick12_fn hby (show (0 : Int) < (N.arcs.length : Int) by omega)) rfl rfl rfl rfl (by kernel_rfl) trivial (fun _ => rfl) ?_
  rintro v H' ⟨rfl, rfl⟩
  refine ⟨rfl, ?_⟩
  refine JL_all [] rfl ?_
  refine J_set 22 (v' := .int .i64 (k : Int)) rfl (congrArg (Value.int .i64) hk) ?_
  (repeat' (first | refine J_seq ?_ | refine J_skip ?_ | refine J_yes rfl ?_ | refine J_no rfl ?_))
  refine J_region ?_
  refine JL_val [] (v := netV N (some ⟨g1, 0, none⟩) cn) (OpV_blk 0 rfl rfl rfl rfl) rfl ?_
  refine JL_callR [] (copy_fn N (by omega) (some ⟨g1, 0, none⟩) cn g1 0 (fun _ => rfl)) rfl rfl rfl rfl (by kernel_rfl) ⟨⟨1, _, by simp, rfl, shows_own, seen_ownS (fun _ => rfl)⟩, trivial⟩ (fun _ => rfl) ?_
  rintro _ H' ⟨A3, c3, rfl, rfl⟩
  refine ⟨rfl, ?_⟩
  refine JL_alloc rfl rfl rfl (fun _ => rfl) fun b23 => ?_
  refine JL_store 0 rfl rfl rfl rfl rfl [] rfl ?_
  refine JL_all [] rfl ?_
  refine J_fit (K := [blk b23 27 (netC N A3 c3), blk b12 27 (netC N (some ⟨g1, 0, none⟩) cn), .own (.slice (some ⟨g1, 0, none⟩) N.arcs.length cn) 42 3 N.arcs.length (arcs N.arcs)]) (Fit.picks [0, 2, 3] (by decide) rfl) ?_
  (repeat' (first | refine J_seq ?_ | refine J_skip ?_ | refine J_yes rfl ?_ | refine J_no rfl ?_))
  refine J_walk 12 [(1, true), (2, true), (3, true), (4, true), (6, true), (7, true), (8, true), (9, true), (0, false), (5, false), (10, false), (11, true)] [1] (by kernel_rfl) (by decide) rfl ?_
  refine JW_run [] rfl ?_
  refine JW_still [] rfl (OpV_blk (v := .slice (some ⟨g1, 0, none⟩) N.arcs.length cn) 0 rfl rfl rfl rfl) rfl ?_
  refine JW_run [] rfl ?_
  refine JW_still [] rfl (OpV_from (i := k) rfl rfl rfl rfl rfl (by omega)) rfl ?_
  refine JW_run [] rfl ?_
  refine JW_still [] rfl (OpV_blk (v := .slice (some ⟨g1, 0, none⟩) N.arcs.length cn) 0 rfl rfl rfl rfl) rfl ?_
  refine JW_run [] rfl ?_
  refine JW_still [] rfl (OpV_upto (i := k) rfl rfl rfl rfl rfl (by omega)) rfl ?_
  refine JW_eff rfl ?_
  refine JL_lit rfl rfl rfl rfl rfl rfl rfl (fun _ => rfl) fun gx => ?_
  refine JL_own 3 0 rfl (by decide) ?_
  refine JL_nil ⟨⟨[2], by decide, rfl⟩, ?_⟩
  refine JW_eff rfl ?_
  refine JL_appendS (n := 0) (m := N.arcs.length - k) (b := g1) (off := 0 + k * 3) (news := arcs (N.arcs.drop k)) 0 3 rfl rfl rfl rfl rfl rfl (by decide) rfl rfl (by rw [← arcs_drop]; exact shows_drop shows_own (k * 3)) (fun _ => cutA_at (n := N.arcs.length) (fun _ => rfl) hcn hkl) (by rw [arcs_length, List.length_drop]) (arcs_one _) (by omega) (by omega) (fun _ _ => rfl) fun Ax cx => ?_
  refine JL_nil ⟨⟨[2], by decide, rfl⟩, ?_⟩
  refine JW_eff rfl ?_
  refine JL_appendS (n := 0 + (N.arcs.length - k)) (m := k) (b := g1) (off := 0) (news := arcs (N.arcs.take k)) 0 3 rfl rfl rfl rfl rfl rfl (by decide) rfl rfl (by rw [← arcs_take]; exact shows_take shows_own (k * 3)) (fun _ => rfl) (by rw [arcs_length, List.length_take, Nat.min_eq_left (by omega)]) (arcs_one _) (by omega) (by omega) (fun _ _ => rfl) fun A4 c4 => ?_
  refine JL_nil ⟨⟨[2], by decide, rfl⟩, ?_⟩
  refine JW_run [] rfl ?_
  refine JW_nil ?_
  refine JL_store 1 rfl rfl rfl rfl rfl [] rfl ?_
  refine JL_nil ?_
  obtain ⟨R, hRe⟩ : ∃ R, R = N.arcs.drop k ++ N.arcs.take k := ⟨_, rfl⟩
  have hRl : R.length = N.arcs.length := by rw [hRe, List.length_append, List.length_drop, List.length_take]; omega
  rw [show ([] : List Value) ++ arcs (N.arcs.drop k) ++ arcs (N.arcs.take k) = arcs R by rw [hRe, arcs_app]; rfl, show 0 + (N.arcs.length - k) + k = R.length by omega]
  refine J_fit (K := [blk b23 27 [.int .i64 N.nodes, .int .i64 N.src, .int .i64 N.snk, .slice A4 R.length c4], .own (.slice A4 R.length c4) 42 3 R.length (arcs R)]) (Fit.picks [1, 0] (by decide) rfl) ?_
  refine J_know (own_is 1 rfl) fun ⟨_, _, hA4, hl4⟩ => ?_
  obtain ⟨g4, hA4⟩ := own_at hA4 hl4
  obtain rfl := hA4 (fun h0 => by have := arcs_length R; rw [h0] at this; simp at this; omega)
  have hpi := pickZ_in (c := at_) (n := (R.length : Int)) (by omega)
  obtain ⟨i, hi⟩ : ∃ i : Nat, pickZ at_ (R.length : Int) = i := ⟨(pickZ at_ (R.length : Int)).toNat, by omega⟩
  have hil : i < R.length := by omega
  obtain ⟨a, ha⟩ : ∃ a, R[i]? = some a := ⟨R[i], List.getElem?_eq_getElem hil⟩
  have ham : a ∈ N.arcs := rot_mem (by rw [← hRe]; exact List.mem_of_getElem? ha)
  have har := hR.arc a ham
  have hac := hcm a ham
  have ht2 := tmod_cases a.cap (m := 2) (by decide)
  obtain ⟨x, hx⟩ : ∃ x, x = a.cap.tdiv 2 := ⟨_, rfl⟩
  rw [← hx] at ht2
  have hxb : 0 ≤ x ∧ x ≤ a.cap := by omega
  (repeat' (first | refine J_seq ?_ | refine J_skip ?_ | refine J_yes rfl ?_ | refine J_no rfl ?_))
  refine J_region ?_
  refine JL_run [] rfl ?_
  refine JL_val [] (v := .slice (some ⟨g4, 0, none⟩) R.length c4) (OpV_blk 0 rfl rfl rfl rfl) rfl ?_
  refine JL_run [] rfl ?_
  refine JL_callR [] (pick12_fn hat (show (0 : Int) < (R.length : Int) by omega)) rfl rfl rfl rfl (by kernel_rfl) trivial (fun _ => rfl) ?_
  rintro v H' ⟨rfl, rfl⟩
  refine ⟨rfl, ?_⟩
  refine JL_all [] rfl ?_
  refine J_set 24 (v' := .int .i64 (i : Int)) rfl (congrArg (Value.int .i64) hi) ?_
  (repeat' (first | refine J_seq ?_ | refine J_skip ?_ | refine J_yes rfl ?_ | refine J_no rfl ?_))
  refine J_region ?_
  refine JL_run [] rfl ?_
  refine JL_val [] (v := .slice (some ⟨g4, 0, none⟩) R.length c4) (OpV_blk 0 rfl rfl rfl rfl) rfl ?_
  refine JL_run [] rfl ?_
  refine JL_val [] (idxNz rfl rfl rfl rfl rfl hil) rfl ?_
  refine JL_val [] (OpV_own 1 rfl rfl rfl (readT_arc ha)) rfl ?_
  refine JL_alloc rfl rfl rfl (fun _ => rfl) fun b25 => ?_
  refine JL_store 0 rfl rfl rfl rfl rfl [] rfl ?_
  refine JL_nil ?_
  (repeat' (first | refine J_seq ?_ | refine J_skip ?_ | refine J_yes rfl ?_ | refine J_no rfl ?_))
  refine J_region ?_
  refine JL_run [] rfl ?_
  refine JL_val [] (v := .int .i64 a.cap) (OpV_blk 0 rfl rfl rfl rfl) rfl ?_
  refine JL_run [] rfl ?_
  refine JL_set 111 (v' := .int .i64 x) rfl (congrArg (Value.int .i64) (by rw [hx]; exact w64 (by omega))) ?_
  refine JL_store 0 rfl rfl rfl rfl rfl [] rfl ?_
  refine JL_nil ?_
  (repeat' (first | refine J_seq ?_ | refine J_skip ?_ | refine J_yes rfl ?_ | refine J_no rfl ?_))
  refine J_walk 14 [(0, true), (1, true), (2, true), (3, true), (4, true), (5, true), (6, true), (7, true), (8, true), (9, true), (10, true), (11, true), (12, true), (13, true)] [0, 1, 2] (by kernel_rfl) (by decide) rfl ?_
  refine JW_run [] rfl ?_
  refine JW_still [] rfl (OpV_blk (v := .slice (some ⟨g4, 0, none⟩) R.length c4) 1 rfl rfl rfl rfl) rfl ?_
  refine JW_run [] rfl ?_
  refine JW_still [] rfl (OpV_blk (v := .slice (some ⟨g4, 0, none⟩) R.length c4) 1 rfl rfl rfl rfl) rfl ?_
  refine JW_run [] rfl ?_
  refine JW_still [] rfl (idxNz rfl rfl rfl rfl rfl hil) rfl ?_
  refine JW_run [] rfl ?_
  refine JW_still [] rfl (OpV_own (v := .int .i64 a.cap) 2 rfl rfl rfl (arcs_cap ha)) rfl ?_
  refine JW_run [] rfl ?_
  refine JW_still [] rfl (OpV_blk (v := .int .i64 x) 0 rfl rfl rfl rfl) rfl ?_
  refine JW_run [] rfl ?_
  refine JW_set 124 (v' := .int .i64 (a.cap - x)) rfl (congrArg (Value.int .i64) (w64 (by omega))) ?_
  refine JW_still [] rfl (idxNz rfl rfl rfl rfl rfl hil) rfl ?_
  refine JW_run [] rfl ?_
  refine JW_nil ?_
  refine JL_store_own 2 rfl rfl rfl rfl (put_one rfl rfl rfl (by rw [arcs_length]; omega)) [] rfl ?_
  rw [arcs_less _ _ _ _ ha]
  refine JL_nil ?_
  (repeat' (first | refine J_seq ?_ | refine J_skip ?_ | refine J_yes rfl ?_ | refine J_no rfl ?_))
  refine J_region ?_
  refine JL_run [] rfl ?_
  refine JL_val [] (v := .slice (some ⟨g4, 0, none⟩) R.length c4) (OpV_blk 1 rfl rfl rfl rfl) rfl ?_
  refine JL_val [] (v := .agg #[.int .i64 a.fr, .int .i64 a.to, .int .i64 x]) (OpV_blk 0 rfl rfl rfl rfl) rfl ?_
  refine JL_lit rfl rfl rfl rfl rfl rfl rfl (fun _ => rfl) fun g5 => ?_
  refine JL_appendS (n := R.length) (m := 1) (off := 0) (news := arcs [⟨a.fr, a.to, x⟩]) 3 0 rfl rfl rfl rfl rfl rfl (by decide) rfl rfl (shows_blk g5 _ _ (0, 0)) (fun _ => rfl) rfl rfl (by omega) (by omega) (fun _ _ => rfl) fun A5 c5 => ?_
  refine JL_run [] rfl ?_
  refine JL_store 2 rfl rfl rfl rfl rfl [] rfl ?_
  refine JL_nil ?_
  have haR : (N.arcs.drop k ++ N.arcs.take k)[i]? = some a := by rw [← hRe]; exact ha
  obtain ⟨M, hM⟩ : ∃ M, M = partN N k i a x := ⟨_, rfl⟩
  have hMl : M.arcs.length = R.length + 1 := by rw [hM, hRe]; simp [partN]
  have hMa : arcs M.arcs = arcs (R.set i ⟨a.fr, a.to, a.cap - x⟩) ++ arcs [⟨a.fr, a.to, x⟩] := by rw [hM, hRe, ← arcs_app]; rfl
  refine J_fit (K := [blk b23 27 (netC M A5 c5), .own (.slice A5 M.arcs.length c5) 42 3 M.arcs.length (arcs M.arcs)]) (by
    unfold netC
    rw [hMl, hMa, hM]
    exact Fit.picks [2, 3] (by decide) rfl) ?_
  have hMR : M.Right := by rw [hM]; exact part_right hR h24 hcm haR hxb
  have hMv : ∀ {g l2 : List Int}, IsFlow M g → IsLev M (roomL (M.arcs.zip g)) 1 l2 → lvZ l2 M.snk.toNat < 0 → exZ (M.arcs.zip g) M.snk = v := by
    intro g l2 h1 h2 h3
    rw [hv]
    refine same_value hR hMR (by rw [hM]; rfl) (by rw [hM]; rfl) (by rw [hM]; rfl) (fun s => ?_) hfa hlva hlta h1 h2 h3
    rw [hM]
    exact part_cap haR s
  have hMF := hMR.fits2
  refine J_know (own_is 1 rfl) fun ⟨_, _, hA5, hl5⟩ => ?_
  obtain ⟨g5, hA5⟩ := own_at hA5 hl5
  have hA5' : M.arcs ≠ [] → A5 = some ⟨g5, 0, none⟩ := fun h => hA5 (fun h0 => h (List.length_eq_zero_iff.1 (by have := arcs_length M.arcs; rw [h0] at this; simp at this; omega)))
  (repeat' (first | refine J_seq ?_ | refine J_skip ?_ | refine J_yes rfl ?_ | refine J_no rfl ?_))
  refine J_region ?_
  refine JL_val [] (v := netV M A5 c5) (OpV_blk 0 rfl rfl rfl rfl) rfl ?_
  refine JL_callR [] (max_fn M hMF hMR A5 c5 g5 0 hA5') rfl rfl rfl rfl (by kernel_rfl) ⟨⟨1, _, by simp, rfl, shows_ownS hA5, seen_ownS hA5⟩, trivial⟩ (fun _ => rfl) ?_
  rintro _ H' ⟨fc, pc, kc, Ac, cc, hdc, _, rfl, rfl⟩
  obtain ⟨hfc, _, _, lvc, hlvc, hltc⟩ := hdc.keeps hMR (by decide) (zeroFlow M hMR)
  refine ⟨rfl, ?_⟩
  refine JL_run [] rfl ?_
  refine JL_alloc rfl rfl rfl (fun _ => rfl) fun b26 => ?_
  refine JL_store 0 rfl rfl rfl rfl rfl [] rfl ?_
  refine JL_all [] rfl ?_
  refine J_know (own_is 1 rfl) fun ⟨_, _, hAc, hlc⟩ => ?_
  obtain ⟨gc, hAc⟩ := own_at hAc hlc
  have hAc' : fc ≠ [] → Ac = some ⟨gc, 0, none⟩ := fun h => hAc (by simpa [ints] using h)
  have hfcl := hfc.len
  (repeat' (first | refine J_seq ?_ | refine J_skip ?_ | refine J_yes rfl ?_ | refine J_no rfl ?_))
  refine J_region ?_
  refine JL_val [] (v := netV M A5 c5) (OpV_blk 2 rfl rfl rfl rfl) rfl ?_
  refine JL_run [] rfl ?_
  refine JL_val [] (v := .slice Ac fc.length cc) (OpV_blk 0 rfl rfl rfl rfl) rfl ?_
  refine JL_callR [] (fvalue_fn M hMF hMR A5 c5 g5 0 hA5' fc Ac cc gc 0 hAc' (IsFlow.inB hMR hfc.toRanged) (by omega)) rfl rfl rfl rfl (by kernel_rfl) ⟨⟨3, _, by simp, rfl, shows_ownS hA5, seen_ownS hA5⟩, ⟨1, _, by simp, rfl, shows_ownS hAc, seen_ownS hAc⟩, trivial⟩ (fun _ => rfl) ?_
  rintro _ H' ⟨⟨rfl, _⟩ | ⟨_, h⟩, rfl⟩
  case inr => exact absurd hfc h
  refine ⟨rfl, ?_⟩
  refine JL_all [] rfl ?_
  refine J_set 28 (v' := .int .i64 v) rfl (congrArg (Value.int .i64) (hMv hfc hlvc hltc)) ?_
  (repeat' (first | refine J_seq ?_ | refine J_skip ?_ | refine J_yes rfl ?_ | refine J_no rfl ?_))
  refine J_region ?_
  refine JL_evO (gs := [999]) rfl ?_
  refine JL_evO (gs := [999]) rfl ?_
  refine JL_evO (gs := [999]) rfl ?_
  refine JL_set 147 (v' := .bool true) rfl (congrArg Value.bool (cdec_yes rfl)) ?_
  refine JL_all [2] rfl ?_
  exact J_ret ⟨_, rfl, congrArg Value.bool (cdec_yes rfl)⟩
end Go.Proofs.Ytjbcgjahfalkaaa
