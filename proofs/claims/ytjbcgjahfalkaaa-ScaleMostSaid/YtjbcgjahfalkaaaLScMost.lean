
/- ScaleMost: the halves come to the greatest value. -/
import Derived.Test.YtjbcgjahfalkaaaScaleL
set_option linter.unusedVariables false
set_option linter.unusedSimpArgs false
namespace Go.Proofs.Ytjbcgjahfalkaaa
open Go.RowKit
set_option maxHeartbeats 4000000 in
theorem scaleMost_fn (nodes : Int) (hn : inB nodes) (ends : Int) (he : inB ends) (A : Option Addr) (c b o : Nat) (l : List Arc) (hA : l ≠ [] → A = some ⟨b, o, none⟩) (hl : ∀ x ∈ l, inB x.fr ∧ inB x.to ∧ inB x.cap) (hs : l.length * 24 ≤ 140737488351232) (tree : Bool) :
    Fn 9 [.int .i64 nodes, .int .i64 ends, .slice A l.length c, .bool tree] [] [.seg b o (arcs l)] fun v _ => v = .bool true := by
  refine Fn_of Try.func9 rfl rfl fun w0 => ?_
  (repeat' (first | refine J_seq ?_ | refine J_skip ?_ | refine J_yes rfl ?_ | refine J_no rfl ?_))
  refine J_region ?_
  refine JL_all [] rfl ?_
  (repeat' (first | refine J_seq ?_ | refine J_skip ?_ | refine J_yes rfl ?_ | refine J_no rfl ?_))
  refine J_region ?_
  refine JL_callR [] (shown13_fn) rfl rfl rfl rfl (by kernel_rfl) trivial (fun _ => rfl) ?_
  rintro v H' ⟨rfl, rfl⟩
  refine ⟨rfl, ?_⟩
  refine JL_all [] rfl ?_
  (repeat' (first | refine J_seq ?_ | refine J_skip ?_ | refine J_yes rfl ?_ | refine J_no rfl ?_))
  refine J_region ?_
  refine JL_all [] rfl ?_
  (repeat' (first | refine J_seq ?_ | refine J_skip ?_ | refine J_yes rfl ?_ | refine J_no rfl ?_))
  refine J_region ?_
  refine JL_run [] rfl ?_
  refine JL_callR [] (made13_fn nodes ends hn he A c b o l hA hl (by omega)) rfl rfl rfl rfl (by kernel_rfl) ⟨⟨0, _, by simp, rfl, shows_seg _ _ _, seen_seg⟩, trivial⟩ (fun _ => rfl) ?_
  rintro v H' ⟨N, A1, cn, hR, hn9, h24, hcm, rfl, rfl⟩
  refine ⟨rfl, ?_⟩
  refine JL_alloc rfl rfl rfl (fun _ => rfl) fun bn => ?_
  refine JL_store 0 rfl rfl rfl rfl rfl [] rfl ?_
  refine JL_know (own_is 1 rfl) fun ⟨_, _, hA1, hla⟩ => ?_
  obtain ⟨g1, hA1⟩ := own_at hA1 hla
  have hA1' : N.arcs ≠ [] → A1 = some ⟨g1, 0, none⟩ := fun h => hA1 (fun h0 => h (List.length_eq_zero_iff.1 (by have := arcs_length N.arcs; rw [h0] at this; simp at this; omega)))
  refine JL_nil ?_
  have hF := hR.fits2
  have hz := zeroFlow N hR
  have hnn := hR.nodes
  obtain ⟨nr, hnr, hst, hn0, hnl, hh6⟩ := made_rooms hR hcm
  obtain ⟨sg, hsg, hse⟩ : ∃ sg : Int, (sg = 112 ∨ sg = 116) ∧ sg = (if tree then 116 else 112) := ⟨_, by cases tree <;> simp, rfl⟩
  (repeat' (first | refine J_seq ?_ | refine J_skip ?_ | refine J_yes rfl ?_ | refine J_no rfl ?_))
  refine J_region ?_
  refine JL_all [] rfl ?_
  refine J_cut [(11, .int .u8 sg), (10, .pointer (some ⟨bn, 0, none⟩))] [blk bn 27 (netC N A1 cn), .own (.slice A1 N.arcs.length cn) 42 3 N.arcs.length (arcs N.arcs)] ?_ ?_
  · cases tree
    · (repeat' (first | refine J_seq ?_ | refine J_skip ?_ | refine J_yes rfl ?_ | refine J_no rfl ?_))
      refine J_region ?_
      refine JL_all [] rfl ?_
      (repeat' (first | refine J_seq ?_ | refine J_skip ?_ | refine J_yes rfl ?_ | refine J_no rfl ?_))
      exact ⟨[0, 1], ⟨by rw [hse]; rfl, rfl, trivial⟩, by decide, rfl⟩
    · (repeat' (first | refine J_seq ?_ | refine J_skip ?_ | refine J_yes rfl ?_ | refine J_no rfl ?_))
      refine J_region ?_
      refine JL_all [] rfl ?_
      (repeat' (first | refine J_seq ?_ | refine J_skip ?_ | refine J_yes rfl ?_ | refine J_no rfl ?_))
      refine J_region ?_
      refine JL_all [] rfl ?_
      exact ⟨[0, 1], ⟨by rw [hse]; rfl, rfl, trivial⟩, by decide, rfl⟩
  (repeat' (first | refine J_seq ?_ | refine J_skip ?_ | refine J_yes rfl ?_ | refine J_no rfl ?_))
  refine J_region ?_
  refine JL_val [] (v := netV N A1 cn) (OpV_blk 0 rfl rfl rfl rfl) rfl ?_
  refine JL_run [] rfl ?_
  refine JL_callR [] (smax_fn sg hsg N hF hR A1 cn g1 0 hA1' nr hnr hst) rfl rfl rfl rfl (by kernel_rfl) ⟨⟨1, _, by simp, rfl, shows_ownS hA1, seen_ownS hA1⟩, trivial⟩ (fun _ => rfl) ?_
  rintro v H' ⟨f, ts, Af, cf, At, ct, hS, rfl, rfl⟩
  obtain ⟨_, hf, htl, hval, hw0, hall, _⟩ := hS.all hR
  have hfl := hf.len
  refine ⟨rfl, ?_⟩
  refine JL_know (own_is 0 rfl) fun ⟨_, _, hAf, hlf⟩ => ?_
  obtain ⟨gf, hAf⟩ := own_at hAf hlf
  have hAf' : f ≠ [] → Af = some ⟨gf, 0, none⟩ := fun h => hAf (by simpa [ints] using h)
  refine JL_know (own_is 1 rfl) fun ⟨_, _, hAt, hlt⟩ => ?_
  obtain ⟨gt, hAt⟩ := own_at hAt hlt
  have hAt' : 0 < ts.length → At = some ⟨gt, 0, none⟩ := fun h => hAt (fun h0 => by have := turns_length ts; rw [h0] at this; simp at this; omega)
  refine JL_all [] rfl ?_
  (repeat' (first | refine J_seq ?_ | refine J_skip ?_ | refine J_yes rfl ?_ | refine J_no rfl ?_))
  refine J_region ?_
  refine JL_val [] (v := netV N A1 cn) (OpV_blk 2 rfl rfl rfl rfl) rfl ?_
  refine JL_run [] rfl ?_
  refine JL_callR [] (maxG_fn N hF hR A1 cn g1 0 hA1' sg hsg) rfl rfl rfl rfl (by kernel_rfl) ⟨⟨3, _, by simp, rfl, shows_ownS hA1, seen_ownS hA1⟩, trivial⟩ (fun _ => rfl) ?_
  rintro v H' ⟨fa, pa, ka, sa, Aa, ca, hda, _, _, _, _, _, rfl, rfl⟩
  obtain ⟨hfa, _, _, lva, hlva, hlta⟩ := hda.keeps hR (by decide) hz
  refine ⟨rfl, ?_⟩
  refine JL_run [] rfl ?_
  refine JL_alloc rfl rfl rfl (fun _ => rfl) fun b15 => ?_
  refine JL_store 0 rfl rfl rfl rfl rfl [] rfl ?_
  refine JL_all [] rfl ?_
  refine J_know (own_is 1 rfl) fun ⟨_, _, hAa, hlaa⟩ => ?_
  obtain ⟨ga, hAa⟩ := own_at hAa hlaa
  have hAa' : fa ≠ [] → Aa = some ⟨ga, 0, none⟩ := fun h => hAa (by simpa [ints] using h)
  have hfal := hfa.len
  (repeat' (first | refine J_seq ?_ | refine J_skip ?_ | refine J_yes rfl ?_ | refine J_no rfl ?_))
  refine J_region ?_
  refine JL_val [] (v := netV N A1 cn) (OpV_blk 4 rfl rfl rfl rfl) rfl ?_
  refine JL_run [] rfl ?_
  refine JL_callR [] (fvalue_fn N hF hR A1 cn g1 0 hA1' f Af cf gf 0 hAf' (IsFlow.inB hR hf.toRanged) (by omega)) rfl rfl rfl rfl (by kernel_rfl) ⟨⟨5, _, by simp, rfl, shows_ownS hA1, seen_ownS hA1⟩, ⟨2, _, by simp, rfl, shows_ownS hAf, seen_ownS hAf⟩, trivial⟩ (fun _ => rfl) ?_
  rintro v H' ⟨⟨rfl, _⟩ | ⟨_, h⟩, rfl⟩
  case inr => exact absurd hf h
  refine ⟨rfl, ?_⟩
  refine JL_all [] rfl ?_
  obtain ⟨v, hv⟩ : ∃ v, v = exZ (N.arcs.zip f) N.snk := ⟨_, rfl⟩
  have hvb := value_bound hR hf.toRanged N.snk
  rw [← hv] at hvb hval
  refine J_set 17 (v' := .int .i64 v) rfl (congrArg (Value.int .i64) hv.symm) ?_
  (repeat' (first | refine J_seq ?_ | refine J_skip ?_ | refine J_yes rfl ?_ | refine J_no rfl ?_))
  refine J_region ?_
  refine JL_val [] (v := netV N A1 cn) (OpV_blk 4 rfl rfl rfl rfl) rfl ?_
  refine JL_run [] rfl ?_
  refine JL_val [] (v := .slice Aa fa.length ca) (OpV_blk 0 rfl rfl rfl rfl) rfl ?_
  refine JL_callR [] (fvalue_fn N hF hR A1 cn g1 0 hA1' fa Aa ca ga 0 hAa' (IsFlow.inB hR hfa.toRanged) (by omega)) rfl rfl rfl rfl (by kernel_rfl) ⟨⟨5, _, by simp, rfl, shows_ownS hA1, seen_ownS hA1⟩, ⟨1, _, by simp, rfl, shows_ownS hAa, seen_ownS hAa⟩, trivial⟩ (fun _ => rfl) ?_
  rintro _ H' ⟨⟨rfl, _⟩ | ⟨_, h⟩, rfl⟩
  case inr => exact absurd hfa h
  refine ⟨rfl, ?_⟩
  refine JL_all [] rfl ?_
  have hgrt : ∀ g, IsFlow N g → exZ (N.arcs.zip g) N.snk ≤ v := by
    intro g hg
    obtain ⟨lv, hlv, hlt⟩ := hS.lev hR hn0 hda.lev
    rw [hv]
    exact great hR hf hg hlv hlt
  have hvw : exZ (N.arcs.zip fa) N.snk = v := by
    have h1 := hgrt fa hfa
    have h2 := great hR hfa hf hlva hlta
    omega
  refine J_set 19 (v' := .int .i64 v) rfl (congrArg (Value.int .i64) hvw) ?_
  (repeat' (first | refine J_seq ?_ | refine J_skip ?_ | refine J_yes rfl ?_ | refine J_no rfl ?_))
  refine J_region ?_
  refine JL_evO (gs := [999]) rfl ?_
  refine JL_evO (gs := [999]) rfl ?_
  refine JL_evO (gs := [999]) rfl ?_
  refine JL_set 60 (v' := .bool false) rfl (congrArg Value.bool (cdec_no (fun h => h rfl))) ?_
  refine JL_run [2] rfl ?_
  refine JL_set 64 (v' := .bool false) rfl (congrArg Value.bool (cdec_no (fun h => h rfl))) ?_
  refine JL_run [2, 6] rfl ?_
  refine JL_set 68 (v' := .bool false) rfl (congrArg Value.bool (cdec_no (fun h => h rfl))) ?_
  refine JL_all [2, 6, 10] rfl ?_
  (repeat' (first | refine J_seq ?_ | refine J_skip ?_ | refine J_yes rfl ?_ | refine J_no rfl ?_))
  refine J_dec rfl (fun h => absurd rfl h) (fun _ => J_skip ?_)
  (repeat' (first | refine J_seq ?_ | refine J_skip ?_ | refine J_yes rfl ?_ | refine J_no rfl ?_))
  refine J_region ?_
  refine JL_val [] (v := netV N A1 cn) (OpV_blk 4 rfl rfl rfl rfl) rfl ?_
  refine JL_callR [] (starts_fn N hR A1 cn g1 0 hA1') rfl rfl rfl rfl (by kernel_rfl) ⟨⟨5, _, by simp, rfl, shows_ownS hA1, seen_ownS hA1⟩, trivial⟩ (fun _ => rfl) ?_
  rintro _ H' ⟨rfl, rfl⟩
  refine ⟨rfl, ?_⟩
  rw [hst]
  refine JL_all [] rfl ?_
  (repeat' (first | refine J_seq ?_ | refine J_skip ?_ | refine J_yes rfl ?_ | refine J_no rfl ?_))
  refine J_region ?_
  refine JL_all [] rfl ?_
  (repeat' (first | refine J_seq ?_ | refine J_skip ?_ | refine J_yes rfl ?_ | refine J_no rfl ?_))
  refine J_region ?_
  refine JL_all [] rfl ?_
  (repeat' (first | refine J_seq ?_ | refine J_skip ?_ | refine J_yes rfl ?_ | refine J_no rfl ?_))
  refine J_block ?_
  refine J_loopF (σ := Nat) (fun t => [(23, .int .i64 (t : Int)), (22, .int .i64 (wasV ts t)), (21, .int .i64 (halfZ nr t)), (17, .int .i64 v), (13, .slice At ts.length ct), (10, .pointer (some ⟨bn, 0, none⟩))])
    (fun _ => [.own (.slice At ts.length ct) 61 4 ts.length (turns ts), blk bn 27 (netC N A1 cn)]) (fun t => t ≤ ts.length) (fun t => ts.length - t) 0 ⟨rfl, rfl, rfl, rfl, rfl, rfl, trivial⟩ (Fit.picks [3, 4] (by decide) rfl) (Nat.zero_le _) ?_
  intro k hk
  (repeat' (first | refine J_seq ?_ | refine J_skip ?_ | refine J_yes rfl ?_ | refine J_no rfl ?_))
  refine J_region ?_
  refine JL_all [] rfl ?_
  refine J_dec rfl (fun hlt => J_skip ?_) (fun hge => J_exit ?_)
  · have hkl : k < ts.length := by omega
    obtain ⟨t, ht⟩ : ∃ t, ts[k]? = some t := ⟨ts[k], List.getElem?_eq_getElem hkl⟩
    obtain rfl := hAt' (by omega)
    have hok := hall k t ht
    have hwn : wasV ts (k + 1) = t.v := by unfold wasV; rw [if_neg (by omega), show k + 1 - 1 = k by omega, ht]
    have hle := hh6 k
    have hbd := hok.bound
    have hbd0 := was_in hall k
    have hpos := hok.pos
    have hri := hok.rise
    have hw1 : (0 : Int) ≤ t.least * t.w := Int.mul_nonneg (by omega) (by omega)
    have hnl2 := hnl (by have := hS.all hR; omega)
    have hgap := hok.gap f hf
    rw [← hv] at hgap
    rw [hok.least] at hgap hpos
    have hml : halfZ nr k * (2 * (N.arcs.length : Int)) ≤ 1000000 * (2 * 24) := Int.mul_le_mul hle (by omega) (by omega) (by decide)
    have hml0 : 0 ≤ halfZ nr k * (2 * (N.arcs.length : Int)) := Int.mul_nonneg (by omega) (by omega)
    have hmx : (halfZ nr k - 1) * (N.arcs.length : Int) < halfZ nr k * (2 * (N.arcs.length : Int)) := by
      have z1 : halfZ nr k * (2 * (N.arcs.length : Int)) = (halfZ nr k - 1) * N.arcs.length + (halfZ nr k + 1) * N.arcs.length := by grind
      have z2 : 0 < (halfZ nr k + 1) * (N.arcs.length : Int) := Int.mul_pos (by omega) (by omega)
      omega
    obtain ⟨q1, q2, _, q4⟩ := turns_get ht
    refine J_seq (J_block ?_)
    (repeat' (first | refine J_seq ?_ | refine J_skip ?_ | refine J_yes rfl ?_ | refine J_no rfl ?_))
    refine J_walk 42 [(0, true), (1, true), (2, true), (3, true), (4, true), (5, true), (6, true), (7, true), (8, true), (9, true), (10, true), (11, true), (12, true), (13, true), (14, true), (15, true), (16, true), (17, true), (18, true), (19, true), (20, true), (21, true), (22, true), (23, true), (24, true), (25, true), (26, true), (27, true), (28, true), (29, true), (30, true), (31, true), (32, true), (33, true), (34, true), (35, true), (36, true), (37, true), (38, true), (39, true), (40, true), (41, true)] [0, 1] (by kernel_rfl) (by decide) rfl ?_
    refine JW_run [] rfl ?_
    refine JW_still [] rfl (idxNz rfl rfl rfl rfl rfl hkl) rfl ?_
    refine JW_run [] rfl ?_
    refine JW_still [] rfl (OpV_own (v := .int .i64 t.least) 0 rfl rfl rfl q1) rfl ?_
    refine JW_run [] rfl ?_
    refine JW_set 88 (v' := .bool false) rfl (congrArg Value.bool (cdec_no (fun h => h hok.least))) ?_
    refine JW_run [7] rfl ?_
    refine JW_still [7] rfl (idxNz rfl rfl rfl rfl rfl hkl) rfl ?_
    refine JW_run [7] rfl ?_
    refine JW_still [7] rfl (OpV_own (v := .int .i64 t.v) 0 rfl rfl rfl q4) rfl ?_
    refine JW_run [7] rfl ?_
    refine JW_set 97 (v' := .bool false) rfl (congrArg Value.bool (cdec_no (by omega))) ?_
    refine JW_run [7, 16] rfl ?_
    refine JW_still [7, 16] rfl (idxNz rfl rfl rfl rfl rfl hkl) rfl ?_
    refine JW_run [7, 16] rfl ?_
    refine JW_still [7, 16] rfl (OpV_own (v := .int .i64 t.v) 0 rfl rfl rfl q4) rfl ?_
    refine JW_run [7, 16] rfl ?_
    refine JW_still [7, 16] rfl (OpV_blk (v := .slice A1 N.arcs.length cn) 1 rfl rfl rfl rfl) rfl ?_
    refine JW_run [7, 16] rfl ?_
    have e1 : IntKind.i64.wrap (v - t.v) = v - t.v := w64 (by omega)
    have e3 : IntKind.i64.wrap (2 * (N.arcs.length : Int)) = 2 * N.arcs.length := w64 (by omega)
    refine JW_set 113 (v' := .bool false) rfl (congrArg Value.bool (cdec_no (by rw [e1, e3, w64 (by omega)]; omega))) ?_
    refine JW_run [7, 16, 32] rfl ?_
    refine JW_still [7, 16, 32] rfl (idxNz rfl rfl rfl rfl rfl hkl) rfl ?_
    refine JW_run [7, 16, 32] rfl ?_
    refine JW_still [7, 16, 32] rfl (OpV_own (v := .int .i64 t.p) 0 rfl rfl rfl q2) rfl ?_
    refine JW_run [7, 16, 32] rfl ?_
    refine JW_still [7, 16, 32] rfl (OpV_blk (v := .int .i64 N.nodes) 1 rfl rfl rfl rfl) rfl ?_
    refine JW_all [7, 16, 32] rfl ?_
    refine JL_set 122 (v' := .bool false) rfl (congrArg Value.bool (cdec_no (by have := hok.few; omega))) ?_
    refine JL_nil ?_
    (repeat' (first | refine J_seq ?_ | refine J_skip ?_ | refine J_yes rfl ?_ | refine J_no rfl ?_))
    (repeat' (first | refine J_seq ?_ | refine J_skip ?_ | refine J_yes rfl ?_ | refine J_no rfl ?_))
    refine J_region ?_
    refine JL_run [] rfl ?_
    refine JL_val [] (idxNz rfl rfl rfl rfl rfl hkl) rfl ?_
    refine JL_run [] rfl ?_
    refine JL_val [] (OpV_own (v := .int .i64 t.v) 0 rfl rfl rfl q4) rfl ?_
    refine JL_all [] rfl ?_
    (repeat' (first | refine J_seq ?_ | refine J_skip ?_ | refine J_yes rfl ?_ | refine J_no rfl ?_))
    refine J_region ?_
    refine JL_all [] rfl ?_
    refine J_set 21 (v' := .int .i64 (halfZ nr (k + 1))) rfl (congrArg (Value.int .i64) (by
      have h0 := halfZ_nonneg nr k
      have ht2 := tmod_cases (halfZ nr k) (m := 2) (by decide)
      rw [halfZ_half, w64 (by omega)]
      omega)) ?_
    (repeat' (first | refine J_seq ?_ | refine J_skip ?_ | refine J_yes rfl ?_ | refine J_no rfl ?_))
    refine J_region ?_
    refine JL_all [] rfl ?_
    exact ⟨k + 1, ⟨congrArg some (congrArg (Value.int .i64) (w64 (n := (k : Int) + 1) (by omega))), by rw [hwn]; rfl, rfl, rfl, rfl, rfl, trivial⟩, Fit.picks [0, 1] (by decide) rfl, hkl, by show ts.length - (k + 1) < ts.length - k; omega⟩
  · obtain rfl : k = ts.length := by omega
    rw [htl, ← hval, halfZ_end (Nat.le_refl _)]
    (repeat' (first | refine J_seq ?_ | refine J_skip ?_ | refine J_yes rfl ?_ | refine J_no rfl ?_))
    refine J_region ?_
    refine JL_evO (gs := [999]) rfl ?_
    refine JL_evO (gs := [999]) rfl ?_
    refine JL_evO (gs := [999]) rfl ?_
    refine JL_set 132 (v' := .bool true) rfl (congrArg Value.bool (cdec_yes rfl)) ?_
    refine JL_run [2] rfl ?_
    refine JL_set 137 (v' := .bool true) rfl (congrArg Value.bool (cdec_yes rfl)) ?_
    refine JL_run [2, 7] rfl ?_
    by_cases h0 : nr = 0
    · have hv0 : v = 0 := by rw [hval, h0]; rfl
      refine JL_set 141 (v' := .bool false) rfl (congrArg Value.bool (cdec_no (by omega))) ?_
      refine JL_all [2, 7, 11] rfl ?_
      exact J_ret ⟨_, rfl, congrArg Value.bool (cdec_yes hv0)⟩
    · refine JL_set 141 (v' := .bool true) rfl (congrArg Value.bool (cdec_yes (by omega))) ?_
      refine JL_all [2, 7, 11] rfl ?_
      exact J_ret ⟨_, rfl, rfl⟩
end Go.Proofs.Ytjbcgjahfalkaaa
