
/- ScaleRise: what each turn of the halves brings. -/
import Derived.Test.YtjbcgjahfalkaaaScaleL
set_option linter.unusedVariables false
set_option linter.unusedSimpArgs false
namespace Go.Proofs.Ytjbcgjahfalkaaa
open Go.RowKit
set_option maxHeartbeats 4000000 in
theorem scaleRise_fn (nodes : Int) (hn : inB nodes) (ends : Int) (he : inB ends) (A : Option Addr) (c b o : Nat) (l : List Arc) (hA : l ≠ [] → A = some ⟨b, o, none⟩) (hl : ∀ x ∈ l, inB x.fr ∧ inB x.to ∧ inB x.cap) (hs : l.length * 24 ≤ 140737488351232) (tree : Bool) :
    Fn 8 [.int .i64 nodes, .int .i64 ends, .slice A l.length c, .bool tree] [] [.seg b o (arcs l)] fun v _ => v = .bool true := by
  refine Fn_of Try.func8 rfl rfl fun w0 => ?_
  (repeat' (first | refine J_seq ?_ | refine J_skip ?_ | refine J_yes rfl ?_ | refine J_no rfl ?_))
  refine J_region ?_
  refine JL_all [] rfl ?_
  (repeat' (first | refine J_seq ?_ | refine J_skip ?_ | refine J_yes rfl ?_ | refine J_no rfl ?_))
  refine J_region ?_
  refine JL_callR [] (shown13_fn) rfl rfl rfl rfl (by kernel_rfl) trivial (fun _ => rfl) ?_
  rintro v H' ⟨rfl, rfl⟩
  refine ⟨rfl, ?_⟩
  refine JL_all [] rfl ?_
  (repeat' (first | refine J_seq ?_ | refine J_skip ?_ | refine J_yes rfl ?_ | refine J_no rfl ?_))
  refine J_region ?_
  refine JL_all [] rfl ?_
  (repeat' (first | refine J_seq ?_ | refine J_skip ?_ | refine J_yes rfl ?_ | refine J_no rfl ?_))
  refine J_region ?_
  refine JL_run [] rfl ?_
  refine JL_callR [] (made13_fn nodes ends hn he A c b o l hA hl (by omega)) rfl rfl rfl rfl (by kernel_rfl) ⟨⟨0, _, by simp, rfl, shows_seg _ _ _, seen_seg⟩, trivial⟩ (fun _ => rfl) ?_
  rintro v H' ⟨N, A1, cn, hR, hn9, h24, hcm, rfl, rfl⟩
  refine ⟨rfl, ?_⟩
  refine JL_alloc rfl rfl rfl (fun _ => rfl) fun bn => ?_
  refine JL_store 0 rfl rfl rfl rfl rfl [] rfl ?_
  refine JL_know (own_is 1 rfl) fun ⟨_, _, hA1, hla⟩ => ?_
  obtain ⟨g1, hA1⟩ := own_at hA1 hla
  have hA1' : N.arcs ≠ [] → A1 = some ⟨g1, 0, none⟩ := fun h => hA1 (fun h0 => h (List.length_eq_zero_iff.1 (by have := arcs_length N.arcs; rw [h0] at this; simp at this; omega)))
  refine JL_nil ?_
  have hF := hR.fits2
  have hz := zeroFlow N hR
  have hnn := hR.nodes
  obtain ⟨nr, hnr, hst, hn0, hnl, hh6⟩ := made_rooms hR hcm
  obtain ⟨sg, hsg, hse⟩ : ∃ sg : Int, (sg = 112 ∨ sg = 116) ∧ sg = (if tree then 116 else 112) := ⟨_, by cases tree <;> simp, rfl⟩
  (repeat' (first | refine J_seq ?_ | refine J_skip ?_ | refine J_yes rfl ?_ | refine J_no rfl ?_))
  refine J_region ?_
  refine JL_all [] rfl ?_
  refine J_cut [(11, .int .u8 sg), (10, .pointer (some ⟨bn, 0, none⟩))] [blk bn 27 (netC N A1 cn), .own (.slice A1 N.arcs.length cn) 42 3 N.arcs.length (arcs N.arcs)] ?_ ?_
  · cases tree
    · (repeat' (first | refine J_seq ?_ | refine J_skip ?_ | refine J_yes rfl ?_ | refine J_no rfl ?_))
      refine J_region ?_
      refine JL_all [] rfl ?_
      (repeat' (first | refine J_seq ?_ | refine J_skip ?_ | refine J_yes rfl ?_ | refine J_no rfl ?_))
      exact ⟨[0, 1], ⟨by rw [hse]; rfl, rfl, trivial⟩, by decide, rfl⟩
    · (repeat' (first | refine J_seq ?_ | refine J_skip ?_ | refine J_yes rfl ?_ | refine J_no rfl ?_))
      refine J_region ?_
      refine JL_all [] rfl ?_
      (repeat' (first | refine J_seq ?_ | refine J_skip ?_ | refine J_yes rfl ?_ | refine J_no rfl ?_))
      refine J_region ?_
      refine JL_all [] rfl ?_
      exact ⟨[0, 1], ⟨by rw [hse]; rfl, rfl, trivial⟩, by decide, rfl⟩
  (repeat' (first | refine J_seq ?_ | refine J_skip ?_ | refine J_yes rfl ?_ | refine J_no rfl ?_))
  refine J_region ?_
  refine JL_val [] (v := netV N A1 cn) (OpV_blk 0 rfl rfl rfl rfl) rfl ?_
  refine JL_run [] rfl ?_
  refine JL_callR [] (smax_fn sg hsg N hF hR A1 cn g1 0 hA1' nr hnr hst) rfl rfl rfl rfl (by kernel_rfl) ⟨⟨1, _, by simp, rfl, shows_ownS hA1, seen_ownS hA1⟩, trivial⟩ (fun _ => rfl) ?_
  rintro v H' ⟨f, ts, Af, cf, At, ct, hS, rfl, rfl⟩
  obtain ⟨_, hf, htl, hval, hw0, hall, _⟩ := hS.all hR
  have hfl := hf.len
  refine ⟨rfl, ?_⟩
  refine JL_know (own_is 0 rfl) fun ⟨_, _, hAf, hlf⟩ => ?_
  obtain ⟨gf, hAf⟩ := own_at hAf hlf
  have hAf' : f ≠ [] → Af = some ⟨gf, 0, none⟩ := fun h => hAf (by simpa [ints] using h)
  refine JL_know (own_is 1 rfl) fun ⟨_, _, hAt, hlt⟩ => ?_
  obtain ⟨gt, hAt⟩ := own_at hAt hlt
  have hAt' : 0 < ts.length → At = some ⟨gt, 0, none⟩ := fun h => hAt (fun h0 => by have := turns_length ts; rw [h0] at this; simp at this; omega)
  refine JL_all [] rfl ?_
  (repeat' (first | refine J_seq ?_ | refine J_skip ?_ | refine J_yes rfl ?_ | refine J_no rfl ?_))
  refine J_region ?_
  refine JL_all [] rfl ?_
  (repeat' (first | refine J_seq ?_ | refine J_skip ?_ | refine J_yes rfl ?_ | refine J_no rfl ?_))
  refine J_dec rfl (fun h => absurd rfl h) (fun _ => J_skip ?_)
  (repeat' (first | refine J_seq ?_ | refine J_skip ?_ | refine J_yes rfl ?_ | refine J_no rfl ?_))
  refine J_region ?_
  refine JL_all [] rfl ?_
  (repeat' (first | refine J_seq ?_ | refine J_skip ?_ | refine J_yes rfl ?_ | refine J_no rfl ?_))
  refine J_region ?_
  refine JL_all [] rfl ?_
  (repeat' (first | refine J_seq ?_ | refine J_skip ?_ | refine J_yes rfl ?_ | refine J_no rfl ?_))
  refine J_block ?_
  refine J_loopF (σ := Nat) (fun t => [(16, .int .i64 (t : Int)), (15, .int .i64 (wasV ts t)), (13, .slice At ts.length ct), (10, .pointer (some ⟨bn, 0, none⟩))])
    (fun _ => [.own (.slice At ts.length ct) 61 4 ts.length (turns ts), blk bn 27 (netC N A1 cn)]) (fun t => t ≤ ts.length) (fun t => ts.length - t) 0 ⟨rfl, rfl, rfl, rfl, trivial⟩ (Fit.picks [1, 2] (by decide) rfl) (Nat.zero_le _) ?_
  intro k hk
  (repeat' (first | refine J_seq ?_ | refine J_skip ?_ | refine J_yes rfl ?_ | refine J_no rfl ?_))
  refine J_region ?_
  refine JL_all [] rfl ?_
  refine J_dec rfl (fun hlt => J_skip ?_) (fun hge => J_exit ?_)
  · have hkl : k < ts.length := by omega
    obtain ⟨t, ht⟩ : ∃ t, ts[k]? = some t := ⟨ts[k], List.getElem?_eq_getElem hkl⟩
    obtain rfl := hAt' (by omega)
    have hok := hall k t ht
    have hwn : wasV ts (k + 1) = t.v := by unfold wasV; rw [if_neg (by omega), show k + 1 - 1 = k by omega, ht]
    have hle := hh6 k
    have hbd := hok.bound
    have hbd0 := was_in hall k
    have hpos := hok.pos
    have hlt6 : t.least ≤ 1000000 := by rw [hok.least]; exact hle
    have hw1 : (0 : Int) ≤ t.least * t.w := Int.mul_nonneg (by omega) (by omega)
    have hri := hok.rise
    have hml : 2 * t.least * (2 * (N.arcs.length : Int)) ≤ 2 * 1000000 * (2 * 24) := Int.mul_le_mul (by omega) (by omega) (by omega) (by omega)
    have hml0 : 0 ≤ 2 * t.least * (2 * (N.arcs.length : Int)) := Int.mul_nonneg (by omega) (by omega)
    refine J_seq (J_block ?_)
    (repeat' (first | refine J_seq ?_ | refine J_skip ?_ | refine J_yes rfl ?_ | refine J_no rfl ?_))
    refine J_region ?_
    refine JL_run [] rfl ?_
    refine JL_val [] (idxNz rfl rfl rfl rfl rfl hkl) rfl ?_
    refine JL_val [] (OpV_own 0 rfl rfl rfl (readT_turn ht)) rfl ?_
    refine JL_alloc rfl rfl rfl (fun _ => rfl) fun q => ?_
    refine JL_store 0 rfl rfl rfl rfl rfl [] rfl ?_
    refine JL_nil ?_
    (repeat' (first | refine J_seq ?_ | refine J_skip ?_ | refine J_yes rfl ?_ | refine J_no rfl ?_))
    refine J_region ?_
    refine JL_run [] rfl ?_
    refine JL_val [] (v := .int .i64 t.v) (OpV_blk 0 rfl rfl rfl rfl) rfl ?_
    refine JL_run [] rfl ?_
    refine JL_set 48 (v' := .int .i64 (t.v - wasV ts k)) rfl (congrArg (Value.int .i64) (w64 (by omega))) ?_
    refine JL_val [] (v := .int .i64 t.least) (OpV_blk 0 rfl rfl rfl rfl) rfl ?_
    refine JL_run [] rfl ?_
    refine JL_val [] (v := .int .i64 t.w) (OpV_blk 0 rfl rfl rfl rfl) rfl ?_
    refine JL_run [] rfl ?_
    refine JL_set 53 (v' := .int .i64 (t.least * t.w)) rfl (congrArg (Value.int .i64) (w64 (by omega))) ?_
    refine JL_set 55 (v' := .bool false) rfl (congrArg Value.bool (cdec_no (by rw [w64 (by omega)]; omega))) ?_
    refine JL_run [10] rfl ?_
    refine JL_val [10] (v := .int .i64 t.w) (OpV_blk 0 rfl rfl rfl rfl) rfl ?_
    refine JL_run [10] rfl ?_
    refine JL_val [10] (v := .int .i64 t.v) (OpV_blk 0 rfl rfl rfl rfl) rfl ?_
    refine JL_run [10] rfl ?_
    have hsame : (cdec ((t.w : Int) = 0) != cdec (t.v = wasV ts k)) = false := by
      by_cases h0 : t.w = 0
      · rw [cdec_yes (by omega), cdec_yes (hok.same.1 h0)]; rfl
      · rw [cdec_no (by omega), cdec_no (fun h => h0 (hok.same.2 h))]; rfl
    refine JL_set 65 (v' := .bool false) rfl (congrArg Value.bool hsame) ?_
    refine JL_run [10, 20] rfl ?_
    refine JL_val [10, 20] (v := .int .i64 t.w) (OpV_blk 0 rfl rfl rfl rfl) rfl ?_
    refine JL_run [10, 20] rfl ?_
    refine JL_val [10, 20] (v := .int .i64 t.p) (OpV_blk 0 rfl rfl rfl rfl) rfl ?_
    refine JL_run [10, 20] rfl ?_
    refine JL_set 72 (v' := .bool false) rfl (congrArg Value.bool (cdec_no (by have := hok.walks; omega))) ?_
    refine JL_run [10, 20, 27] rfl ?_
    have hq : IntKind.i64.wrap ((k : Int) + 1) = ((k + 1 : Nat) : Int) := w64 (by omega)
    by_cases hk0 : k = 0
    · refine JL_set 75 (v' := .bool false) rfl (congrArg Value.bool (cdec_no (by omega))) ?_
      refine JL_all [10, 20, 27, 30] rfl ?_
      (repeat' (first | refine J_seq ?_ | refine J_skip ?_ | refine J_yes rfl ?_ | refine J_no rfl ?_))
      (repeat' (first | refine J_seq ?_ | refine J_skip ?_ | refine J_yes rfl ?_ | refine J_no rfl ?_))
      refine J_region ?_
      refine JL_run [] rfl ?_
      refine JL_val [] (v := .int .i64 t.v) (OpV_blk 0 rfl rfl rfl rfl) rfl ?_
      refine JL_all [] rfl ?_
      (repeat' (first | refine J_seq ?_ | refine J_skip ?_ | refine J_yes rfl ?_ | refine J_no rfl ?_))
      refine J_region ?_
      refine JL_all [] rfl ?_
      exact ⟨k + 1, ⟨congrArg some (congrArg (Value.int .i64) hq), by rw [hwn]; rfl, rfl, rfl, trivial⟩, Fit.picks [1, 2] (by decide) rfl, hkl, by show ts.length - (k + 1) < ts.length - k; omega⟩
    · have hup := hok.up (by omega)
      refine JL_set 75 (v' := .bool true) rfl (congrArg Value.bool (cdec_yes (by omega))) ?_
      refine JL_run [10, 20, 27, 30] rfl ?_
      refine JL_val [10, 20, 27, 30] (v := .int .i64 t.v) (OpV_blk 0 rfl rfl rfl rfl) rfl ?_
      refine JL_run [10, 20, 27, 30] rfl ?_
      refine JL_val [10, 20, 27, 30] (v := .int .i64 t.least) (OpV_blk 0 rfl rfl rfl rfl) rfl ?_
      refine JL_run [10, 20, 27, 30] rfl ?_
      refine JL_val [10, 20, 27, 30] (v := .slice A1 N.arcs.length cn) (OpV_blk 2 rfl rfl rfl rfl) rfl ?_
      refine JL_run [10, 20, 27, 30] rfl ?_
      have e1 : IntKind.i64.wrap (t.v - wasV ts k) = t.v - wasV ts k := w64 (by omega)
      have e2 : IntKind.i64.wrap (2 * t.least) = 2 * t.least := w64 (by omega)
      have e3 : IntKind.i64.wrap (2 * (N.arcs.length : Int)) = 2 * N.arcs.length := w64 (by omega)
      have hnl2 := hnl (by have := hS.all hR; omega)
      have hmx : (2 * t.least - 1) * (N.arcs.length : Int) < 2 * t.least * (2 * (N.arcs.length : Int)) := by
        have z1 : 2 * t.least * (2 * (N.arcs.length : Int)) = (2 * t.least - 1) * N.arcs.length + (2 * t.least + 1) * N.arcs.length := by grind
        have z2 : 0 < (2 * t.least + 1) * (N.arcs.length : Int) := Int.mul_pos (by omega) (by omega)
        omega
      refine JL_set 90 (v' := .bool false) rfl (congrArg Value.bool (cdec_no (by rw [e1, e2, e3, w64 (by omega)]; omega))) ?_
      refine JL_all [10, 20, 27, 30] rfl ?_
      (repeat' (first | refine J_seq ?_ | refine J_skip ?_ | refine J_yes rfl ?_ | refine J_no rfl ?_))
      (repeat' (first | refine J_seq ?_ | refine J_skip ?_ | refine J_yes rfl ?_ | refine J_no rfl ?_))
      refine J_region ?_
      refine JL_run [] rfl ?_
      refine JL_val [] (v := .int .i64 t.v) (OpV_blk 0 rfl rfl rfl rfl) rfl ?_
      refine JL_all [] rfl ?_
      (repeat' (first | refine J_seq ?_ | refine J_skip ?_ | refine J_yes rfl ?_ | refine J_no rfl ?_))
      refine J_region ?_
      refine JL_all [] rfl ?_
      exact ⟨k + 1, ⟨congrArg some (congrArg (Value.int .i64) hq), by rw [hwn]; rfl, rfl, rfl, trivial⟩, Fit.picks [1, 2] (by decide) rfl, hkl, by show ts.length - (k + 1) < ts.length - k; omega⟩
  · (repeat' (first | refine J_seq ?_ | refine J_skip ?_ | refine J_yes rfl ?_ | refine J_no rfl ?_))
    refine J_region ?_
    refine JL_all [] rfl ?_
    exact J_ret ⟨_, rfl, rfl⟩
end Go.Proofs.Ytjbcgjahfalkaaa
