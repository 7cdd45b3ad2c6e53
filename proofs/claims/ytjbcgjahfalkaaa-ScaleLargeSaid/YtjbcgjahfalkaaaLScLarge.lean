
/- ScaleLarge: of networks whose capacities are as many times greater all is as many times greater. -/
import Derived.Test.YtjbcgjahfalkaaaLargeQ
import Derived.Test.YtjbcgjahfalkaaaQX1
set_option linter.unusedVariables false
set_option linter.unusedSimpArgs false
namespace Go.Proofs.Ytjbcgjahfalkaaa
open Go.RowKit
set_option maxHeartbeats 4000000 in
theorem scaleLarge_fn (nodes : Int) (hn : inB nodes) (ends : Int) (he : inB ends) (A : Option Addr) (c b o : Nat) (l : List Arc) (hA : l ≠ [] → A = some ⟨b, o, none⟩) (hl : ∀ x ∈ l, inB x.fr ∧ inB x.to ∧ inB x.cap) (hs : l.length * 24 ≤ 140737488351232) (pw : Int) (hpw : inB pw) :
    Fn 6 [.int .i64 nodes, .int .i64 ends, .slice A l.length c, .int .i64 pw] [] [.seg b o (arcs l)] fun v _ => v = .bool true := by
  refine Fn_of Try.func6 rfl rfl fun w0 => ?_
  (repeat' (first | refine J_seq ?_ | refine J_skip ?_ | refine J_yes rfl ?_ | refine J_no rfl ?_))
  refine J_region ?_
  refine JL_all [] rfl ?_
  (repeat' (first | refine J_seq ?_ | refine J_skip ?_ | refine J_yes rfl ?_ | refine J_no rfl ?_))
  refine J_region ?_
  refine JL_callR [] (shown13_fn) rfl rfl rfl rfl (by kernel_rfl) trivial (fun _ => rfl) ?_
  rintro v H' ⟨rfl, rfl⟩
  refine ⟨rfl, ?_⟩
  refine JL_all [] rfl ?_
  (repeat' (first | refine J_seq ?_ | refine J_skip ?_ | refine J_yes rfl ?_ | refine J_no rfl ?_))
  refine J_region ?_
  refine JL_all [] rfl ?_
  (repeat' (first | refine J_seq ?_ | refine J_skip ?_ | refine J_yes rfl ?_ | refine J_no rfl ?_))
  refine J_region ?_
  refine JL_run [] rfl ?_
  refine JL_callR [] (made13_fn nodes ends hn he A c b o l hA hl (by omega)) rfl rfl rfl rfl (by kernel_rfl) ⟨⟨0, _, by simp, rfl, shows_seg _ _ _, seen_seg⟩, trivial⟩ (fun _ => rfl) ?_
  rintro v H' ⟨N, A1, cn, hR, hn9, h24, hcm, rfl, rfl⟩
  refine ⟨rfl, ?_⟩
  refine JL_alloc rfl rfl rfl (fun _ => rfl) fun bn => ?_
  refine JL_store 0 rfl rfl rfl rfl rfl [] rfl ?_
  refine JL_know (own_is 1 rfl) fun ⟨_, _, hA1, hla⟩ => ?_
  obtain ⟨g1, hA1⟩ := own_at hA1 hla
  have hA1' : N.arcs ≠ [] → A1 = some ⟨g1, 0, none⟩ := fun h => hA1 (fun h0 => h (List.length_eq_zero_iff.1 (by have := arcs_length N.arcs; rw [h0] at this; simp at this; omega)))
  refine JL_nil ?_
  have hF := hR.fits2
  have hz := zeroFlow N hR
  have hnn := hR.nodes
  have hp30 := pickZ_in (c := pw) (n := 30) (by decide)
  obtain ⟨e, hee⟩ : ∃ e : Nat, pickZ pw 30 = e := ⟨(pickZ pw 30).toNat, by omega⟩
  have he30 : e < 30 := by omega
  have hC0 : (0 : Int) < 2 ^ e := Int.pow_pos (by decide)
  have hC1 : (2 : Int) ^ e ≤ 1000000000 := by
    have : (2 : Nat) ^ e ≤ 2 ^ 29 := Nat.pow_le_pow_right (by decide) (by omega)
    have h3 : ((2 ^ e : Nat) : Int) ≤ ((2 ^ 29 : Nat) : Int) := by omega
    rw [Int.natCast_pow] at h3
    exact Int.le_trans h3 (by decide)
  (repeat' (first | refine J_seq ?_ | refine J_skip ?_ | refine J_yes rfl ?_ | refine J_no rfl ?_))
  refine J_region ?_
  refine JL_run [] rfl ?_
  refine JL_callR [] (pick13_fn hpw (by decide : (0 : Int) < 30)) rfl rfl rfl rfl (by kernel_rfl) trivial (fun _ => rfl) ?_
  rintro v H' ⟨rfl, rfl⟩
  refine ⟨rfl, ?_⟩
  refine JL_all [] rfl ?_
  refine J_set 11 (v' := .int .i64 (e : Int)) rfl (congrArg (Value.int .i64) hee) ?_
  (repeat' (first | refine J_seq ?_ | refine J_skip ?_ | refine J_yes rfl ?_ | refine J_no rfl ?_))
  refine J_region ?_
  refine JL_run [] rfl ?_
  refine JL_val [] (v := .int .i64 N.nodes) (OpV_blk 0 rfl rfl rfl rfl) rfl ?_
  refine JL_run [] rfl ?_
  refine JL_val [] (v := .int .i64 N.src) (OpV_blk 0 rfl rfl rfl rfl) rfl ?_
  refine JL_run [] rfl ?_
  refine JL_val [] (v := .int .i64 N.snk) (OpV_blk 0 rfl rfl rfl rfl) rfl ?_
  refine JL_run [] rfl ?_
  refine JL_val [] (OpV_build rfl rfl rfl rfl rfl rfl) rfl ?_
  refine JL_alloc rfl rfl rfl (fun _ => rfl) fun bm => ?_
  refine JL_store 0 rfl rfl rfl rfl rfl [] rfl ?_
  refine JL_nil ?_
  (repeat' (first | refine J_seq ?_ | refine J_skip ?_ | refine J_yes rfl ?_ | refine J_no rfl ?_))
  refine J_region ?_
  refine JL_all [] rfl ?_
  (repeat' (first | refine J_seq ?_ | refine J_skip ?_ | refine J_yes rfl ?_ | refine J_no rfl ?_))
  refine J_addnil 42 3 ?_
  refine J_block ?_
  refine J_loopF (σ := Nat × Option Addr × Nat) (fun t => [(13, .int .i64 (t.1 : Int)), (12, .pointer (some ⟨bm, 0, none⟩)), (10, .pointer (some ⟨bn, 0, none⟩)), (11, .int .i64 (e : Int))])
    (fun t => [blk bm 27 [.int .i64 N.nodes, .int .i64 N.src, .int .i64 N.snk, .slice t.2.1 t.1 t.2.2], .own (.slice t.2.1 t.1 t.2.2) 42 3 t.1 (arcs ((N.arcs.take t.1).map (bigA (2 ^ e)))), blk bn 27 (netC N A1 cn), .own (.slice A1 N.arcs.length cn) 42 3 N.arcs.length (arcs N.arcs)])
    (fun t => t.1 ≤ N.arcs.length) (fun t => N.arcs.length - t.1) (0, none, 0) ⟨rfl, rfl, rfl, rfl, trivial⟩ (Fit.picks [1, 0, 2, 3] (by decide) rfl) (Nat.zero_le _) ?_
  rintro ⟨k, A2, c2⟩ hk
  simp only at hk ⊢
  (repeat' (first | refine J_seq ?_ | refine J_skip ?_ | refine J_yes rfl ?_ | refine J_no rfl ?_))
  refine J_region ?_
  refine JL_run [] rfl ?_
  refine JL_val [] (v := .slice A1 N.arcs.length cn) (OpV_blk 2 rfl rfl rfl rfl) rfl ?_
  refine JL_all [] rfl ?_
  refine J_dec rfl (fun hlt => J_skip ?_) (fun hge => J_exit ?_)
  · have hkl : k < N.arcs.length := by omega
    obtain ⟨a, ha⟩ : ∃ a, N.arcs[k]? = some a := ⟨N.arcs[k], List.getElem?_eq_getElem hkl⟩
    obtain rfl := hA1' (by intro h0; rw [h0] at hkl; simp at hkl)
    have har := hR.arc a (List.mem_of_getElem? ha)
    have hac := hcm a (List.mem_of_getElem? ha)
    have hmul : a.cap * 2 ^ e ≤ 1000000 * 1000000000 := Int.mul_le_mul hac hC1 (by omega) (by decide)
    have hmul0 : 0 ≤ a.cap * 2 ^ e := Int.mul_nonneg har.2.2 (by omega)
    refine J_seq (J_block ?_)
    (repeat' (first | refine J_seq ?_ | refine J_skip ?_ | refine J_yes rfl ?_ | refine J_no rfl ?_))
    refine J_region ?_
    refine JL_run [] rfl ?_
    refine JL_val [] (v := .slice (some ⟨g1, 0, none⟩) N.arcs.length cn) (OpV_blk 2 rfl rfl rfl rfl) rfl ?_
    refine JL_run [] rfl ?_
    refine JL_val [] (idxNz rfl rfl rfl rfl rfl hkl) rfl ?_
    refine JL_val [] (OpV_own 3 rfl rfl rfl (readT_arc ha)) rfl ?_
    refine JL_alloc rfl rfl rfl (fun _ => rfl) fun q => ?_
    refine JL_store 0 rfl rfl rfl rfl rfl [] rfl ?_
    refine JL_nil ?_
    (repeat' (first | refine J_seq ?_ | refine J_skip ?_ | refine J_yes rfl ?_ | refine J_no rfl ?_))
    refine J_region ?_
    refine JL_run [] rfl ?_
    refine JL_val [] (v := .int .i64 a.cap) (OpV_blk 0 rfl rfl rfl rfl) rfl ?_
    refine JL_run [] rfl ?_
    refine JL_val [] (OpV_shl rfl rfl rfl) rfl ?_
    refine JL_set 55 (v' := .int .i64 (a.cap * 2 ^ e)) rfl (congrArg (Value.int .i64) (by rw [show min e IntKind.i64.bits = e from Nat.min_eq_left (by show e ≤ 64; omega)]; exact w64 (by omega))) ?_
    refine JL_run [] rfl ?_
    refine JL_store 0 rfl rfl rfl rfl rfl [] rfl ?_
    refine JL_nil ?_
    (repeat' (first | refine J_seq ?_ | refine J_skip ?_ | refine J_yes rfl ?_ | refine J_no rfl ?_))
    refine J_region ?_
    refine JL_run [] rfl ?_
    refine JL_val [] (v := .slice A2 k c2) (OpV_blk 1 rfl rfl rfl rfl) rfl ?_
    refine JL_val [] (v := .agg #[.int .i64 a.fr, .int .i64 a.to, .int .i64 (a.cap * 2 ^ e)]) (OpV_blk 0 rfl rfl rfl rfl) rfl ?_
    refine JL_lit rfl rfl rfl rfl rfl rfl rfl (fun _ => rfl) fun g5 => ?_
    refine JL_appendS (n := k) (m := 1) (off := 0) (news := arcs [⟨a.fr, a.to, a.cap * 2 ^ e⟩]) 3 0 rfl rfl rfl rfl rfl rfl (by decide) rfl rfl (shows_blk g5 _ _ (0, 0)) (fun _ => rfl) rfl rfl (by omega) (by omega) (fun _ _ => rfl) fun A5 c5 => ?_
    refine JL_run [] rfl ?_
    refine JL_store 2 rfl rfl rfl rfl rfl [] rfl ?_
    refine JL_nil ?_
    rw [← big_arcs _ _ _ _ ha]
    (repeat' (first | refine J_seq ?_ | refine J_skip ?_ | refine J_yes rfl ?_ | refine J_no rfl ?_))
    refine J_region ?_
    refine JL_all [] rfl ?_
    exact ⟨(k + 1, A5, c5), ⟨congrArg some (congrArg (Value.int .i64) (w64 (n := (k : Int) + 1) (by omega))), rfl, rfl, rfl, trivial⟩, Fit.picks [2, 3, 4, 5] (by decide) rfl, hkl, by show N.arcs.length - (k + 1) < N.arcs.length - k; omega⟩
  obtain rfl : k = N.arcs.length := by omega
  rw [List.take_of_length_le (Nat.le_refl _)]
  have hM : (bigN N (2 ^ e)).Right := big_right hR hcm hC0 hC1
  have hMl : (bigN N (2 ^ e)).arcs.length = N.arcs.length := big_len
  have hboth := fun {f g : List Int} {ts tb : List Turn} (h1 : Sc N (nrOf (mostC N.arcs)) (nrOf (mostC N.arcs)) f ts) h2 => big_both (e := e) hR hM (f := f) (g := g) (ts := ts) (tb := tb) h1 h2
  refine J_fit (K := [blk bm 27 (netC (bigN N (2 ^ e)) A2 c2), .own (.slice A2 (bigN N (2 ^ e)).arcs.length c2) 42 3 (bigN N (2 ^ e)).arcs.length (arcs (bigN N (2 ^ e)).arcs), blk bn 27 (netC N A1 cn), .own (.slice A1 N.arcs.length cn) 42 3 N.arcs.length (arcs N.arcs)]) (by
    unfold netC
    rw [hMl]
    exact Fit.refl) ?_
  obtain ⟨M, hMe⟩ : ∃ M, M = bigN N (2 ^ e) := ⟨_, rfl⟩
  rw [← hMe] at hM hMl hboth ⊢
  have hG := hM.fits2
  refine J_know (own_is 1 rfl) fun ⟨_, _, hA2, hl2⟩ => ?_
  obtain ⟨g2, hA2⟩ := own_at hA2 hl2
  have hA2' : M.arcs ≠ [] → A2 = some ⟨g2, 0, none⟩ := fun h => hA2 (fun h0 => h (List.length_eq_zero_iff.1 (by have := arcs_length M.arcs; rw [h0] at this; simp at this; omega)))
  have hb1 := mostC_in hR N.arcs.length
  rw [List.take_of_length_le (Nat.le_refl _)] at hb1
  have hb2 := mostC_in hM M.arcs.length
  rw [List.take_of_length_le (Nat.le_refl _)] at hb2
  obtain ⟨n1, n2, _⟩ := floor_nr hb1.1 hb1.2
  obtain ⟨m1, m2, _⟩ := floor_nr hb2.1 hb2.2
  (repeat' (first | refine J_seq ?_ | refine J_skip ?_ | refine J_yes rfl ?_ | refine J_no rfl ?_))
  refine J_region ?_
  refine JL_val [] (v := netV N A1 cn) (OpV_blk 2 rfl rfl rfl rfl) rfl ?_
  refine JL_callR [] (smax_fn 112 (.inl rfl) N hF hR A1 cn g1 0 hA1' _ n1 n2) rfl rfl rfl rfl (by kernel_rfl) ⟨⟨3, _, by simp, rfl, shows_ownS hA1, seen_ownS hA1⟩, trivial⟩ (fun _ => rfl) ?_
  rintro v H' ⟨f, ts, Af, cf, At, ct, hS, rfl, rfl⟩
  obtain ⟨_, hf, htl, hval, hw0, hall, _⟩ := hS.all hR
  have hfl := hf.len
  refine ⟨rfl, ?_⟩
  refine JL_know (own_is 0 rfl) fun ⟨_, _, hAf, hlf⟩ => ?_
  obtain ⟨gf, hAf⟩ := own_at hAf hlf
  have hAf' : f ≠ [] → Af = some ⟨gf, 0, none⟩ := fun h => hAf (by simpa [ints] using h)
  refine JL_know (own_is 1 rfl) fun ⟨_, _, hAt, hlt⟩ => ?_
  obtain ⟨gt, hAt⟩ := own_at hAt hlt
  have hAt' : 0 < ts.length → At = some ⟨gt, 0, none⟩ := fun h => hAt (fun h0 => by have := turns_length ts; rw [h0] at this; simp at this; omega)
  refine JL_all [] rfl ?_
  (repeat' (first | refine J_seq ?_ | refine J_skip ?_ | refine J_yes rfl ?_ | refine J_no rfl ?_))
  refine J_region ?_
  refine JL_val [] (v := netV M A2 c2) (OpV_blk 2 rfl rfl rfl rfl) rfl ?_
  refine JL_callR [] (smax_fn 112 (.inl rfl) M hG hM A2 c2 g2 0 hA2' _ m1 m2) rfl rfl rfl rfl (by kernel_rfl) ⟨⟨3, _, by simp, rfl, shows_ownS hA2, seen_ownS hA2⟩, trivial⟩ (fun _ => rfl) ?_
  rintro v H' ⟨g, tb, Ag, cg, Au, cu, hS2, rfl, rfl⟩
  obtain ⟨_, hg, hbl, _, _, hallb, _⟩ := hS2.all hM
  have hgl := hg.len
  obtain ⟨b1, b2, b3, b4, b5⟩ := hboth hS hS2
  refine ⟨rfl, ?_⟩
  refine JL_know (own_is 0 rfl) fun ⟨_, _, hAg, hlg⟩ => ?_
  obtain ⟨gg, hAg⟩ := own_at hAg hlg
  have hAg' : g ≠ [] → Ag = some ⟨gg, 0, none⟩ := fun h => hAg (by simpa [ints] using h)
  refine JL_know (own_is 1 rfl) fun ⟨_, _, hAu, hlu⟩ => ?_
  obtain ⟨gu, hAu⟩ := own_at hAu hlu
  have hAu' : 0 < tb.length → Au = some ⟨gu, 0, none⟩ := fun h => hAu (fun h0 => by have := turns_length tb; rw [h0] at this; simp at this; omega)
  refine JL_all [] rfl ?_
  have hlen : g.length = f.length := by omega
  have hKK : True := trivial
  refine J_cut [(11, .int .i64 (e : Int)), (15, .slice Af f.length cf), (16, .slice At ts.length ct), (18, .slice Ag g.length cg), (19, .slice Au tb.length cu)]
    [.own (.slice Ag g.length cg) 2 1 g.length (ints g), .own (.slice Au tb.length cu) 61 4 tb.length (turns tb), .own (.slice Af f.length cf) 2 1 f.length (ints f), .own (.slice At ts.length ct) 61 4 ts.length (turns ts)] ?_ ?_
  · (repeat' (first | refine J_seq ?_ | refine J_skip ?_ | refine J_yes rfl ?_ | refine J_no rfl ?_))
    refine J_region ?_
    refine JL_evO (gs := [999]) rfl ?_
    refine JL_evO (gs := [999]) rfl ?_
    refine JL_evO (gs := [999]) rfl ?_
    refine JL_set 77 (v' := .bool false) rfl (congrArg Value.bool (cdec_no (fun h => h rfl))) ?_
    refine JL_run [2] rfl ?_
    refine JL_set 81 (v' := .bool false) rfl (congrArg Value.bool (cdec_no (fun h => h rfl))) ?_
    refine JL_run [2, 6] rfl ?_
    refine JL_set 88 (v' := .bool false) rfl (congrArg Value.bool (cdec_no (by omega))) ?_
    refine JL_run [2, 6, 13] rfl ?_
    by_cases h0 : ts.length = 0
    · refine JL_set 92 (v' := .bool false) rfl (congrArg Value.bool (cdec_no (by omega))) ?_
      refine JL_run [2, 6, 13, 17, 27] rfl ?_
      refine JL_set 106 (v' := .bool true) rfl (congrArg Value.bool (cdec_yes (by omega))) ?_
      refine JL_all [2, 6, 13, 17, 27, 31] rfl ?_
      refine J_set 111 (v' := .bool false) rfl (congrArg Value.bool (cdec_no (by have := b3 h0; omega))) ?_
      refine J_no rfl (J_skip ?_)
      exact ⟨[0, 1, 2, 3], ⟨rfl, rfl, rfl, rfl, rfl, trivial⟩, by decide, rfl⟩
    · refine JL_set 92 (v' := .bool true) rfl (congrArg Value.bool (cdec_yes (by omega))) ?_
      refine JL_run [2, 6, 13, 17] rfl ?_
      refine JL_set 102 (v' := .bool false) rfl (congrArg Value.bool (cdec_no (by rw [w64 (by omega)]; have := b2 (by omega); omega))) ?_
      refine JL_run [2, 6, 13, 17, 27] rfl ?_
      refine JL_set 106 (v' := .bool false) rfl (congrArg Value.bool (cdec_no (by omega))) ?_
      refine JL_all [2, 6, 13, 17, 27, 31] rfl ?_
      refine J_no rfl (J_skip ?_)
      exact ⟨[0, 1, 2, 3], ⟨rfl, rfl, rfl, rfl, rfl, trivial⟩, by decide, rfl⟩
  have hmin : min e IntKind.i64.bits = e := Nat.min_eq_left (by show e ≤ 64; omega)
  have hAg2 : 0 < g.length → Ag = some ⟨gg, 0, none⟩ := fun h => hAg' (fun h0 => by rw [h0] at h; simp at h)
  have hAf2 : 0 < f.length → Af = some ⟨gf, 0, none⟩ := fun h => hAf' (fun h0 => by rw [h0] at h; simp at h)
  (repeat' (first | refine J_seq ?_ | refine J_skip ?_ | refine J_yes rfl ?_ | refine J_no rfl ?_))
  refine J_region ?_
  refine JL_all [] rfl ?_
  (repeat' (first | refine J_seq ?_ | refine J_skip ?_ | refine J_yes rfl ?_ | refine J_no rfl ?_))
  refine J_block ?_
  refine J_loopF (σ := Nat) (fun t => [(21, .int .i64 (t : Int)), (11, .int .i64 (e : Int)), (15, .slice Af f.length cf), (16, .slice At ts.length ct), (18, .slice Ag g.length cg), (19, .slice Au tb.length cu)])
    (fun _ => [.own (.slice Ag g.length cg) 2 1 g.length (ints g), .own (.slice Au tb.length cu) 61 4 tb.length (turns tb), .own (.slice Af f.length cf) 2 1 f.length (ints f), .own (.slice At ts.length ct) 61 4 ts.length (turns ts)]) (fun t => t ≤ f.length) (fun t => f.length - t) 0 ⟨rfl, rfl, rfl, rfl, rfl, rfl, trivial⟩ Fit.refl (Nat.zero_le _) ?_
  intro k hk
  (repeat' (first | refine J_seq ?_ | refine J_skip ?_ | refine J_yes rfl ?_ | refine J_no rfl ?_))
  refine J_region ?_
  refine JL_all [] rfl ?_
  refine J_dec rfl (fun hlt => J_skip ?_) (fun hge => J_exit ?_)
  · have hkl : k < f.length := by omega
    obtain ⟨x, hx⟩ : ∃ x, f[k]? = some x := ⟨f[k], List.getElem?_eq_getElem hkl⟩
    have hgx : g[k]? = some (x * 2 ^ e) := by rw [b1]; unfold bigL; rw [List.getElem?_map, hx]; rfl
    have hxb := IsFlow.inB hM hg.toRanged _ (List.mem_of_getElem? hgx)
    obtain rfl := hAf2 (by omega)
    obtain rfl := hAg2 (by omega)
    refine J_seq (J_block ?_)
    (repeat' (first | refine J_seq ?_ | refine J_skip ?_ | refine J_yes rfl ?_ | refine J_no rfl ?_))
    refine J_walk 11 [(0, true), (1, true), (2, true), (3, true), (4, true), (5, true), (6, true), (7, true), (8, true), (9, true), (10, true)] [0, 2] (by kernel_rfl) (by decide) rfl ?_
    refine JW_run [] rfl ?_
    refine JW_still [] rfl (idx1z rfl rfl rfl rfl rfl (by omega)) rfl ?_
    refine JW_still [] rfl (OpV_own 0 rfl rfl rfl (readT_int hgx)) rfl ?_
    refine JW_run [] rfl ?_
    refine JW_still [] rfl (idx1z rfl rfl rfl rfl rfl hkl) rfl ?_
    refine JW_still [] rfl (OpV_own 1 rfl rfl rfl (readT_int hx)) rfl ?_
    refine JW_run [] rfl ?_
    refine JW_still [] rfl (OpV_shl rfl rfl rfl) rfl ?_
    refine JW_all [] rfl ?_
    refine JL_set 128 (v' := .bool false) rfl (congrArg Value.bool (cdec_no (by rw [hmin, w64 hxb]; exact fun h => h rfl))) ?_
    refine JL_nil ?_
    (repeat' (first | refine J_seq ?_ | refine J_skip ?_ | refine J_yes rfl ?_ | refine J_no rfl ?_))
    (repeat' (first | refine J_seq ?_ | refine J_skip ?_ | refine J_yes rfl ?_ | refine J_no rfl ?_))
    refine J_region ?_
    refine JL_all [] rfl ?_
    exact ⟨k + 1, ⟨congrArg some (congrArg (Value.int .i64) (w64 (n := (k : Int) + 1) (by omega))), rfl, rfl, rfl, rfl, rfl, trivial⟩, Fit.refl, hkl, by show f.length - (k + 1) < f.length - k; omega⟩
  (repeat' (first | refine J_seq ?_ | refine J_skip ?_ | refine J_yes rfl ?_ | refine J_no rfl ?_))
  refine J_region ?_
  refine JL_all [] rfl ?_
  (repeat' (first | refine J_seq ?_ | refine J_skip ?_ | refine J_yes rfl ?_ | refine J_no rfl ?_))
  refine J_block ?_
  refine J_loopF (σ := Nat) (fun t => [(22, .int .i64 (t : Int)), (11, .int .i64 (e : Int)), (15, .slice Af f.length cf), (16, .slice At ts.length ct), (18, .slice Ag g.length cg), (19, .slice Au tb.length cu)])
    (fun _ => [.own (.slice Ag g.length cg) 2 1 g.length (ints g), .own (.slice Au tb.length cu) 61 4 tb.length (turns tb), .own (.slice Af f.length cf) 2 1 f.length (ints f), .own (.slice At ts.length ct) 61 4 ts.length (turns ts)]) (fun t => t ≤ ts.length) (fun t => ts.length - t) 0 ⟨rfl, rfl, rfl, rfl, rfl, rfl, trivial⟩ Fit.refl (Nat.zero_le _) ?_
  intro k hk
  (repeat' (first | refine J_seq ?_ | refine J_skip ?_ | refine J_yes rfl ?_ | refine J_no rfl ?_))
  refine J_region ?_
  refine JL_all [] rfl ?_
  refine J_dec rfl (fun hlt => J_skip ?_) (fun hge => J_exit ?_)
  · have hkl : k < ts.length := by omega
    obtain ⟨t, ht⟩ : ∃ t, ts[k]? = some t := ⟨ts[k], List.getElem?_eq_getElem hkl⟩
    have hu := b4 k t ht
    have hul := (List.getElem?_eq_some_iff.1 hu).1
    obtain ⟨q1, q2, q3, q4⟩ := turns_get ht
    obtain ⟨u1, u2, u3, u4⟩ := turns_get hu
    have hub := hallb k _ hu
    have z1 : (bigT (2 ^ e) t).least = t.least * 2 ^ e := rfl
    have z4 : (bigT (2 ^ e) t).v = t.v * 2 ^ e := rfl
    have hb1 : inB (t.least * 2 ^ e) := by
      have e1 := hub.least
      have e2 := halfZ_le (nr := nrOf (mostC M.arcs)) (k := k) (by omega)
      have e3 := hub.pos
      rw [z1] at e1 e3
      unfold inB; omega
    have hb4 : inB (t.v * 2 ^ e) := by
      have e1 := hub.bound
      rw [z4] at e1
      unfold inB; omega
    obtain rfl := hAt' (by omega)
    obtain rfl := hAu' (by omega)
    refine J_seq (J_block ?_)
    (repeat' (first | refine J_seq ?_ | refine J_skip ?_ | refine J_yes rfl ?_ | refine J_no rfl ?_))
    refine J_walk 54 [(0, true), (1, true), (2, true), (3, true), (4, true), (5, true), (6, true), (7, true), (8, true), (9, true), (10, true), (11, true), (12, true), (13, true), (14, true), (15, true), (16, true), (17, true), (18, true), (19, true), (20, true), (21, true), (22, true), (23, true), (24, true), (25, true), (26, true), (27, true), (28, true), (29, true), (30, true), (31, true), (32, true), (33, true), (34, true), (35, true), (36, true), (37, true), (38, true), (39, true), (40, true), (41, true), (42, true), (43, true), (44, true), (45, true), (46, true), (47, true), (48, true), (49, true), (50, true), (51, true), (52, true), (53, true)] [1, 3] (by kernel_rfl) (by decide) rfl ?_
    refine JW_run [] rfl ?_
    refine JW_still [] rfl (idxNz rfl rfl rfl rfl rfl hul) rfl ?_
    refine JW_run [] rfl ?_
    refine JW_still [] rfl (OpV_own (v := .int .i64 (t.least * 2 ^ e)) 0 rfl rfl rfl u1) rfl ?_
    refine JW_run [] rfl ?_
    refine JW_still [] rfl (idxNz rfl rfl rfl rfl rfl hkl) rfl ?_
    refine JW_run [] rfl ?_
    refine JW_still [] rfl (OpV_own (v := .int .i64 t.least) 1 rfl rfl rfl q1) rfl ?_
    refine JW_run [] rfl ?_
    refine JW_still [] rfl (OpV_shl rfl rfl rfl) rfl ?_
    refine JW_run [] rfl ?_
    refine JW_set 148 (v' := .bool false) rfl (congrArg Value.bool (cdec_no (by rw [hmin, w64 hb1]; exact fun h => h rfl))) ?_
    refine JW_run [13] rfl ?_
    refine JW_still [13] rfl (idxNz rfl rfl rfl rfl rfl hul) rfl ?_
    refine JW_run [13] rfl ?_
    refine JW_still [13] rfl (OpV_own (v := .int .i64 (t.v * 2 ^ e)) 0 rfl rfl rfl u4) rfl ?_
    refine JW_run [13] rfl ?_
    refine JW_still [13] rfl (idxNz rfl rfl rfl rfl rfl hkl) rfl ?_
    refine JW_run [13] rfl ?_
    refine JW_still [13] rfl (OpV_own (v := .int .i64 t.v) 1 rfl rfl rfl q4) rfl ?_
    refine JW_run [13] rfl ?_
    refine JW_still [13] rfl (OpV_shl rfl rfl rfl) rfl ?_
    refine JW_run [13] rfl ?_
    refine JW_set 163 (v' := .bool false) rfl (congrArg Value.bool (cdec_no (by rw [hmin, w64 hb4]; exact fun h => h rfl))) ?_
    refine JW_run [13, 28] rfl ?_
    refine JW_still [13, 28] rfl (idxNz rfl rfl rfl rfl rfl hul) rfl ?_
    refine JW_run [13, 28] rfl ?_
    refine JW_still [13, 28] rfl (OpV_own (v := .int .i64 t.p) 0 rfl rfl rfl u2) rfl ?_
    refine JW_run [13, 28] rfl ?_
    refine JW_still [13, 28] rfl (idxNz rfl rfl rfl rfl rfl hkl) rfl ?_
    refine JW_run [13, 28] rfl ?_
    refine JW_still [13, 28] rfl (OpV_own (v := .int .i64 t.p) 1 rfl rfl rfl q2) rfl ?_
    refine JW_run [13, 28] rfl ?_
    refine JW_set 176 (v' := .bool false) rfl (congrArg Value.bool (cdec_no (fun h => h rfl))) ?_
    refine JW_run [13, 28, 41] rfl ?_
    refine JW_still [13, 28, 41] rfl (idxNz rfl rfl rfl rfl rfl hul) rfl ?_
    refine JW_run [13, 28, 41] rfl ?_
    refine JW_still [13, 28, 41] rfl (OpV_own (v := .int .i64 t.w) 0 rfl rfl rfl u3) rfl ?_
    refine JW_run [13, 28, 41] rfl ?_
    refine JW_still [13, 28, 41] rfl (idxNz rfl rfl rfl rfl rfl hkl) rfl ?_
    refine JW_run [13, 28, 41] rfl ?_
    refine JW_still [13, 28, 41] rfl (OpV_own (v := .int .i64 t.w) 1 rfl rfl rfl q3) rfl ?_
    refine JW_all [13, 28, 41] rfl ?_
    refine JL_set 188 (v' := .bool false) rfl (congrArg Value.bool (cdec_no (fun h => h rfl))) ?_
    refine JL_nil ?_
    (repeat' (first | refine J_seq ?_ | refine J_skip ?_ | refine J_yes rfl ?_ | refine J_no rfl ?_))
    (repeat' (first | refine J_seq ?_ | refine J_skip ?_ | refine J_yes rfl ?_ | refine J_no rfl ?_))
    refine J_region ?_
    refine JL_all [] rfl ?_
    exact ⟨k + 1, ⟨congrArg some (congrArg (Value.int .i64) (w64 (n := (k : Int) + 1) (by omega))), rfl, rfl, rfl, rfl, rfl, trivial⟩, Fit.refl, hkl, by show ts.length - (k + 1) < ts.length - k; omega⟩
  (repeat' (first | refine J_seq ?_ | refine J_skip ?_ | refine J_yes rfl ?_ | refine J_no rfl ?_))
  refine J_region ?_
  refine JL_all [] rfl ?_
  (repeat' (first | refine J_seq ?_ | refine J_skip ?_ | refine J_yes rfl ?_ | refine J_no rfl ?_))
  refine J_block ?_
  refine J_loopF (σ := Nat) (fun t => [(23, .int .i64 (t : Int)), (11, .int .i64 (e : Int)), (15, .slice Af f.length cf), (16, .slice At ts.length ct), (18, .slice Ag g.length cg), (19, .slice Au tb.length cu)])
    (fun _ => [.own (.slice Ag g.length cg) 2 1 g.length (ints g), .own (.slice Au tb.length cu) 61 4 tb.length (turns tb), .own (.slice Af f.length cf) 2 1 f.length (ints f), .own (.slice At ts.length ct) 61 4 ts.length (turns ts)]) (fun t => ts.length ≤ t) (fun t => tb.length - t) ts.length ⟨rfl, rfl, rfl, rfl, rfl, rfl, trivial⟩ Fit.refl (Nat.le_refl _) ?_
  intro k hk
  (repeat' (first | refine J_seq ?_ | refine J_skip ?_ | refine J_yes rfl ?_ | refine J_no rfl ?_))
  refine J_region ?_
  refine JL_all [] rfl ?_
  refine J_dec rfl (fun hlt => J_skip ?_) (fun hge => J_exit ?_)
  · have hkl : k < tb.length := by omega
    obtain ⟨t, ht⟩ : ∃ t, tb[k]? = some t := ⟨tb[k], List.getElem?_eq_getElem hkl⟩
    obtain ⟨t1, t2⟩ := b5 k t hk ht
    have htp : 0 < ts.length := by
      rcases Nat.eq_zero_or_pos ts.length with h | h
      · have := b3 h; omega
      · exact h
    obtain ⟨t0, ht0⟩ : ∃ t0, ts[ts.length - 1]? = some t0 := ⟨ts[ts.length - 1], List.getElem?_eq_getElem _⟩
    have hu := b4 _ t0 ht0
    have hul := (List.getElem?_eq_some_iff.1 hu).1
    have hwv : wasV ts ts.length = t0.v := by unfold wasV; rw [if_neg (by omega), ht0]
    obtain ⟨q1, q2, q3, q4⟩ := turns_get ht
    obtain ⟨u1, u2, u3, u4⟩ := turns_get hu
    rw [t1] at q2
    rw [t2, hwv] at q4
    obtain rfl := hAu' (by omega)
    refine J_seq (J_block ?_)
    (repeat' (first | refine J_seq ?_ | refine J_skip ?_ | refine J_yes rfl ?_ | refine J_no rfl ?_))
    refine J_walk 21 [(0, true), (1, true), (2, true), (3, true), (4, true), (5, true), (6, true), (7, true), (8, true), (9, true), (10, true), (11, true), (12, true), (13, true), (14, true), (15, true), (16, true), (17, true), (18, true), (19, true), (20, true)] [1] (by kernel_rfl) (by decide) rfl ?_
    refine JW_run [] rfl ?_
    refine JW_still [] rfl (idxNz rfl rfl rfl rfl rfl hkl) rfl ?_
    refine JW_run [] rfl ?_
    refine JW_still [] rfl (OpV_own (v := .int .i64 ((0 : Nat) : Int)) 0 rfl rfl rfl q2) rfl ?_
    refine JW_run [] rfl ?_
    refine JW_set 203 (v' := .bool false) rfl (congrArg Value.bool (cdec_no (fun h => h rfl))) ?_
    refine JW_run [6] rfl ?_
    refine JW_still [6] rfl (idxNz rfl rfl rfl rfl rfl hkl) rfl ?_
    refine JW_run [6] rfl ?_
    refine JW_still [6] rfl (OpV_own (v := .int .i64 (t0.v * 2 ^ e)) 0 rfl rfl rfl q4) rfl ?_
    refine JW_run [6] rfl ?_
    refine JW_set 212 (v' := .int .i64 ((ts.length - 1 : Nat) : Int)) rfl (congrArg (Value.int .i64) ((w64 (n := (ts.length : Int) - 1) (by omega)).trans (by omega))) ?_
    refine JW_still [6] rfl (idxNz rfl rfl rfl rfl rfl hul) rfl ?_
    refine JW_run [6] rfl ?_
    refine JW_still [6] rfl (OpV_own (v := .int .i64 (t0.v * 2 ^ e)) 0 rfl rfl rfl u4) rfl ?_
    refine JW_all [6] rfl ?_
    refine JL_set 217 (v' := .bool false) rfl (congrArg Value.bool (cdec_no (fun h => h rfl))) ?_
    refine JL_nil ?_
    (repeat' (first | refine J_seq ?_ | refine J_skip ?_ | refine J_yes rfl ?_ | refine J_no rfl ?_))
    (repeat' (first | refine J_seq ?_ | refine J_skip ?_ | refine J_yes rfl ?_ | refine J_no rfl ?_))
    refine J_region ?_
    refine JL_all [] rfl ?_
    exact ⟨k + 1, ⟨congrArg some (congrArg (Value.int .i64) (w64 (n := (k : Int) + 1) (by omega))), rfl, rfl, rfl, rfl, rfl, trivial⟩, Fit.refl, by omega, by show tb.length - (k + 1) < tb.length - k; omega⟩
  (repeat' (first | refine J_seq ?_ | refine J_skip ?_ | refine J_yes rfl ?_ | refine J_no rfl ?_))
  refine J_region ?_
  refine JL_all [] rfl ?_
  exact J_ret ⟨_, rfl, rfl⟩
end Go.Proofs.Ytjbcgjahfalkaaa
