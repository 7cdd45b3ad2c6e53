
/- MatchNets: the network of a graph is right, has an arc of each node and each edge, and lets through no more than there are nodes on either side. -/
import Derived.Test.YtjbcgjahfalkaaaQX1
import Derived.Test.YtjbcgjahfalkaaaDrawn16
import Derived.Test.YtjbcgjahfalkaaaQX2
import Derived.Test.YtjbcgjahfalkaaaNetO
import Derived.Test.YtjbcgjahfalkaaaMoreP
set_option linter.unusedVariables false
set_option linter.unusedSimpArgs false
namespace Go.Proofs.Ytjbcgjahfalkaaa
open Go.RowKit
set_option maxHeartbeats 4000000 in
theorem matchNets_fn (sides : Int) (hsd : inB sides) (A : Option Addr) (c b o : Nat) (l : List Int) (hA : l ≠ [] → A = some ⟨b, o, none⟩) (hl : ∀ x ∈ l, inB x) (hs : l.length * 8 ≤ 140737488351232) :
    Fn 11 [.int .i64 sides, .slice A l.length c] [] [.seg b o (ints l)] fun v _ => v = .bool true := by
  refine Fn_of Try.func11 rfl rfl fun w0 => ?_
  (repeat' (first | refine J_seq ?_ | refine J_skip ?_ | refine J_yes rfl ?_ | refine J_no rfl ?_))
  refine J_region ?_
  refine JL_all [] rfl ?_
  (repeat' (first | refine J_seq ?_ | refine J_skip ?_ | refine J_yes rfl ?_ | refine J_no rfl ?_))
  refine J_region ?_
  refine JL_callR [] (shown16_fn) rfl rfl rfl rfl (by kernel_rfl) trivial (fun _ => rfl) ?_
  rintro v H' ⟨rfl, rfl⟩
  refine ⟨rfl, ?_⟩
  refine JL_all [] rfl ?_
  (repeat' (first | refine J_seq ?_ | refine J_skip ?_ | refine J_yes rfl ?_ | refine J_no rfl ?_))
  refine J_region ?_
  refine JL_all [] rfl ?_
  (repeat' (first | refine J_seq ?_ | refine J_skip ?_ | refine J_yes rfl ?_ | refine J_no rfl ?_))
  refine J_region ?_
  refine JL_run [] rfl ?_
  refine JL_callR [] (drawn16_fn sides hsd A c b o l hA hl (by omega)) rfl rfl rfl rfl (by kernel_rfl) ⟨⟨0, _, by simp, rfl, shows_seg _ _ _, seen_seg⟩, trivial⟩ (fun _ => rfl) ?_
  rintro v H' ⟨g, A1, cn, hg, hg1, hg2, hg24, rfl, rfl⟩
  refine ⟨rfl, ?_⟩
  refine JL_alloc rfl rfl rfl (fun _ => rfl) fun p6 => ?_
  refine JL_store 0 rfl rfl rfl rfl rfl [] rfl ?_
  refine JL_know (own_is 1 rfl) fun ⟨_, _, hA1, hl1⟩ => ?_
  obtain ⟨g1, hA1⟩ := own_at hA1 hl1
  have hA1' : g.edges ≠ [] → A1 = some ⟨g1, 0, none⟩ := fun h => hA1 (fun h0 => h (List.length_eq_zero_iff.1 (by have := edgs_length g.edges; rw [h0] at this; simp at this; omega)))
  have hgl := hg.left
  have hgr := hg.right
  have hR := gnet_right hg
  have hF := hR.fits2
  have hz := zeroFlow _ hR
  obtain ⟨nl, hnl⟩ : ∃ n : Nat, g.left = n := ⟨g.left.toNat, by omega⟩
  obtain ⟨nr, hnr⟩ : ∃ n : Nat, g.right = n := ⟨g.right.toNat, by omega⟩
  refine JL_nil ?_
  (repeat' (first | refine J_seq ?_ | refine J_skip ?_ | refine J_yes rfl ?_ | refine J_no rfl ?_))
  refine J_region ?_
  refine JL_val [] (v := grV g A1 cn) (OpV_blk 0 rfl rfl rfl rfl) rfl ?_
  refine JL_callR [] (gnet_fn g hg A1 cn g1 0 hA1') rfl rfl rfl rfl (by kernel_rfl) ⟨⟨1, _, by simp, rfl, shows_ownS hA1, seen_ownS hA1⟩, trivial⟩ (fun _ => rfl) ?_
  rintro v H' ⟨A2, c2, rfl, rfl⟩
  refine ⟨rfl, ?_⟩
  refine JL_run [] rfl ?_
  refine JL_alloc rfl rfl rfl (fun _ => rfl) fun p7 => ?_
  refine JL_store 0 rfl rfl rfl rfl rfl [] rfl ?_
  refine JL_all [] rfl ?_
  refine J_know (own_is 1 rfl) fun ⟨_, _, hA2, hl2⟩ => ?_
  obtain ⟨g2, hA2⟩ := own_at hA2 hl2
  have hA2' : (gnet g).arcs ≠ [] → A2 = some ⟨g2, 0, none⟩ := fun h => hA2 (fun h0 => h (List.length_eq_zero_iff.1 (by have := arcs_length (gnet g).arcs; rw [h0] at this; simp at this; omega)))
  have hgln := gnet_len g
  have hRl := hR.len
  (repeat' (first | refine J_seq ?_ | refine J_skip ?_ | refine J_yes rfl ?_ | refine J_no rfl ?_))
  refine J_region ?_
  refine JL_evO (gs := [999]) rfl ?_
  refine JL_evO (gs := [999]) rfl ?_
  refine JL_evO (gs := [999]) rfl ?_
  refine JL_set 27 (v' := .bool false) rfl (congrArg Value.bool (cdec_no (fun h => h rfl))) ?_
  refine JL_val [2] (v := grV g A1 cn) (OpV_blk 2 rfl rfl rfl rfl) rfl ?_
  refine JL_callR [2] (gcheck_fn g hg A1 cn g1 0 hA1') rfl rfl rfl rfl (by kernel_rfl) ⟨⟨3, _, by simp, rfl, shows_ownS hA1, seen_ownS hA1⟩, trivial⟩ (fun _ => rfl) ?_
  rintro _ H' ⟨rfl, rfl⟩
  refine ⟨rfl, ?_⟩
  refine JL_run [2] rfl ?_
  refine JL_set 32 (v' := .bool false) rfl (congrArg Value.bool (cdec_no (fun h => h rfl))) ?_
  refine JL_val [2, 7] (v := netV (gnet g) A2 c2) (OpV_blk 0 rfl rfl rfl rfl) rfl ?_
  refine JL_callR [2, 7] (check_fn (gnet g) hF A2 c2 g2 0 hA2') rfl rfl rfl rfl (by kernel_rfl) ⟨⟨1, _, by simp, rfl, shows_ownS hA2, seen_ownS hA2⟩, trivial⟩ (fun _ => rfl) ?_
  rintro _ H' ⟨rfl, rfl⟩
  refine ⟨rfl, ?_⟩
  rw [hR.check]
  refine JL_run [2, 7] rfl ?_
  refine JL_set 37 (v' := .bool false) rfl (congrArg Value.bool (cdec_no (fun h => h rfl))) ?_
  refine JL_run [2, 7, 12] rfl ?_
  refine JL_val [2, 7, 12] (v := .int .i64 (gnet g).nodes) (OpV_blk 0 rfl rfl rfl rfl) rfl ?_
  refine JL_run [2, 7, 12] rfl ?_
  refine JL_val [2, 7, 12] (v := .int .i64 g.left) (OpV_blk 2 rfl rfl rfl rfl) rfl ?_
  refine JL_run [2, 7, 12] rfl ?_
  refine JL_val [2, 7, 12] (v := .int .i64 g.right) (OpV_blk 2 rfl rfl rfl rfl) rfl ?_
  refine JL_run [2, 7, 12] rfl ?_
  refine JL_set 48 (v' := .bool false) rfl (congrArg Value.bool (cdec_no (by rw [w64 (n := 2 + g.left) (by omega), w64 (by omega)]; exact fun h => h rfl))) ?_
  refine JL_run [2, 7, 12, 23] rfl ?_
  refine JL_val [2, 7, 12, 23] (v := .slice A2 (gnet g).arcs.length c2) (OpV_blk 0 rfl rfl rfl rfl) rfl ?_
  refine JL_run [2, 7, 12, 23] rfl ?_
  refine JL_val [2, 7, 12, 23] (v := .int .i64 g.left) (OpV_blk 2 rfl rfl rfl rfl) rfl ?_
  refine JL_run [2, 7, 12, 23] rfl ?_
  refine JL_val [2, 7, 12, 23] (v := .int .i64 g.right) (OpV_blk 2 rfl rfl rfl rfl) rfl ?_
  refine JL_run [2, 7, 12, 23] rfl ?_
  refine JL_val [2, 7, 12, 23] (v := .slice A1 g.edges.length cn) (OpV_blk 2 rfl rfl rfl rfl) rfl ?_
  refine JL_run [2, 7, 12, 23] rfl ?_
  refine JL_set 63 (v' := .bool false) rfl (congrArg Value.bool (cdec_no (by rw [w64 (n := g.left + g.right) (by omega), w64 (by omega)]; omega))) ?_
  refine JL_run [2, 7, 12, 23, 38] rfl ?_
  refine JL_val [2, 7, 12, 23, 38] (v := .int .i64 1) (OpV_blk 0 rfl rfl rfl rfl) rfl ?_
  refine JL_run [2, 7, 12, 23, 38] rfl ?_
  refine JL_set 68 (v' := .bool false) rfl (congrArg Value.bool (cdec_no (fun h => h rfl))) ?_
  refine JL_run [2, 7, 12, 23, 38, 43] rfl ?_
  refine JL_val [2, 7, 12, 23, 38, 43] (v := .int .i64 2) (OpV_blk 0 rfl rfl rfl rfl) rfl ?_
  refine JL_all [2, 7, 12, 23, 38, 43] rfl ?_
  (repeat' (first | refine J_seq ?_ | refine J_skip ?_ | refine J_yes rfl ?_ | refine J_no rfl ?_))
  refine J_dec rfl (fun h => absurd rfl h) (fun _ => J_skip ?_)
  (repeat' (first | refine J_seq ?_ | refine J_skip ?_ | refine J_yes rfl ?_ | refine J_no rfl ?_))
  refine J_region ?_
  refine JL_all [] rfl ?_
  (repeat' (first | refine J_seq ?_ | refine J_skip ?_ | refine J_yes rfl ?_ | refine J_no rfl ?_))
  refine J_block ?_
  refine J_loopF (σ := Nat) (fun t => [(9, .int .i64 (t : Int)), (7, .pointer (some ⟨p7, 0, none⟩)), (6, .pointer (some ⟨p6, 0, none⟩))])
    (fun _ => [blk p7 27 (netC (gnet g) A2 c2), .own (.slice A2 (gnet g).arcs.length c2) 42 3 (gnet g).arcs.length (arcs (gnet g).arcs), blk p6 70 (grC g A1 cn)]) (fun t => t ≤ (gnet g).arcs.length) (fun t => (gnet g).arcs.length - t) 0 ⟨rfl, rfl, rfl, trivial⟩ (Fit.picks [0, 1, 2] (by decide) rfl) (Nat.zero_le _) ?_
  intro k hk
  (repeat' (first | refine J_seq ?_ | refine J_skip ?_ | refine J_yes rfl ?_ | refine J_no rfl ?_))
  refine J_region ?_
  refine JL_run [] rfl ?_
  refine JL_val [] (v := .slice A2 (gnet g).arcs.length c2) (OpV_blk 0 rfl rfl rfl rfl) rfl ?_
  refine JL_all [] rfl ?_
  refine J_dec rfl (fun hlt => J_skip ?_) (fun hge => J_exit ?_)
  · have hkl : k < (gnet g).arcs.length := by omega
    obtain ⟨a, ha⟩ : ∃ a, (gnet g).arcs[k]? = some a := ⟨(gnet g).arcs[k], List.getElem?_eq_getElem hkl⟩
    have hcap := gnet_cap a (List.mem_of_getElem? ha)
    obtain rfl := hA2' (by intro h0; rw [h0] at hkl; simp at hkl)
    refine J_seq (J_block ?_)
    (repeat' (first | refine J_seq ?_ | refine J_skip ?_ | refine J_yes rfl ?_ | refine J_no rfl ?_))
    refine J_region ?_
    refine JL_run [] rfl ?_
    refine JL_val [] (v := .slice (some ⟨g2, 0, none⟩) (gnet g).arcs.length c2) (OpV_blk 0 rfl rfl rfl rfl) rfl ?_
    refine JL_run [] rfl ?_
    refine JL_val [] (idxNz rfl rfl rfl rfl rfl hkl) rfl ?_
    refine JL_run [] rfl ?_
    refine JL_val [] (OpV_own (v := .int .i64 a.cap) 1 rfl rfl rfl (arcs_cap ha)) rfl ?_
    refine JL_all [] rfl ?_
    refine J_dec rfl (fun h => absurd hcap h) (fun _ => J_skip ?_)
    (repeat' (first | refine J_seq ?_ | refine J_skip ?_ | refine J_yes rfl ?_ | refine J_no rfl ?_))
    refine J_region ?_
    refine JL_all [] rfl ?_
    exact ⟨k + 1, ⟨congrArg some (congrArg (Value.int .i64) (w64 (n := (k : Int) + 1) (by omega))), rfl, rfl, trivial⟩, Fit.refl, hkl, by show (gnet g).arcs.length - (k + 1) < (gnet g).arcs.length - k; omega⟩
  · (repeat' (first | refine J_seq ?_ | refine J_skip ?_ | refine J_yes rfl ?_ | refine J_no rfl ?_))
    refine J_region ?_
    refine JL_val [] (v := netV (gnet g) A2 c2) (OpV_blk 0 rfl rfl rfl rfl) rfl ?_
    refine JL_callR [] (maxG_fn (gnet g) hF hR A2 c2 g2 0 hA2' 116 (.inr rfl)) rfl rfl rfl rfl (by kernel_rfl) ⟨⟨1, _, by simp, rfl, shows_ownS hA2, seen_ownS hA2⟩, trivial⟩ (fun _ => rfl) ?_
    rintro v H' ⟨fr, pr, kr, sr, Ar, cr, hdr, _, _, _, _, _, rfl, rfl⟩
    obtain ⟨hfr, _, _, lv, hlv, hlt⟩ := hdr.keeps hR (by decide) hz
    have hno := no_reach hfr.toRanged hlv hlt
    have hfrl := hfr.len
    have hval := flow_pairs hg hfr hnl hnr
    obtain ⟨m2, _⟩ := pairs_best hg ⟨hfr, hno⟩ hnl hnr
    have hpl := pairsL_length fr nl g.edges.length
    have hms := m2.sides hg
    obtain ⟨pv, hpv⟩ : ∃ pv, pv = (pairsL fr nl g.edges.length).length := ⟨_, rfl⟩
    rw [← hpv] at hval hms hpl
    refine ⟨rfl, ?_⟩
    refine JL_run [] rfl ?_
    refine JL_alloc rfl rfl rfl (fun _ => rfl) fun p10 => ?_
    refine JL_store 0 rfl rfl rfl rfl rfl [] rfl ?_
    refine JL_all [] rfl ?_
    refine J_know (own_is 1 rfl) fun ⟨_, _, hAr, hlr⟩ => ?_
    obtain ⟨gr, hAr⟩ := own_at hAr hlr
    have hAr' : fr ≠ [] → Ar = some ⟨gr, 0, none⟩ := fun h => hAr (by simpa [ints] using h)
    (repeat' (first | refine J_seq ?_ | refine J_skip ?_ | refine J_yes rfl ?_ | refine J_no rfl ?_))
    refine J_region ?_
    refine JL_val [] (v := netV (gnet g) A2 c2) (OpV_blk 2 rfl rfl rfl rfl) rfl ?_
    refine JL_run [] rfl ?_
    refine JL_val [] (v := .slice Ar fr.length cr) (OpV_blk 0 rfl rfl rfl rfl) rfl ?_
    refine JL_callR [] (fvalue_fn (gnet g) hF hR A2 c2 g2 0 hA2' fr Ar cr gr 0 hAr' (IsFlow.inB hR hfr.toRanged) (by omega)) rfl rfl rfl rfl (by kernel_rfl) ⟨⟨3, _, by simp, rfl, shows_ownS hA2, seen_ownS hA2⟩, ⟨1, _, by simp, rfl, shows_ownS hAr, seen_ownS hAr⟩, trivial⟩ (fun _ => rfl) ?_
    rintro v H' ⟨⟨rfl, _⟩ | ⟨_, h⟩, rfl⟩
    case inr => exact absurd hfr h
    refine ⟨rfl, ?_⟩
    refine JL_all [] rfl ?_
    refine J_set 12 (v' := .int .i64 (pv : Int)) rfl (congrArg (Value.int .i64) hval) ?_
    refine J_fit (K := [blk p7 27 (netC (gnet g) A2 c2), .own (.slice A2 (gnet g).arcs.length c2) 42 3 (gnet g).arcs.length (arcs (gnet g).arcs), blk p6 70 (grC g A1 cn)]) (Fit.picks [2, 3, 4] (by decide) rfl) ?_
    (repeat' (first | refine J_seq ?_ | refine J_skip ?_ | refine J_yes rfl ?_ | refine J_no rfl ?_))
    refine J_walk 35 [(0, true), (1, true), (2, true), (3, true), (4, true), (5, true), (6, true), (7, true), (8, true), (9, true), (10, true), (11, true), (12, true), (13, true), (14, true), (15, true), (16, true), (17, true), (18, true), (19, true), (22, true), (23, true), (20, false), (21, true), (24, true), (25, true), (26, true), (27, true), (30, true), (31, true), (28, false), (29, true), (32, true), (33, true), (34, true)] [0, 2] (by kernel_rfl) (by decide) rfl ?_
    refine JW_evO (gs := []) rfl rfl ?_
    refine JW_evO (gs := []) rfl rfl ?_
    refine JW_evO (gs := []) rfl rfl ?_
    refine JW_set 101 (v' := .bool true) rfl (congrArg Value.bool (cdec_yes rfl)) ?_
    refine JW_run [2] rfl ?_
    refine JW_set 105 (v' := .bool true) rfl (congrArg Value.bool (cdec_yes rfl)) ?_
    refine JW_run [2, 6] rfl ?_
    refine JW_still [2, 6] rfl (OpV_blk (v := .int .i64 g.left) 1 rfl rfl rfl rfl) rfl ?_
    refine JW_run [2, 6] rfl ?_
    refine JW_still [2, 6] rfl (OpV_blk (v := .int .i64 g.right) 1 rfl rfl rfl rfl) rfl ?_
    refine JW_run [2, 6] rfl ?_
    refine JW_still [2, 6] rfl (OpV_blk (v := .slice A1 g.edges.length cn) 1 rfl rfl rfl rfl) rfl ?_
    refine JW_run [2, 6] rfl ?_
    refine JW_still [2, 6] rfl (OpV_min3 rfl rfl rfl rfl) rfl ?_
    refine JW_run [2, 6] rfl ?_
    refine JW_set 117 (v' := .bool true) rfl (congrArg Value.bool (cdec_yes (by split <;> split <;> omega))) ?_
    refine JW_still [2, 6, 18] rfl (OpV_blk (v := netV (gnet g) A2 c2) 0 rfl rfl rfl rfl) rfl ?_
    refine JW_run [2, 6, 18] rfl ?_
    refine JW_still [2, 6, 18] rfl (OpV_blk (v := .int .i64 g.left) 1 rfl rfl rfl rfl) rfl ?_
    refine JW_eff rfl ?_
    refine JL_callR [2, 6, 18] (netout_fn (gnet g) hRl A2 c2 g2 0 hA2' 1) rfl rfl rfl rfl (by kernel_rfl) ⟨⟨1, _, by simp, rfl, shows_ownS hA2, seen_ownS hA2⟩, trivial⟩ (fun _ => rfl) ?_
    rintro _ H' ⟨L1, B1, d1, hL1, rfl, rfl⟩
    rw [gnet_out hg] at hL1
    refine ⟨rfl, JL_nil ⟨⟨[1, 3], by decide, rfl⟩, ?_⟩⟩
    refine JW_run [2, 6, 18] rfl ?_
    refine JW_set 125 (v' := .bool true) rfl (congrArg Value.bool (cdec_yes (by omega))) ?_
    refine JW_still [2, 6, 18, 26] rfl (OpV_blk (v := netV (gnet g) A2 c2) 0 rfl rfl rfl rfl) rfl ?_
    refine JW_run [2, 6, 18, 26] rfl ?_
    refine JW_still [2, 6, 18, 26] rfl (OpV_blk (v := .int .i64 g.right) 1 rfl rfl rfl rfl) rfl ?_
    refine JW_eff rfl ?_
    refine JL_callR [2, 6, 18, 26] (netin_fn (gnet g) hRl A2 c2 g2 0 hA2' 2) rfl rfl rfl rfl (by kernel_rfl) ⟨⟨2, _, by simp, rfl, shows_ownS hA2, seen_ownS hA2⟩, trivial⟩ (fun _ => rfl) ?_
    rintro _ H' ⟨L2, B2, d2, hL2, rfl, rfl⟩
    rw [gnet_in hg] at hL2
    refine ⟨rfl, JL_nil ⟨⟨[2, 4], by decide, rfl⟩, ?_⟩⟩
    refine JW_all [2, 6, 18, 26] rfl ?_
    refine JL_nil ?_
    exact J_ret ⟨_, rfl, congrArg Value.bool (cdec_yes (by omega))⟩
end Go.Proofs.Ytjbcgjahfalkaaa
