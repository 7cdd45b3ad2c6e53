
/- MatchMost: what Pairs tells is a matching, as many as the network's greatest value, and no other has more. -/
import Derived.Test.YtjbcgjahfalkaaaQX1
import Derived.Test.YtjbcgjahfalkaaaDrawn16
import Derived.Test.YtjbcgjahfalkaaaQX4
import Derived.Test.YtjbcgjahfalkaaaGreedP
import Derived.Test.YtjbcgjahfalkaaaRightN
import Derived.Test.YtjbcgjahfalkaaaSame5
set_option linter.unusedVariables false
set_option linter.unusedSimpArgs false
namespace Go.Proofs.Ytjbcgjahfalkaaa
open Go.RowKit
set_option maxHeartbeats 4000000 in
theorem matchMost_fn (sides : Int) (hsd : inB sides) (A : Option Addr) (c b o : Nat) (l : List Int) (hA : l ≠ [] → A = some ⟨b, o, none⟩) (hl : ∀ x ∈ l, inB x) (hs : l.length * 8 ≤ 140737488351232)
    (O : Option Addr) (co bo oo : Nat) (od : List Int) (hO : od ≠ [] → O = some ⟨bo, oo, none⟩) (hod : ∀ x ∈ od, inB x) (hos : od.length * 8 ≤ 140737488351232) (tree : Bool) :
    Fn 10 [.int .i64 sides, .slice A l.length c, .slice O od.length co, .bool tree] [] [.seg b o (ints l), .seg bo oo (ints od)] fun v _ => v = .bool true := by
  refine Fn_of Try.func10 rfl rfl fun w0 => ?_
  (repeat' (first | refine J_seq ?_ | refine J_skip ?_ | refine J_yes rfl ?_ | refine J_no rfl ?_))
  refine J_region ?_
  refine JL_all [] rfl ?_
  (repeat' (first | refine J_seq ?_ | refine J_skip ?_ | refine J_yes rfl ?_ | refine J_no rfl ?_))
  refine J_region ?_
  refine JL_callR [] (shown16_fn) rfl rfl rfl rfl (by kernel_rfl) trivial (fun _ => rfl) ?_
  rintro v H' ⟨rfl, rfl⟩
  refine ⟨rfl, ?_⟩
  refine JL_all [] rfl ?_
  (repeat' (first | refine J_seq ?_ | refine J_skip ?_ | refine J_yes rfl ?_ | refine J_no rfl ?_))
  refine J_region ?_
  refine JL_evO (gs := [999]) rfl ?_
  refine JL_evO (gs := [999]) rfl ?_
  refine JL_evO (gs := [999]) rfl ?_
  refine JL_set 29 (v' := .bool false) rfl rfl ?_
  refine JL_all [2] rfl ?_
  (repeat' (first | refine J_seq ?_ | refine J_skip ?_ | refine J_yes rfl ?_ | refine J_no rfl ?_))
  refine J_dec rfl (fun _ => ?_) (fun h100 => J_skip ?_)
  · (repeat' (first | refine J_seq ?_ | refine J_skip ?_ | refine J_yes rfl ?_ | refine J_no rfl ?_))
    refine J_region ?_
    refine JL_all [] rfl ?_
    exact J_ret ⟨_, rfl, rfl⟩
  have hodl : od.length ≤ 100 := by omega
  (repeat' (first | refine J_seq ?_ | refine J_skip ?_ | refine J_yes rfl ?_ | refine J_no rfl ?_))
  refine J_region ?_
  refine JL_run [] rfl ?_
  refine JL_callR [] (drawn16_fn sides hsd A c b o l hA hl (by omega)) rfl rfl rfl rfl (by kernel_rfl) ⟨⟨0, _, by simp, rfl, shows_seg _ _ _, seen_seg⟩, trivial⟩ (fun _ => rfl) ?_
  rintro v H' ⟨g, A1, cn, hg, hg1, hg2, hg24, rfl, rfl⟩
  refine ⟨rfl, ?_⟩
  refine JL_alloc rfl rfl rfl (fun _ => rfl) fun p10 => ?_
  refine JL_store 0 rfl rfl rfl rfl rfl [] rfl ?_
  refine JL_know (own_is 1 rfl) fun ⟨_, _, hA1, hl1⟩ => ?_
  obtain ⟨g1, hA1⟩ := own_at hA1 hl1
  have hA1' : g.edges ≠ [] → A1 = some ⟨g1, 0, none⟩ := fun h => hA1 (fun h0 => h (List.length_eq_zero_iff.1 (by have := edgs_length g.edges; rw [h0] at this; simp at this; omega)))
  have hgl := hg.left
  have hgr := hg.right
  have hR := gnet_right hg
  have hF := hR.fits2
  have hz := zeroFlow _ hR
  obtain ⟨nl, hnl⟩ : ∃ n : Nat, g.left = n := ⟨g.left.toNat, by omega⟩
  obtain ⟨nr, hnr⟩ : ∃ n : Nat, g.right = n := ⟨g.right.toNat, by omega⟩
  refine JL_nil ?_
  obtain ⟨sg, hsg, hse⟩ : ∃ sg : Int, (sg = 112 ∨ sg = 116) ∧ sg = (if tree then 116 else 112) := ⟨_, by cases tree <;> simp, rfl⟩
  (repeat' (first | refine J_seq ?_ | refine J_skip ?_ | refine J_yes rfl ?_ | refine J_no rfl ?_))
  refine J_region ?_
  refine JL_all [] rfl ?_
  refine J_cut [(11, .int .u8 sg), (10, .pointer (some ⟨p10, 0, none⟩)), (2, .slice O od.length co)] [blk p10 70 (grC g A1 cn), .own (.slice A1 g.edges.length cn) 77 2 g.edges.length (edgs g.edges), .seg bo oo (ints od)] ?_ ?_
  · cases tree
    · (repeat' (first | refine J_seq ?_ | refine J_skip ?_ | refine J_yes rfl ?_ | refine J_no rfl ?_))
      refine J_region ?_
      refine JL_all [] rfl ?_
      (repeat' (first | refine J_seq ?_ | refine J_skip ?_ | refine J_yes rfl ?_ | refine J_no rfl ?_))
      exact ⟨[0, 1, 3], ⟨by rw [hse]; rfl, rfl, rfl, trivial⟩, by decide, rfl⟩
    · (repeat' (first | refine J_seq ?_ | refine J_skip ?_ | refine J_yes rfl ?_ | refine J_no rfl ?_))
      refine J_region ?_
      refine JL_all [] rfl ?_
      (repeat' (first | refine J_seq ?_ | refine J_skip ?_ | refine J_yes rfl ?_ | refine J_no rfl ?_))
      refine J_region ?_
      refine JL_all [] rfl ?_
      exact ⟨[0, 1, 3], ⟨by rw [hse]; rfl, rfl, rfl, trivial⟩, by decide, rfl⟩
  (repeat' (first | refine J_seq ?_ | refine J_skip ?_ | refine J_yes rfl ?_ | refine J_no rfl ?_))
  refine J_region ?_
  refine JL_val [] (v := grV g A1 cn) (OpV_blk 0 rfl rfl rfl rfl) rfl ?_
  refine JL_run [] rfl ?_
  refine JL_callR [] (pairsG_fn sg hsg g hg A1 cn g1 0 hA1' nl hnl) rfl rfl rfl rfl (by kernel_rfl) ⟨⟨1, _, by simp, rfl, shows_ownS hA1, seen_ownS hA1⟩, trivial⟩ (fun _ => rfl) ?_
  rintro v H' ⟨fp, _, _, Ap, cp, hfp, _, rfl, rfl⟩
  obtain ⟨mp, bp⟩ := pairs_best hg hfp hnl hnr
  have hplen := pairsL_length fp nl g.edges.length
  obtain ⟨P, hP⟩ : ∃ P, P = pairsL fp nl g.edges.length := ⟨_, rfl⟩
  rw [← hP] at mp bp hplen ⊢
  refine ⟨rfl, ?_⟩
  refine JL_all [] rfl ?_
  refine J_know (own_is 0 rfl) fun ⟨_, _, hAp, hlp⟩ => ?_
  obtain ⟨gp, hAp⟩ := own_at hAp hlp
  have hAp' : P ≠ [] → Ap = some ⟨gp, 0, none⟩ := fun h => hAp (by simpa [ints] using h)
  (repeat' (first | refine J_seq ?_ | refine J_skip ?_ | refine J_yes rfl ?_ | refine J_no rfl ?_))
  refine J_region ?_
  refine JL_val [] (v := grV g A1 cn) (OpV_blk 1 rfl rfl rfl rfl) rfl ?_
  refine JL_callR [] (gnet_fn g hg A1 cn g1 0 hA1') rfl rfl rfl rfl (by kernel_rfl) ⟨⟨2, _, by simp, rfl, shows_ownS hA1, seen_ownS hA1⟩, trivial⟩ (fun _ => rfl) ?_
  rintro v H' ⟨A2, c2, rfl, rfl⟩
  refine ⟨rfl, ?_⟩
  refine JL_run [] rfl ?_
  refine JL_alloc rfl rfl rfl (fun _ => rfl) fun p14 => ?_
  refine JL_store 0 rfl rfl rfl rfl rfl [] rfl ?_
  refine JL_all [] rfl ?_
  refine J_know (own_is 1 rfl) fun ⟨_, _, hA2, hl2⟩ => ?_
  obtain ⟨g2, hA2⟩ := own_at hA2 hl2
  have hA2' : (gnet g).arcs ≠ [] → A2 = some ⟨g2, 0, none⟩ := fun h => hA2 (fun h0 => h (List.length_eq_zero_iff.1 (by have := arcs_length (gnet g).arcs; rw [h0] at this; simp at this; omega)))
  (repeat' (first | refine J_seq ?_ | refine J_skip ?_ | refine J_yes rfl ?_ | refine J_no rfl ?_))
  refine J_region ?_
  refine JL_val [] (v := netV (gnet g) A2 c2) (OpV_blk 0 rfl rfl rfl rfl) rfl ?_
  refine JL_run [] rfl ?_
  refine JL_callR [] (maxG_fn (gnet g) hF hR A2 c2 g2 0 hA2' sg hsg) rfl rfl rfl rfl (by kernel_rfl) ⟨⟨1, _, by simp, rfl, shows_ownS hA2, seen_ownS hA2⟩, trivial⟩ (fun _ => rfl) ?_
  rintro v H' ⟨fr, pr, kr, sr, Ar, cr, hdr, _, _, _, _, _, rfl, rfl⟩
  obtain ⟨hfr, _, _, lv, hlv, hlt⟩ := hdr.keeps hR (by decide) hz
  have hno := no_reach hfr.toRanged hlv hlt
  have hfrl := hfr.len
  have hgnl := hR.len
  have hval := flow_pairs hg hfr hnl hnr
  obtain ⟨m2, b2⟩ := pairs_best hg ⟨hfr, hno⟩ hnl hnr
  have hpp : ((pairsL fr nl g.edges.length).length : Int) = P.length := by
    have h1 := bp _ m2
    have h2 := b2 _ mp
    omega
  rw [hpp] at hval
  refine ⟨rfl, ?_⟩
  refine JL_run [] rfl ?_
  refine JL_alloc rfl rfl rfl (fun _ => rfl) fun p16 => ?_
  refine JL_store 0 rfl rfl rfl rfl rfl [] rfl ?_
  refine JL_all [] rfl ?_
  refine J_know (own_is 1 rfl) fun ⟨_, _, hAr, hlr⟩ => ?_
  obtain ⟨gr, hAr⟩ := own_at hAr hlr
  have hAr' : fr ≠ [] → Ar = some ⟨gr, 0, none⟩ := fun h => hAr (by simpa [ints] using h)
  (repeat' (first | refine J_seq ?_ | refine J_skip ?_ | refine J_yes rfl ?_ | refine J_no rfl ?_))
  refine J_region ?_
  refine JL_val [] (v := netV (gnet g) A2 c2) (OpV_blk 2 rfl rfl rfl rfl) rfl ?_
  refine JL_run [] rfl ?_
  refine JL_val [] (v := .slice Ar fr.length cr) (OpV_blk 0 rfl rfl rfl rfl) rfl ?_
  refine JL_callR [] (fvalue_fn (gnet g) hF hR A2 c2 g2 0 hA2' fr Ar cr gr 0 hAr' (IsFlow.inB hR hfr.toRanged) (by omega)) rfl rfl rfl rfl (by kernel_rfl) ⟨⟨3, _, by simp, rfl, shows_ownS hA2, seen_ownS hA2⟩, ⟨1, _, by simp, rfl, shows_ownS hAr, seen_ownS hAr⟩, trivial⟩ (fun _ => rfl) ?_
  rintro v H' ⟨⟨rfl, _⟩ | ⟨_, h⟩, rfl⟩
  case inr => exact absurd hfr h
  refine ⟨rfl, ?_⟩
  refine JL_all [] rfl ?_
  refine J_set 18 (v' := .int .i64 (P.length : Int)) rfl (congrArg (Value.int .i64) hval) ?_
  (repeat' (first | refine J_seq ?_ | refine J_skip ?_ | refine J_yes rfl ?_ | refine J_no rfl ?_))
  refine J_region ?_
  refine JL_evO (gs := [999]) rfl ?_
  refine JL_evO (gs := [999]) rfl ?_
  refine JL_evO (gs := [999]) rfl ?_
  refine JL_set 65 (v' := .bool false) rfl (congrArg Value.bool (cdec_no (fun h => h rfl))) ?_
  refine JL_run [2] rfl ?_
  refine JL_set 69 (v' := .bool false) rfl (congrArg Value.bool (cdec_no (fun h => h rfl))) ?_
  refine JL_run [2, 6] rfl ?_
  refine JL_set 73 (v' := .bool false) rfl (congrArg Value.bool (cdec_no (fun h => h rfl))) ?_
  refine JL_run [2, 6, 10] rfl ?_
  refine JL_set 77 (v' := .bool false) rfl (congrArg Value.bool (cdec_no (fun h => h rfl))) ?_
  refine JL_val [2, 6, 10, 14] (v := grV g A1 cn) (OpV_blk 5 rfl rfl rfl rfl) rfl ?_
  refine JL_run [2, 6, 10, 14] rfl ?_
  refine JL_callR [2, 6, 10, 14] (mright_fn g hg A1 cn g1 0 hA1' P (by omega) (fun x hx => by have := mp.rng x hx; unfold inB; omega) Ap cp gp 0 hAp') rfl rfl rfl rfl (by kernel_rfl) ⟨⟨6, _, by simp, rfl, shows_ownS hA1, seen_ownS hA1⟩, ⟨4, _, by simp, rfl, shows_ownS hAp, seen_ownS hAp⟩, trivial⟩ (fun _ => rfl) ?_
  rintro _ H' ⟨rfl, rfl⟩
  refine ⟨rfl, ?_⟩
  refine JL_set 80 (v' := .bool true) rfl (congrArg Value.bool (cdec_yes mp)) ?_
  refine JL_all [2, 6, 10, 14, 20] rfl ?_
  (repeat' (first | refine J_seq ?_ | refine J_skip ?_ | refine J_yes rfl ?_ | refine J_no rfl ?_))
  refine J_dec rfl (fun h => absurd rfl h) (fun _ => J_skip ?_)
  refine J_fit (K := [blk p10 70 (grC g A1 cn), .own (.slice A1 g.edges.length cn) 77 2 g.edges.length (edgs g.edges), .seg bo oo (ints od)]) (Fit.picks [5, 6, 7] (by decide) rfl) ?_
  (repeat' (first | refine J_seq ?_ | refine J_skip ?_ | refine J_yes rfl ?_ | refine J_no rfl ?_))
  refine J_region ?_
  refine JL_run [] rfl ?_
  refine JL_val [] (v := .int .i64 g.left) (OpV_blk 0 rfl rfl rfl rfl) rfl ?_
  refine JL_run [] rfl ?_
  refine JL_set 91 (v' := .int .i64 ((nl + 1 : Nat) : Int)) rfl (congrArg (Value.int .i64) ((w64 (n := g.left + 1) (by omega)).trans (by omega))) ?_
  refine JL_make (n := nl + 1) (c := nl + 1) rfl rfl rfl rfl rfl rfl (by omega) (by omega) (by omega) (fun _ => rfl) fun ga => ?_
  rw [show made [Value.bool false] ((nl + 1) * 1) = bools (List.replicate (nl + 1) false) by rw [made_one, Nat.mul_one]; simp [bools]]
  refine JL_all [] rfl ?_
  (repeat' (first | refine J_seq ?_ | refine J_skip ?_ | refine J_yes rfl ?_ | refine J_no rfl ?_))
  refine J_region ?_
  refine JL_run [] rfl ?_
  refine JL_val [] (v := .int .i64 g.right) (OpV_blk 1 rfl rfl rfl rfl) rfl ?_
  refine JL_run [] rfl ?_
  refine JL_set 95 (v' := .int .i64 ((nr + 1 : Nat) : Int)) rfl (congrArg (Value.int .i64) ((w64 (n := g.right + 1) (by omega)).trans (by omega))) ?_
  refine JL_make (n := nr + 1) (c := nr + 1) rfl rfl rfl rfl rfl rfl (by omega) (by omega) (by omega) (fun _ => rfl) fun gb => ?_
  rw [show made [Value.bool false] ((nr + 1) * 1) = bools (List.replicate (nr + 1) false) by rw [made_one, Nat.mul_one]; simp [bools]]
  refine JL_all [] rfl ?_
  (repeat' (first | refine J_seq ?_ | refine J_skip ?_ | refine J_yes rfl ?_ | refine J_no rfl ?_))
  refine J_region ?_
  refine JL_all [] rfl ?_
  (repeat' (first | refine J_seq ?_ | refine J_skip ?_ | refine J_yes rfl ?_ | refine J_no rfl ?_))
  refine J_region ?_
  refine JL_all [] rfl ?_
  (repeat' (first | refine J_seq ?_ | refine J_skip ?_ | refine J_yes rfl ?_ | refine J_no rfl ?_))
  refine J_block ?_
  refine J_loopF (σ := Nat × List Nat × List Bool × List Bool) (fun t => [(23, .int .i64 (t.1 : Int)), (22, .int .i64 (t.2.1.length : Int)), (20, .slice (some ⟨ga, 0, none⟩) (nl + 1) (nl + 1)), (21, .slice (some ⟨gb, 0, none⟩) (nr + 1) (nr + 1)), (12, .slice Ap P.length cp), (10, .pointer (some ⟨p10, 0, none⟩)), (2, .slice O od.length co)])
    (fun t => [.own (.slice (some ⟨ga, 0, none⟩) (nl + 1) (nl + 1)) 4 1 (nl + 1) (bools t.2.2.1), .own (.slice (some ⟨gb, 0, none⟩) (nr + 1) (nr + 1)) 4 1 (nr + 1) (bools t.2.2.2), blk p10 70 (grC g A1 cn), .own (.slice A1 g.edges.length cn) 77 2 g.edges.length (edgs g.edges), .seg bo oo (ints od)])
    (fun t => t.1 ≤ od.length + g.edges.length ∧ t.2.1.length ≤ t.1 ∧ Greed g nl nr t.2.1 t.2.2.1 t.2.2.2 ∧ ∀ j e, od.length + j < t.1 → g.edges[j]? = some e → t.2.2.1[e.l.toNat]? = some true ∨ t.2.2.2[e.r.toNat]? = some true)
    (fun t => od.length + g.edges.length - t.1) (0, [], List.replicate (nl + 1) false, List.replicate (nr + 1) false) ⟨rfl, rfl, rfl, rfl, rfl, rfl, rfl, trivial⟩ (Fit.picks [1, 0, 2, 3, 4] (by decide) rfl) ⟨Nat.zero_le _, Nat.le_refl _, Greed.start, fun j e h => absurd h (by omega)⟩ ?_
  rintro ⟨t, ch, lm, rm⟩ ⟨ht, hch, hG, hall⟩
  simp only at ht hch hG hall ⊢
  have hq : IntKind.i64.wrap ((t : Int) + 1) = ((t + 1 : Nat) : Int) := w64 (by omega)
  (repeat' (first | refine J_seq ?_ | refine J_skip ?_ | refine J_yes rfl ?_ | refine J_no rfl ?_))
  refine J_region ?_
  refine JL_run [] rfl ?_
  refine JL_val [] (v := .slice A1 g.edges.length cn) (OpV_blk 2 rfl rfl rfl rfl) rfl ?_
  refine JL_run [] rfl ?_
  refine JL_all [] rfl ?_
  refine J_set 104 (v' := .bool (cdec ((t : Int) < ((od.length + g.edges.length : Nat) : Int)))) rfl (congrArg Value.bool (congrArg (fun z : Int => cdec ((t : Int) < z)) ((w64 (by omega)).trans (by omega)))) ?_
  refine J_dec rfl (fun hlt => J_skip ?_) (fun hge => J_exit ?_)
  · have htl : t < od.length + g.edges.length := by omega
    by_cases he0 : g.edges.length = 0
    · refine J_seq (J_block ?_)
      (repeat' (first | refine J_seq ?_ | refine J_skip ?_ | refine J_yes rfl ?_ | refine J_no rfl ?_))
      refine J_region ?_
      refine JL_all [] rfl ?_
      (repeat' (first | refine J_seq ?_ | refine J_skip ?_ | refine J_yes rfl ?_ | refine J_no rfl ?_))
      refine J_region ?_
      refine JL_all [] rfl ?_
      refine J_set 114 (v' := .bool true) rfl (congrArg Value.bool (cdec_yes (by omega))) ?_
      (repeat' (first | refine J_seq ?_ | refine J_skip ?_ | refine J_yes rfl ?_ | refine J_no rfl ?_))
      (repeat' (first | refine J_seq ?_ | refine J_skip ?_ | refine J_yes rfl ?_ | refine J_no rfl ?_))
      refine J_region ?_
      refine JL_run [] rfl ?_
      refine JL_val [] (v := .slice A1 g.edges.length cn) (OpV_blk 2 rfl rfl rfl rfl) rfl ?_
      refine JL_all [] rfl ?_
      refine J_set 118 (v' := .bool true) rfl (congrArg Value.bool (cdec_yes (by omega))) ?_
      refine J_yes rfl (J_exit ?_)
      (repeat' (first | refine J_seq ?_ | refine J_skip ?_ | refine J_yes rfl ?_ | refine J_no rfl ?_))
      refine J_region ?_
      refine JL_all [] rfl ?_
      exact ⟨(t + 1, ch, lm, rm), ⟨congrArg some (congrArg (Value.int .i64) hq), rfl, rfl, rfl, rfl, rfl, rfl, trivial⟩, Fit.picks [0, 1, 2, 3, 4] (by decide) rfl, ⟨by show t + 1 ≤ _; omega, by show ch.length ≤ t + 1; omega, hG, fun j e _ he => by have := (List.getElem?_eq_some_iff.1 he).1; omega⟩, by show od.length + g.edges.length - (t + 1) < od.length + g.edges.length - t; omega⟩
    obtain ⟨i, hil, hix⟩ : ∃ i : Nat, i < g.edges.length ∧ if t < od.length then pickZ (od.getD t 0) (g.edges.length : Int) = i else (t : Int) - od.length = i := by
      by_cases hto : t < od.length
      · have := pickZ_in (c := od.getD t 0) (n := (g.edges.length : Int)) (by omega)
        exact ⟨(pickZ (od.getD t 0) (g.edges.length : Int)).toNat, by omega, by rw [if_pos hto]; omega⟩
      · exact ⟨t - od.length, by omega, by rw [if_neg hto]; omega⟩
    refine J_seq (J_block ?_)
    (repeat' (first | refine J_seq ?_ | refine J_skip ?_ | refine J_yes rfl ?_ | refine J_no rfl ?_))
    refine J_region ?_
    refine JL_all [] rfl ?_
    refine J_set 24 (v' := .int .i64 ((t : Int) - od.length)) rfl (congrArg (Value.int .i64) (w64 (by omega))) ?_
    refine J_cut [(24, .int .i64 (i : Int)), (23, .int .i64 (t : Int)), (22, .int .i64 (ch.length : Int)), (20, .slice (some ⟨ga, 0, none⟩) (nl + 1) (nl + 1)), (21, .slice (some ⟨gb, 0, none⟩) (nr + 1) (nr + 1)), (12, .slice Ap P.length cp), (10, .pointer (some ⟨p10, 0, none⟩)), (2, .slice O od.length co)] [.own (.slice (some ⟨ga, 0, none⟩) (nl + 1) (nl + 1)) 4 1 (nl + 1) (bools lm), .own (.slice (some ⟨gb, 0, none⟩) (nr + 1) (nr + 1)) 4 1 (nr + 1) (bools rm), blk p10 70 (grC g A1 cn), .own (.slice A1 g.edges.length cn) 77 2 g.edges.length (edgs g.edges), .seg bo oo (ints od)] ?_ ?_
    · (repeat' (first | refine J_seq ?_ | refine J_skip ?_ | refine J_yes rfl ?_ | refine J_no rfl ?_))
      refine J_region ?_
      refine JL_all [] rfl ?_
      by_cases hto : t < od.length
      · rw [if_pos hto] at hix
        obtain ⟨x, hx⟩ : ∃ x, od[t]? = some x := ⟨od[t], List.getElem?_eq_getElem hto⟩
        rw [List.getD_eq_getElem?_getD, hx, Option.getD_some] at hix
        have hxb := hod x (List.mem_of_getElem? hx)
        obtain rfl := hO (by rintro rfl; simp at hto)
        refine J_set 114 (v' := .bool true) rfl (congrArg Value.bool (cdec_yes (by omega))) ?_
        (repeat' (first | refine J_seq ?_ | refine J_skip ?_ | refine J_yes rfl ?_ | refine J_no rfl ?_))
        (repeat' (first | refine J_seq ?_ | refine J_skip ?_ | refine J_yes rfl ?_ | refine J_no rfl ?_))
        refine J_region ?_
        refine JL_run [] rfl ?_
        refine JL_val [] (v := .slice A1 g.edges.length cn) (OpV_blk 2 rfl rfl rfl rfl) rfl ?_
        refine JL_all [] rfl ?_
        refine J_set 118 (v' := .bool false) rfl (congrArg Value.bool (cdec_no (by omega))) ?_
        refine J_no rfl (J_skip ?_)
        (repeat' (first | refine J_seq ?_ | refine J_skip ?_ | refine J_yes rfl ?_ | refine J_no rfl ?_))
        refine J_walk 9 [(0, true), (1, true), (2, true), (3, true), (4, true), (5, true), (6, true), (7, false), (8, true)] [0, 1, 2, 3, 4] (by kernel_rfl) (by decide) rfl ?_
        refine JW_run [] rfl ?_
        refine JW_still [] rfl (idx1 rfl rfl rfl rfl rfl hto) rfl ?_
        refine JW_still [] rfl (ldseg 4 rfl rfl rfl rfl (ints_get hx)) rfl ?_
        refine JW_run [] rfl ?_
        refine JW_still [] rfl (OpV_blk (v := .slice A1 g.edges.length cn) 2 rfl rfl rfl rfl) rfl ?_
        refine JW_run [] rfl ?_
        refine JW_eff rfl ?_
        refine JL_callR [] (pick16_fn hxb (show (0 : Int) < (g.edges.length : Int) by omega)) rfl rfl rfl rfl (by kernel_rfl) trivial (fun _ => rfl) ?_
        rintro _ H' ⟨rfl, rfl⟩
        refine ⟨rfl, JL_nil ⟨⟨[0, 1, 2, 3, 4], by decide, rfl⟩, ?_⟩⟩
        refine JW_all [] rfl ?_
        refine JL_nil ?_
        exact ⟨[0, 1, 2, 3, 4], ⟨congrArg some (congrArg (Value.int .i64) hix), rfl, rfl, rfl, rfl, rfl, rfl, rfl, trivial⟩, by decide, rfl⟩
      · rw [if_neg hto] at hix
        refine J_set 114 (v' := .bool false) rfl (congrArg Value.bool (cdec_no (by omega))) ?_
        (repeat' (first | refine J_seq ?_ | refine J_skip ?_ | refine J_yes rfl ?_ | refine J_no rfl ?_))
        exact ⟨[0, 1, 2, 3, 4], ⟨congrArg some (congrArg (Value.int .i64) hix), rfl, rfl, rfl, rfl, rfl, rfl, rfl, trivial⟩, by decide, rfl⟩
    obtain ⟨e, he⟩ : ∃ e, g.edges[i]? = some e := ⟨g.edges[i], List.getElem?_eq_getElem hil⟩
    have hee := hg.edge e (List.mem_of_getElem? he)
    obtain ⟨el, hel⟩ : ∃ n : Nat, e.l = n := ⟨e.l.toNat, by omega⟩
    obtain ⟨er, her⟩ : ∃ n : Nat, e.r = n := ⟨e.r.toNat, by omega⟩
    have hll := hG.ll
    have hrl := hG.rl
    obtain ⟨bL, hbL⟩ : ∃ bL, lm[el]? = some bL := ⟨lm[el]'(by omega), List.getElem?_eq_getElem _⟩
    obtain ⟨bR, hbR⟩ : ∃ bR, rm[er]? = some bR := ⟨rm[er]'(by omega), List.getElem?_eq_getElem _⟩
    obtain rfl := hA1' (by intro h0; rw [h0] at hil; simp at hil)
    (repeat' (first | refine J_seq ?_ | refine J_skip ?_ | refine J_yes rfl ?_ | refine J_no rfl ?_))
    refine J_region ?_
    refine JL_run [] rfl ?_
    refine JL_val [] (v := .slice (some ⟨g1, 0, none⟩) g.edges.length cn) (OpV_blk 2 rfl rfl rfl rfl) rfl ?_
    refine JL_run [] rfl ?_
    refine JL_val [] (idxNz rfl rfl rfl rfl rfl hil) rfl ?_
    refine JL_val [] (OpV_own 3 rfl rfl rfl (readT_edg he)) rfl ?_
    refine JL_alloc rfl rfl rfl (fun _ => rfl) fun q => ?_
    refine JL_store 0 rfl rfl rfl rfl rfl [] rfl ?_
    refine JL_nil ?_
    (repeat' (first | refine J_seq ?_ | refine J_skip ?_ | refine J_yes rfl ?_ | refine J_no rfl ?_))
    refine J_region ?_
    refine JL_run [] rfl ?_
    refine JL_val [] (v := .int .i64 e.l) (OpV_blk 0 rfl rfl rfl rfl) rfl ?_
    refine JL_set 134 (v' := .int .i64 (el : Int)) rfl (congrArg (Value.int .i64) hel) ?_
    refine JL_val [] (idx1z rfl rfl rfl rfl rfl (by omega)) rfl ?_
    refine JL_val [] (OpV_own 1 rfl rfl rfl (show (bools lm)[el]? = some (.bool bL) from bools_get hbL)) rfl ?_
    have hkeep : (lm[el]? = some true ∨ rm[er]? = some true) → ∀ j e', od.length + j < t + 1 → g.edges[j]? = some e' → lm[e'.l.toNat]? = some true ∨ rm[e'.r.toNat]? = some true := by
      intro h j e' hj he'
      by_cases hjt : od.length + j < t
      · exact hall j e' hjt he'
      · have hji : j = i := by
          rw [if_neg (by omega)] at hix
          omega
        rw [hji, he] at he'
        obtain rfl := Option.some.inj he'
        rw [hel, her, Int.toNat_natCast, Int.toNat_natCast]
        exact h
    cases bL with
    | true =>
      refine JL_run [6] rfl ?_
      refine JL_nil ?_
      refine J_no rfl (J_skip ?_)
      (repeat' (first | refine J_seq ?_ | refine J_skip ?_ | refine J_yes rfl ?_ | refine J_no rfl ?_))
      refine J_region ?_
      refine JL_all [] rfl ?_
      exact ⟨(t + 1, ch, lm, rm), ⟨congrArg some (congrArg (Value.int .i64) hq), rfl, rfl, rfl, rfl, rfl, rfl, trivial⟩, Fit.picks [1, 2, 3, 4, 5] (by decide) rfl, ⟨by show t + 1 ≤ _; omega, by show ch.length ≤ t + 1; omega, hG, hkeep (.inl hbL)⟩, by show od.length + g.edges.length - (t + 1) < od.length + g.edges.length - t; omega⟩
    | false =>
      refine JL_run [6] rfl ?_
      refine JL_val [6] (v := .int .i64 e.r) (OpV_blk 0 rfl rfl rfl rfl) rfl ?_
      refine JL_set 141 (v' := .int .i64 (er : Int)) rfl (congrArg (Value.int .i64) her) ?_
      refine JL_val [6] (idx1z rfl rfl rfl rfl rfl (by omega)) rfl ?_
      refine JL_val [6] (OpV_own 2 rfl rfl rfl (show (bools rm)[er]? = some (.bool bR) from bools_get hbR)) rfl ?_
      cases bR with
      | true =>
        refine JL_run [6] rfl ?_
        refine JL_nil ?_
        refine J_no rfl (J_skip ?_)
        (repeat' (first | refine J_seq ?_ | refine J_skip ?_ | refine J_yes rfl ?_ | refine J_no rfl ?_))
        refine J_region ?_
        refine JL_all [] rfl ?_
        exact ⟨(t + 1, ch, lm, rm), ⟨congrArg some (congrArg (Value.int .i64) hq), rfl, rfl, rfl, rfl, rfl, rfl, trivial⟩, Fit.picks [1, 2, 3, 4, 5] (by decide) rfl, ⟨by show t + 1 ≤ _; omega, by show ch.length ≤ t + 1; omega, hG, hkeep (.inr hbR)⟩, by show od.length + g.edges.length - (t + 1) < od.length + g.edges.length - t; omega⟩
      | false =>
        refine JL_run [6] rfl ?_
        refine JL_nil ?_
        refine J_yes rfl ?_
        (repeat' (first | refine J_seq ?_ | refine J_skip ?_ | refine J_yes rfl ?_ | refine J_no rfl ?_))
        refine J_region ?_
        refine JL_run [] rfl ?_
        refine JL_val [] (v := .int .i64 e.l) (OpV_blk 0 rfl rfl rfl rfl) rfl ?_
        refine JL_set 148 (v' := .int .i64 (el : Int)) rfl (congrArg (Value.int .i64) hel) ?_
        refine JL_val [] (idx1z rfl rfl rfl rfl rfl (by omega)) rfl ?_
        refine JL_store_own 1 rfl rfl rfl rfl (put_bools rfl (by omega)) [] rfl ?_
        refine JL_nil ?_
        (repeat' (first | refine J_seq ?_ | refine J_skip ?_ | refine J_yes rfl ?_ | refine J_no rfl ?_))
        refine J_region ?_
        refine JL_run [] rfl ?_
        refine JL_val [] (v := .int .i64 e.r) (OpV_blk 0 rfl rfl rfl rfl) rfl ?_
        refine JL_set 152 (v' := .int .i64 (er : Int)) rfl (congrArg (Value.int .i64) her) ?_
        refine JL_val [] (idx1z rfl rfl rfl rfl rfl (by omega)) rfl ?_
        refine JL_store_own 2 rfl rfl rfl rfl (put_bools rfl (by omega)) [] rfl ?_
        refine JL_nil ?_
        (repeat' (first | refine J_seq ?_ | refine J_skip ?_ | refine J_yes rfl ?_ | refine J_no rfl ?_))
        refine J_region ?_
        refine JL_all [] rfl ?_
        (repeat' (first | refine J_seq ?_ | refine J_skip ?_ | refine J_yes rfl ?_ | refine J_no rfl ?_))
        refine J_region ?_
        refine JL_all [] rfl ?_
        have hG2 := hG.add he hel her (by omega) (by omega) hbL hbR
        refine ⟨(t + 1, i :: ch, lm.set el true, rm.set er true), ⟨congrArg some (congrArg (Value.int .i64) hq), congrArg some (congrArg (Value.int .i64) (w64 (n := (ch.length : Int) + 1) (by omega))), rfl, rfl, rfl, rfl, rfl, trivial⟩, Fit.picks [1, 2, 3, 4, 5] (by decide) rfl, ⟨by show t + 1 ≤ _; omega, by show ch.length + 1 ≤ t + 1; omega, hG2, fun j e' hj he' => ?_⟩, by show od.length + g.edges.length - (t + 1) < od.length + g.edges.length - t; omega⟩
        by_cases hjt : od.length + j < t
        · rcases hall j e' hjt he' with h | h
          · exact .inl ((set_true_iff (by omega)).2 (.inr h))
          · exact .inr ((set_true_iff (by omega)).2 (.inr h))
        · have hji : j = i := by
            have hj' : od.length + j < t + 1 := hj
            rw [if_neg (by omega)] at hix
            omega
          rw [hji, he] at he'
          obtain rfl := Option.some.inj he'
          exact .inl ((set_true_iff (by omega)).2 (.inl (by omega)))
  · have htl : t = od.length + g.edges.length := by omega
    obtain ⟨f1, f2⟩ := hG.both hg mp bp fun e he => by
      obtain ⟨j, hj, rfl⟩ := List.mem_iff_getElem.1 he
      exact hall j _ (by omega) (List.getElem?_eq_getElem hj)
    (repeat' (first | refine J_seq ?_ | refine J_skip ?_ | refine J_yes rfl ?_ | refine J_no rfl ?_))
    refine J_region ?_
    refine JL_evO (gs := [999]) rfl ?_
    refine JL_evO (gs := [999]) rfl ?_
    refine JL_evO (gs := [999]) rfl ?_
    refine JL_evO (gs := [999]) rfl ?_
    refine JL_evO (gs := [999]) rfl ?_
    refine JL_set 160 (v' := .bool true) rfl (congrArg Value.bool (cdec_yes (by omega))) ?_
    refine JL_all [4] rfl ?_
    exact J_ret ⟨_, rfl, congrArg Value.bool (cdec_yes (by rw [w64 (by omega)]; omega))⟩
end Go.Proofs.Ytjbcgjahfalkaaa
