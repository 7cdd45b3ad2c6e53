
/- DinicApart: what two networks beside one another let through is what both do. -/
import Derived.Test.YtcgcimnjknadjaaSh12N
import Derived.Test.YtcgcimnjknadjaaMade12
import Derived.Test.YtcgcimnjknadjaaApartP
import Derived.Test.YtcgcimnjknadjaaMaxG
set_option linter.unusedVariables false
set_option linter.unusedSimpArgs false
namespace Go.Proofs.Ytcgcimnjknadjaa
open Go.RowKit
theorem moved_fn (N M : Net) (A : Option Addr) (c : Nat) (A2 : Option Addr) (c2 : Nat) (x : Int) (hb : inB (N.nodes + x)) : Fn 35 [netV N A c, netV M A2 c2, .int .i64 x] [] [] fun v H' => v = .int .i64 (mvZ N M x) ∧ H' = [] := by
  refine Fn_of Try.func35 rfl rfl fun w0 => ?_
  (repeat' (first | refine J_seq ?_ | refine J_skip ?_ | refine J_yes rfl ?_ | refine J_no rfl ?_))
  refine J_region ?_
  refine JL_box (cs := netC N A c) rfl rfl rfl (fun _ => rfl) fun p0 => ?_
  refine JL_box (cs := netC M A2 c2) rfl rfl rfl (fun _ => rfl) fun p1 => ?_
  refine JL_all [] rfl ?_
  (repeat' (first | refine J_seq ?_ | refine J_skip ?_ | refine J_yes rfl ?_ | refine J_no rfl ?_))
  refine J_region ?_
  refine JL_run [] rfl ?_
  (first | refine JL_val [999] (OpV_blk 0 rfl rfl rfl rfl) rfl ?_ | refine JL_val [999] (OpV_blk 1 rfl rfl rfl rfl) rfl ?_ | refine JL_val [999] (OpV_blk 2 rfl rfl rfl rfl) rfl ?_ | refine JL_val [999] (OpV_blk 3 rfl rfl rfl rfl) rfl ?_ | refine JL_val [999] (OpV_blk 4 rfl rfl rfl rfl) rfl ?_ | refine JL_val [999] (OpV_blk 5 rfl rfl rfl rfl) rfl ?_ | refine JL_val [999] (OpV_blk 6 rfl rfl rfl rfl) rfl ?_ | refine JL_val [999] (OpV_blk 7 rfl rfl rfl rfl) rfl ?_)
  refine JL_all [] rfl ?_
  refine J_dec rfl (fun h => ?_) (fun h1 => J_skip ?_)
  · (repeat' (first | refine J_seq ?_ | refine J_skip ?_ | refine J_yes rfl ?_ | refine J_no rfl ?_))
    refine J_region ?_
    refine JL_run [] rfl ?_
    refine JL_val [] (v := .int .i64 N.src) (OpV_blk 1 rfl rfl rfl rfl) rfl ?_
    refine JL_all [] rfl ?_
    exact J_drop [] (by decide) rfl (J_ret ⟨_, rfl, congrArg (Value.int .i64) (by rw [h]; exact mv_src.symm), rfl⟩)
  (repeat' (first | refine J_seq ?_ | refine J_skip ?_ | refine J_yes rfl ?_ | refine J_no rfl ?_))
  refine J_region ?_
  refine JL_run [] rfl ?_
  refine JL_val [] (v := .int .i64 M.snk) (OpV_blk 0 rfl rfl rfl rfl) rfl ?_
  refine JL_all [] rfl ?_
  refine J_dec rfl (fun h => ?_) (fun h2 => J_skip ?_)
  · (repeat' (first | refine J_seq ?_ | refine J_skip ?_ | refine J_yes rfl ?_ | refine J_no rfl ?_))
    refine J_region ?_
    refine JL_run [] rfl ?_
    refine JL_val [] (v := .int .i64 N.snk) (OpV_blk 1 rfl rfl rfl rfl) rfl ?_
    refine JL_all [] rfl ?_
    exact J_drop [] (by decide) rfl (J_ret ⟨_, rfl, congrArg (Value.int .i64) (by unfold mvZ; rw [if_neg h1, if_pos h]), rfl⟩)
  (repeat' (first | refine J_seq ?_ | refine J_skip ?_ | refine J_yes rfl ?_ | refine J_no rfl ?_))
  refine J_region ?_
  refine JL_run [] rfl ?_
  refine JL_val [] (v := .int .i64 N.nodes) (OpV_blk 1 rfl rfl rfl rfl) rfl ?_
  refine JL_all [] rfl ?_
  exact J_drop [] (by decide) rfl (J_ret ⟨_, rfl, congrArg (Value.int .i64) (by rw [mv_else h1 h2]; exact w64 hb), rfl⟩)
set_option maxHeartbeats 4000000 in
theorem dinicApart_fn (nodes : Int) (hn : inB nodes) (ends : Int) (he : inB ends) (A : Option Addr) (c b o : Nat) (l : List Arc) (hA : l ≠ [] → A = some ⟨b, o, none⟩) (hl : ∀ x ∈ l, inB x.fr ∧ inB x.to ∧ inB x.cap) (hs : l.length * 24 ≤ 140737488351232)
    (B : Option Addr) (c1 b1 o1 : Nat) (l1 : List Arc) (hB : l1 ≠ [] → B = some ⟨b1, o1, none⟩) (hl1 : ∀ x ∈ l1, inB x.fr ∧ inB x.to ∧ inB x.cap) (hs1 : l1.length * 24 ≤ 140737488351232) :
    Fn 10 [.int .i64 nodes, .int .i64 ends, .slice A l.length c, .slice B l1.length c1] [] [.seg b o (arcs l), .seg b1 o1 (arcs l1)] fun v _ => v = .bool true := by
  have ht3 := tmod_cases nodes (m := 3) (by decide)
  have ht4 := tmod_cases ends (m := 3) (by decide)
  have hn3 : inB (nodes.tdiv 3) := by unfold inB at *; omega
  have he3 : inB (ends.tdiv 3) := by unfold inB at *; omega
  refine Fn_of Try.func10 rfl rfl fun w0 => ?_
  (repeat' (first | refine J_seq ?_ | refine J_skip ?_ | refine J_yes rfl ?_ | refine J_no rfl ?_))
  refine J_region ?_
  refine JL_all [] rfl ?_
  (repeat' (first | refine J_seq ?_ | refine J_skip ?_ | refine J_yes rfl ?_ | refine J_no rfl ?_))
  refine J_region ?_
  refine JL_callR [] (shown12_fn) rfl rfl rfl rfl (by kernel_rfl) trivial (fun _ => rfl) ?_
  rintro v H' ⟨rfl, rfl⟩
  refine ⟨rfl, ?_⟩
  refine JL_all [] rfl ?_
  (repeat' (first | refine J_seq ?_ | refine J_skip ?_ | refine J_yes rfl ?_ | refine J_no rfl ?_))
  refine J_region ?_
  refine JL_all [] rfl ?_
  (repeat' (first | refine J_seq ?_ | refine J_skip ?_ | refine J_yes rfl ?_ | refine J_no rfl ?_))
  refine J_region ?_
  refine JL_run [] rfl ?_
  refine JL_callR [] (made12_fn nodes ends hn he A c b o l hA hl (by omega)) rfl rfl rfl rfl (by kernel_rfl) ⟨⟨0, _, by simp, rfl, shows_seg _ _ _, seen_seg⟩, trivial⟩ (fun _ => rfl) ?_
  rintro v H' ⟨N, A1, cn, hR, hn9, h24, hcm, rfl, rfl⟩
  refine ⟨rfl, ?_⟩
  refine JL_alloc rfl rfl rfl (fun _ => rfl) fun b10 => ?_
  refine JL_store 0 rfl rfl rfl rfl rfl [] rfl ?_
  refine JL_know (own_is 1 rfl) fun ⟨_, _, hA1, hla⟩ => ?_
  obtain ⟨g1, hA1⟩ := own_at hA1 hla
  have hA1' : N.arcs ≠ [] → A1 = some ⟨g1, 0, none⟩ := fun h => hA1 (fun h0 => h (List.length_eq_zero_iff.1 (by have := arcs_length N.arcs; rw [h0] at this; simp at this; omega)))
  refine JL_nil ?_
  (repeat' (first | refine J_seq ?_ | refine J_skip ?_ | refine J_yes rfl ?_ | refine J_no rfl ?_))
  refine J_region ?_
  refine JL_run [] rfl ?_
  refine JL_set 35 (v' := .int .i64 (nodes.tdiv 3)) rfl (congrArg (Value.int .i64) (w64 hn3)) ?_
  refine JL_set 37 (v' := .int .i64 (ends.tdiv 3)) rfl (congrArg (Value.int .i64) (w64 he3)) ?_
  refine JL_callR [] (made12_fn (nodes.tdiv 3) (ends.tdiv 3) hn3 he3 B c1 b1 o1 l1 hB hl1 (by omega)) rfl rfl rfl rfl (by kernel_rfl) ⟨⟨3, _, by simp, rfl, shows_seg _ _ _, seen_seg⟩, trivial⟩ (fun _ => rfl) ?_
  rintro v H' ⟨M, A2, cm, hS, hm9, m24, hcs, rfl, rfl⟩
  refine ⟨rfl, ?_⟩
  refine JL_alloc rfl rfl rfl (fun _ => rfl) fun b11 => ?_
  refine JL_store 0 rfl rfl rfl rfl rfl [] rfl ?_
  refine JL_know (own_is 1 rfl) fun ⟨_, _, hA2, hlb⟩ => ?_
  obtain ⟨g2, hA2⟩ := own_at hA2 hlb
  have hA2' : M.arcs ≠ [] → A2 = some ⟨g2, 0, none⟩ := fun h => hA2 (fun h0 => h (List.length_eq_zero_iff.1 (by have := arcs_length M.arcs; rw [h0] at this; simp at this; omega)))
  refine JL_nil ?_
  have hF := hR.fits2
  have hG := hS.fits2
  have hz := zeroFlow N hR
  have hy := zeroFlow M hS
  (repeat' (first | refine J_seq ?_ | refine J_skip ?_ | refine J_yes rfl ?_ | refine J_no rfl ?_))
  refine J_region ?_
  refine JL_val [] (v := netV N A1 cn) (OpV_blk 2 rfl rfl rfl rfl) rfl ?_
  refine JL_callR [] (max_fn N hF hR A1 cn g1 0 hA1') rfl rfl rfl rfl (by kernel_rfl) ⟨⟨3, _, by simp, rfl, shows_ownS hA1, seen_ownS hA1⟩, trivial⟩ (fun _ => rfl) ?_
  rintro v H' ⟨fa, pa, ka, Aa, ca, hda, _, rfl, rfl⟩
  obtain ⟨hfa, _, _, lva, hlva, hlta⟩ := hda.keeps hR (by decide) hz
  refine ⟨rfl, ?_⟩
  refine JL_run [] rfl ?_
  refine JL_alloc rfl rfl rfl (fun _ => rfl) fun b12 => ?_
  refine JL_store 0 rfl rfl rfl rfl rfl [] rfl ?_
  refine JL_all [] rfl ?_
  refine J_know (own_is 1 rfl) fun ⟨_, _, hAa, hlaa⟩ => ?_
  obtain ⟨ga, hAa⟩ := own_at hAa hlaa
  have hAa' : fa ≠ [] → Aa = some ⟨ga, 0, none⟩ := fun h => hAa (by simpa [ints] using h)
  have hfal := hfa.len
  (repeat' (first | refine J_seq ?_ | refine J_skip ?_ | refine J_yes rfl ?_ | refine J_no rfl ?_))
  refine J_region ?_
  refine JL_val [] (v := netV M A2 cm) (OpV_blk 2 rfl rfl rfl rfl) rfl ?_
  refine JL_callR [] (max_fn M hG hS A2 cm g2 0 hA2') rfl rfl rfl rfl (by kernel_rfl) ⟨⟨3, _, by simp, rfl, shows_ownS hA2, seen_ownS hA2⟩, trivial⟩ (fun _ => rfl) ?_
  rintro v H' ⟨fb, pb, kb, Ab, cb, hdb, _, rfl, rfl⟩
  obtain ⟨hfb, _, _, lvb, hlvb, hltb⟩ := hdb.keeps hS (by decide) hy
  refine ⟨rfl, ?_⟩
  refine JL_run [] rfl ?_
  refine JL_alloc rfl rfl rfl (fun _ => rfl) fun b14 => ?_
  refine JL_store 0 rfl rfl rfl rfl rfl [] rfl ?_
  refine JL_all [] rfl ?_
  refine J_know (own_is 1 rfl) fun ⟨_, _, hAb, hlbb⟩ => ?_
  obtain ⟨gb, hAb⟩ := own_at hAb hlbb
  have hAb' : fb ≠ [] → Ab = some ⟨gb, 0, none⟩ := fun h => hAb (by simpa [ints] using h)
  have hfbl := hfb.len
  (repeat' (first | refine J_seq ?_ | refine J_skip ?_ | refine J_yes rfl ?_ | refine J_no rfl ?_))
  refine J_region ?_
  refine JL_val [] (v := netV N A1 cn) (OpV_blk 6 rfl rfl rfl rfl) rfl ?_
  refine JL_run [] rfl ?_
  refine JL_val [] (v := .slice Aa fa.length ca) (OpV_blk 2 rfl rfl rfl rfl) rfl ?_
  refine JL_callR [] (fvalue_fn N hF hR A1 cn g1 0 hA1' fa Aa ca ga 0 hAa' (IsFlow.inB hR hfa.toRanged) (by omega)) rfl rfl rfl rfl (by kernel_rfl) ⟨⟨7, _, by simp, rfl, shows_ownS hA1, seen_ownS hA1⟩, ⟨3, _, by simp, rfl, shows_ownS hAa, seen_ownS hAa⟩, trivial⟩ (fun _ => rfl) ?_
  rintro v H' ⟨⟨rfl, _⟩ | ⟨_, h⟩, rfl⟩
  case inr => exact absurd hfa h
  refine ⟨rfl, ?_⟩
  refine JL_all [] rfl ?_
  obtain ⟨v, hv⟩ : ∃ v, v = exZ (N.arcs.zip fa) N.snk := ⟨_, rfl⟩
  have hvb := value_bound hR hfa.toRanged N.snk
  rw [← hv] at hvb
  refine J_set 16 (v' := .int .i64 v) rfl (congrArg (Value.int .i64) hv.symm) ?_
  (repeat' (first | refine J_seq ?_ | refine J_skip ?_ | refine J_yes rfl ?_ | refine J_no rfl ?_))
  refine J_region ?_
  refine JL_val [] (v := netV M A2 cm) (OpV_blk 4 rfl rfl rfl rfl) rfl ?_
  refine JL_run [] rfl ?_
  refine JL_val [] (v := .slice Ab fb.length cb) (OpV_blk 0 rfl rfl rfl rfl) rfl ?_
  refine JL_callR [] (fvalue_fn M hG hS A2 cm g2 0 hA2' fb Ab cb gb 0 hAb' (IsFlow.inB hS hfb.toRanged) (by omega)) rfl rfl rfl rfl (by kernel_rfl) ⟨⟨5, _, by simp, rfl, shows_ownS hA2, seen_ownS hA2⟩, ⟨1, _, by simp, rfl, shows_ownS hAb, seen_ownS hAb⟩, trivial⟩ (fun _ => rfl) ?_
  rintro v H' ⟨⟨rfl, _⟩ | ⟨_, h⟩, rfl⟩
  case inr => exact absurd hfb h
  refine ⟨rfl, ?_⟩
  refine JL_all [] rfl ?_
  obtain ⟨w, hw⟩ : ∃ w, w = exZ (M.arcs.zip fb) M.snk := ⟨_, rfl⟩
  have hwb := value_bound hS hfb.toRanged M.snk
  rw [← hw] at hwb
  refine J_set 18 (v' := .int .i64 w) rfl (congrArg (Value.int .i64) hw.symm) ?_
  have hnn := hR.nodes
  have hmm := hS.nodes
  refine J_fit (K := [blk b11 26 (netC M A2 cm), .own (.slice A2 M.arcs.length cm) 29 3 M.arcs.length (arcs M.arcs), blk b10 26 (netC N A1 cn), .own (.slice A1 N.arcs.length cn) 29 3 N.arcs.length (arcs N.arcs)]) (Fit.picks [4, 5, 6, 7] (by decide) rfl) ?_
  refine J_cutE (σ := Nat × Option Addr × Nat) (fun t => [(20, .pointer (some ⟨t.1, 0, none⟩)), (10, .pointer (some ⟨b10, 0, none⟩)), (11, .pointer (some ⟨b11, 0, none⟩)), (16, .int .i64 v), (17, .int .i64 0), (18, .int .i64 w), (19, .int .i64 0), (76, .slice t.2.1 N.arcs.length t.2.2)])
    (fun t => [blk t.1 26 [.int .i64 (bothN N M).nodes, .int .i64 N.src, .int .i64 N.snk, .slice t.2.1 N.arcs.length t.2.2], .own (.slice t.2.1 N.arcs.length t.2.2) 29 3 N.arcs.length (arcs N.arcs), blk b11 26 (netC M A2 cm), .own (.slice A2 M.arcs.length cm) 29 3 M.arcs.length (arcs M.arcs), blk b10 26 (netC N A1 cn)]) ?_ ?_
  · refine J_draw (Sf := [blk b11 26 (netC M A2 cm), blk b10 26 (netC N A1 cn)]) ?_
    refine JA_pre [0, 1, 2, 3, 4, 5, 6, 7, 8, 10, 11] (by decide +kernel) [0, 2] (by decide) rfl ?_
    refine JW_evO (gs := [999]) rfl rfl ?_
    refine JW_still [] rfl (OpV_blk (v := .int .i64 N.nodes) 1 rfl rfl rfl rfl) rfl ?_
    refine JW_evO (gs := [999]) rfl rfl ?_
    refine JW_still [] rfl (OpV_blk (v := .int .i64 M.nodes) 0 rfl rfl rfl rfl) rfl ?_
    refine JW_evO (gs := [999]) rfl rfl ?_
    refine JW_set 68 (v' := .int .i64 (bothN N M).nodes) rfl (congrArg (Value.int .i64) (w64 (n := N.nodes + M.nodes) (by omega))) ?_
    refine JW_evO (gs := [999]) rfl rfl ?_
    refine JW_still [] rfl (OpV_blk (v := .int .i64 N.src) 1 rfl rfl rfl rfl) rfl ?_
    refine JW_evO (gs := [999]) rfl rfl ?_
    refine JW_still [] rfl (OpV_blk (v := .int .i64 N.snk) 1 rfl rfl rfl rfl) rfl ?_
    refine JW_evO (gs := [999]) rfl rfl ?_
    refine JW_still [] rfl (OpV_blk (v := .slice A1 N.arcs.length cn) 1 rfl rfl rfl rfl) rfl ?_
    refine JW_nil ?_
    (repeat' (first
      | exact trivial
      | refine JA_step 9 [14] (by decide +kernel) (by decide) ?_
      | refine JA_step 9 [] (by decide +kernel) (by decide) ?_
      | refine JA_step 12 [14] (by decide +kernel) (by decide) ?_
      | refine JA_step 12 [] (by decide +kernel) (by decide) ?_
      | refine JA_step 13 [14] (by decide +kernel) (by decide) ?_
      | refine JA_step 13 [] (by decide +kernel) (by decide) ?_
      | refine JA_step 14 [] (by decide +kernel) (by decide) ?_
      | refine JA_step 15 [] (by decide +kernel) (by decide) ?_
      | refine ⟨⟨_, rfl, ?_⟩, ?_⟩
      | (refine JL_lit rfl rfl rfl rfl rfl rfl rfl (fun _ => rfl) fun g5 => ?_; refine JL_own 3 0 rfl (by decide) ?_)
      | (refine JL_appendS (n := 0) (m := N.arcs.length) (news := arcs N.arcs) 0 4 rfl rfl rfl rfl rfl rfl (by decide) rfl rfl (shows_ownS hA1) hA1 (arcs_length _) (arcs_one _) (by omega) (by omega) (fun _ _ => rfl) fun A3 c3 => ?_; rw [Nat.zero_add, List.nil_append])
      | (refine JL_appendS (n := 0) (m := N.arcs.length) (news := arcs N.arcs) 0 5 rfl rfl rfl rfl rfl rfl (by decide) rfl rfl (shows_ownS hA1) hA1 (arcs_length _) (arcs_one _) (by omega) (by omega) (fun _ _ => rfl) fun A3 c3 => ?_; rw [Nat.zero_add, List.nil_append])
      | (refine JL_appendS (n := 0) (m := N.arcs.length) (news := arcs N.arcs) 1 5 rfl rfl rfl rfl rfl rfl (by decide) rfl rfl (shows_ownS hA1) hA1 (arcs_length _) (arcs_one _) (by omega) (by omega) (fun _ _ => rfl) fun A3 c3 => ?_; rw [Nat.zero_add, List.nil_append])
      | refine JL_val [] (OpV_build rfl rfl rfl rfl rfl rfl) rfl ?_
      | refine JL_alloc rfl rfl rfl (fun _ => rfl) fun b20 => ?_
      | refine JL_store 0 rfl rfl rfl rfl rfl [] rfl ?_
      | refine JL_store 1 rfl rfl rfl rfl rfl [] rfl ?_
      | refine JL_nil ⟨⟨[1, 3], by decide, rfl⟩, ?_⟩
      | refine JL_nil ⟨⟨[2, 4], by decide, rfl⟩, ?_⟩))
    all_goals refine JA_done (by decide +kernel) ⟨(_, _, _), ⟨rfl, rfl, rfl, rfl, rfl, rfl, rfl, rfl, trivial⟩, ?_⟩
    all_goals (first | exact Fit.picks [0, 1, 2, 3, 4] (by decide) rfl | exact Fit.picks [1, 0, 2, 3, 4] (by decide) rfl)
  rintro ⟨b20, A3, c3⟩
  simp only
  (repeat' (first | refine J_seq ?_ | refine J_skip ?_ | refine J_yes rfl ?_ | refine J_no rfl ?_))
  refine J_region ?_
  refine JL_all [] rfl ?_
  (repeat' (first | refine J_seq ?_ | refine J_skip ?_ | refine J_yes rfl ?_ | refine J_no rfl ?_))
  refine J_block ?_
  refine J_loopF (σ := Nat × Option Addr × Nat) (fun t => [(21, .int .i64 (t.1 : Int)), (20, .pointer (some ⟨b20, 0, none⟩)), (10, .pointer (some ⟨b10, 0, none⟩)), (11, .pointer (some ⟨b11, 0, none⟩)), (16, .int .i64 v), (17, .int .i64 0), (18, .int .i64 w), (19, .int .i64 0)])
    (fun t => [blk b20 26 [.int .i64 (bothN N M).nodes, .int .i64 N.src, .int .i64 N.snk, .slice t.2.1 (N.arcs.length + t.1) t.2.2], .own (.slice t.2.1 (N.arcs.length + t.1) t.2.2) 29 3 (N.arcs.length + t.1) (arcs (N.arcs ++ (M.arcs.take t.1).map (mvA N M))),
      blk b11 26 (netC M A2 cm), .own (.slice A2 M.arcs.length cm) 29 3 M.arcs.length (arcs M.arcs), blk b10 26 (netC N A1 cn)])
    (fun t => t.1 ≤ M.arcs.length) (fun t => M.arcs.length - t.1) (0, A3, c3) ⟨rfl, rfl, rfl, rfl, rfl, rfl, rfl, rfl, trivial⟩ ?_ (Nat.zero_le _) ?_
  · show Fit _ _ [_, .own _ _ _ _ (arcs (N.arcs ++ [])), _, _, _]
    rw [List.append_nil]
    exact Fit.picks [0, 1, 2, 3, 4] (by decide) rfl
  rintro ⟨k, A3, c3⟩ hk
  simp only at hk ⊢
  (repeat' (first | refine J_seq ?_ | refine J_skip ?_ | refine J_yes rfl ?_ | refine J_no rfl ?_))
  refine J_region ?_
  refine JL_run [] rfl ?_
  refine JL_val [] (v := .slice A2 M.arcs.length cm) (OpV_blk 2 rfl rfl rfl rfl) rfl ?_
  refine JL_all [] rfl ?_
  refine J_dec rfl (fun hlt => J_skip ?_) (fun hge => J_exit ?_)
  · have hkl : k < M.arcs.length := by omega
    obtain ⟨a, ha⟩ : ∃ a, M.arcs[k]? = some a := ⟨M.arcs[k], List.getElem?_eq_getElem hkl⟩
    obtain rfl := hA2' (by intro h0; rw [h0] at hkl; simp at hkl)
    have har := hS.arc a (List.mem_of_getElem? ha)
    have htk : N.arcs ++ (M.arcs.take (k + 1)).map (mvA N M) = (N.arcs ++ (M.arcs.take k).map (mvA N M)) ++ [⟨mvZ N M a.fr, mvZ N M a.to, a.cap⟩] := by
      rw [List.take_add_one, ha, List.map_append, List.append_assoc]; rfl
    refine J_seq (J_block ?_)
    (repeat' (first | refine J_seq ?_ | refine J_skip ?_ | refine J_yes rfl ?_ | refine J_no rfl ?_))
    refine J_region ?_
    refine JL_run [] rfl ?_
    refine JL_val [] (v := .slice (some ⟨g2, 0, none⟩) M.arcs.length cm) (OpV_blk 2 rfl rfl rfl rfl) rfl ?_
    refine JL_run [] rfl ?_
    refine JL_val [] (idxNz rfl rfl rfl rfl rfl hkl) rfl ?_
    refine JL_val [] (OpV_own 3 rfl rfl rfl (readT_arc ha)) rfl ?_
    refine JL_alloc rfl rfl rfl (fun _ => rfl) fun q => ?_
    refine JL_store 0 rfl rfl rfl rfl rfl [] rfl ?_
    refine JL_nil ?_
    (repeat' (first | refine J_seq ?_ | refine J_skip ?_ | refine J_yes rfl ?_ | refine J_no rfl ?_))
    refine J_walk 18 [(0, true), (1, true), (2, true), (3, true), (4, true), (5, true), (7, true), (8, true), (9, true), (10, true), (12, true), (13, true), (6, false), (11, false), (14, true), (15, false), (16, false), (17, true)] [0, 1, 3, 5] (by kernel_rfl) (by decide) rfl ?_
    have hm1 : 1 ≤ mvZ N M a.fr ∧ mvZ N M a.fr ≤ N.nodes + M.nodes := mv_rng hR har.1
    refine JW_evO (gs := [999]) rfl rfl ?_
    refine JW_still [] rfl (OpV_blk (v := .slice A3 (N.arcs.length + k) c3) 1 rfl rfl rfl rfl) rfl ?_
    refine JW_still [] rfl (OpV_blk (v := netV N A1 cn) 3 rfl rfl rfl rfl) rfl ?_
    refine JW_still [] rfl (OpV_blk (v := netV M (some ⟨g2, 0, none⟩) cm) 2 rfl rfl rfl rfl) rfl ?_
    refine JW_evO (gs := [999]) rfl rfl ?_
    refine JW_still [] rfl (OpV_blk (v := .int .i64 a.fr) 0 rfl rfl rfl rfl) rfl ?_
    refine JW_still [] rfl (OpV_blk (v := netV N A1 cn) 3 rfl rfl rfl rfl) rfl ?_
    refine JW_still [] rfl (OpV_blk (v := netV M (some ⟨g2, 0, none⟩) cm) 2 rfl rfl rfl rfl) rfl ?_
    refine JW_evO (gs := [999]) rfl rfl ?_
    refine JW_still [] rfl (OpV_blk (v := .int .i64 a.to) 0 rfl rfl rfl rfl) rfl ?_
    refine JW_evO (gs := [999]) rfl rfl ?_
    refine JW_still [] rfl (OpV_blk (v := .int .i64 a.cap) 0 rfl rfl rfl rfl) rfl ?_
    refine JW_eff rfl ?_
    refine JL_callR [] (moved_fn N M A1 cn (some ⟨g2, 0, none⟩) cm a.fr (by unfold inB; omega)) rfl rfl rfl rfl (by kernel_rfl) trivial (fun _ => rfl) ?_
    rintro _ H' ⟨rfl, rfl⟩
    refine ⟨rfl, JL_nil ⟨⟨[0, 1, 3, 5], by decide, rfl⟩, ?_⟩⟩
    refine JW_eff rfl ?_
    refine JL_callR [] (moved_fn N M A1 cn (some ⟨g2, 0, none⟩) cm a.to (by unfold inB; omega)) rfl rfl rfl rfl (by kernel_rfl) trivial (fun _ => rfl) ?_
    rintro _ H' ⟨rfl, rfl⟩
    refine ⟨rfl, JL_nil ⟨⟨[0, 1, 3, 5], by decide, rfl⟩, ?_⟩⟩
    refine JW_still [] rfl (OpV_build rfl rfl rfl rfl rfl rfl) rfl ?_
    refine JW_eff rfl ?_
    refine JL_lit rfl rfl rfl rfl rfl rfl rfl (fun _ => rfl) fun g5 => ?_
    refine JL_nil ⟨⟨[1, 2, 4, 6], by decide, rfl⟩, ?_⟩
    refine JW_eff rfl ?_
    refine JL_appendS (n := N.arcs.length + k) (m := 1) (off := 0) (news := arcs [⟨mvZ N M a.fr, mvZ N M a.to, a.cap⟩]) 3 0 rfl rfl rfl rfl rfl rfl (by decide) rfl rfl (shows_blk g5 _ _ (0, 0)) (fun _ => rfl) rfl rfl (by omega) (by omega) (fun _ _ => rfl) fun A5 c5 => ?_
    refine JL_nil ⟨⟨[1, 2, 4, 6], by decide, rfl⟩, ?_⟩
    refine JW_run [] rfl ?_
    refine JW_nil ?_
    refine JL_store 2 rfl rfl rfl rfl rfl [] rfl ?_
    refine JL_nil ?_
    rw [← arcs_app, ← htk]
    (repeat' (first | refine J_seq ?_ | refine J_skip ?_ | refine J_yes rfl ?_ | refine J_no rfl ?_))
    refine J_region ?_
    refine JL_all [] rfl ?_
    refine ⟨(k + 1, A5, c5), ⟨?_, rfl, rfl, rfl, rfl, rfl, rfl, rfl, trivial⟩, ?_, hkl, by show M.arcs.length - (k + 1) < M.arcs.length - k; omega⟩
    · show some (Value.int .i64 (IntKind.i64.wrap ((k : Int) + 1))) = _
      rw [w64 (by omega)]; rfl
    · exact Fit.picks [2, 3, 4, 5, 6] (by decide) rfl
  · obtain rfl : k = M.arcs.length := by omega
    rw [List.take_of_length_le (Nat.le_refl _)]
    have hlaw := fun (hB : (bothN N M).Right) {h l3 : List Int} (hh : IsFlow (bothN N M) h) (hl3 : IsLev (bothN N M) (roomL ((bothN N M).arcs.zip h)) 1 l3) (h3 : lvZ l3 N.snk.toNat < 0) => apart_value hR hS hB hfa hlva hlta hfb hlvb hltb hh hl3 h3
    have hB := both_right hR hS (by omega) (by omega) hcm hcs
    have hlaw := @hlaw hB
    have hBl : (bothN N M).arcs.length = N.arcs.length + M.arcs.length := by simp [bothN]
    refine J_fit (K := [blk b20 26 (netC (bothN N M) A3 c3), .own (.slice A3 (bothN N M).arcs.length c3) 29 3 (bothN N M).arcs.length (arcs (bothN N M).arcs)]) (by
      unfold netC
      rw [hBl]
      exact Fit.picks [0, 1] (by decide) rfl) ?_
    rw [← hv, ← hw] at hlaw
    have hBs : (bothN N M).snk = N.snk := rfl
    rw [← hBs] at hlaw
    obtain ⟨K, hK⟩ : ∃ K, K = bothN N M := ⟨_, rfl⟩
    rw [← hK] at hlaw hB ⊢
    have hBF := hB.fits2
    refine J_know (own_is 1 rfl) fun ⟨_, _, hA3, hl3⟩ => ?_
    obtain ⟨g3, hA3⟩ := own_at hA3 hl3
    have hA3' : K.arcs ≠ [] → A3 = some ⟨g3, 0, none⟩ := fun h => hA3 (fun h0 => h (List.length_eq_zero_iff.1 (by have := arcs_length K.arcs; rw [h0] at this; simp at this; omega)))
    (repeat' (first | refine J_seq ?_ | refine J_skip ?_ | refine J_yes rfl ?_ | refine J_no rfl ?_))
    refine J_region ?_
    refine JL_val [] (v := netV K A3 c3) (OpV_blk 0 rfl rfl rfl rfl) rfl ?_
    refine JL_callR [] (maxG_fn K hBF hB A3 c3 g3 0 hA3' 116 (.inr rfl)) rfl rfl rfl rfl (by kernel_rfl) ⟨⟨1, _, by simp, rfl, shows_ownS hA3, seen_ownS hA3⟩, trivial⟩ (fun _ => rfl) ?_
    rintro _ H' ⟨fc, pc, kc, sc, Ac, cc, hdc, _, _, _, _, _, rfl, rfl⟩
    obtain ⟨hfc, _, _, lvc, hlvc, hltc⟩ := hdc.keeps hB (by decide) (zeroFlow K hB)
    refine ⟨rfl, ?_⟩
    refine JL_run [] rfl ?_
    refine JL_alloc rfl rfl rfl (fun _ => rfl) fun b23 => ?_
    refine JL_store 0 rfl rfl rfl rfl rfl [] rfl ?_
    refine JL_all [] rfl ?_
    refine J_know (own_is 1 rfl) fun ⟨_, _, hAc, hlc⟩ => ?_
    obtain ⟨gc, hAc⟩ := own_at hAc hlc
    have hAc' : fc ≠ [] → Ac = some ⟨gc, 0, none⟩ := fun h => hAc (by simpa [ints] using h)
    have hfcl := hfc.len
    have hKl := hB.len
    (repeat' (first | refine J_seq ?_ | refine J_skip ?_ | refine J_yes rfl ?_ | refine J_no rfl ?_))
    refine J_region ?_
    refine JL_val [] (v := netV K A3 c3) (OpV_blk 2 rfl rfl rfl rfl) rfl ?_
    refine JL_run [] rfl ?_
    refine JL_val [] (v := .slice Ac fc.length cc) (OpV_blk 0 rfl rfl rfl rfl) rfl ?_
    refine JL_callR [] (fvalue_fn K hBF hB A3 c3 g3 0 hA3' fc Ac cc gc 0 hAc' (IsFlow.inB hB hfc.toRanged) (by omega)) rfl rfl rfl rfl (by kernel_rfl) ⟨⟨3, _, by simp, rfl, shows_ownS hA3, seen_ownS hA3⟩, ⟨1, _, by simp, rfl, shows_ownS hAc, seen_ownS hAc⟩, trivial⟩ (fun _ => rfl) ?_
    rintro _ H' ⟨⟨rfl, _⟩ | ⟨_, h⟩, rfl⟩
    case inr => exact absurd hfc h
    refine ⟨rfl, ?_⟩
    refine JL_all [] rfl ?_
    refine J_set 25 (v' := .int .i64 (v + w)) rfl (congrArg (Value.int .i64) (hlaw hfc hlvc hltc)) ?_
    (repeat' (first | refine J_seq ?_ | refine J_skip ?_ | refine J_yes rfl ?_ | refine J_no rfl ?_))
    refine J_region ?_
    refine JL_evO (gs := [999]) rfl ?_
    refine JL_evO (gs := [999]) rfl ?_
    refine JL_evO (gs := [999]) rfl ?_
    refine JL_set 122 (v' := .bool true) rfl (congrArg Value.bool (cdec_yes rfl)) ?_
    refine JL_run [2] rfl ?_
    refine JL_set 126 (v' := .bool true) rfl (congrArg Value.bool (cdec_yes rfl)) ?_
    refine JL_run [2, 6] rfl ?_
    refine JL_set 130 (v' := .bool true) rfl (congrArg Value.bool (cdec_yes rfl)) ?_
    refine JL_all [2, 6, 10] rfl ?_
    exact J_ret ⟨_, rfl, congrArg Value.bool (cdec_yes (w64 (by omega)).symm)⟩
end Go.Proofs.Ytcgcimnjknadjaa
