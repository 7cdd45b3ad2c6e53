
/- MatchGrows: one edge more makes at most one pair more, and none less. -/
import Derived.Test.YtcgcimnjknadjaaSh16N
import Derived.Test.YtcgcimnjknadjaaDrawn16
import Derived.Test.YtcgcimnjknadjaaPairsT
import Derived.Test.YtcgcimnjknadjaaGrowP
set_option linter.unusedVariables false
set_option linter.unusedSimpArgs false
namespace Go.Proofs.Ytcgcimnjknadjaa
open Go.RowKit
set_option maxHeartbeats 2000000 in
theorem matchGrows_fn (sides : Int) (hsd : inB sides) (A : Option Addr) (c b o : Nat) (l : List Int) (hA : l ≠ [] → A = some ⟨b, o, none⟩) (hl : ∀ x ∈ l, inB x) (hs : l.length * 8 ≤ 140737488351232) (ra : Int) (hra : inB ra) (rb : Int) (hrb : inB rb) :
    Fn 14 [.int .i64 sides, .slice A l.length c, .int .i64 ra, .int .i64 rb] [] [.seg b o (ints l)] fun v _ => v = .bool true := by
  refine Fn_of Try.func14 rfl rfl fun w0 => ?_
  (repeat' (first | refine J_seq ?_ | refine J_skip ?_ | refine J_yes rfl ?_ | refine J_no rfl ?_))
  refine J_region ?_
  refine JL_all [] rfl ?_
  (repeat' (first | refine J_seq ?_ | refine J_skip ?_ | refine J_yes rfl ?_ | refine J_no rfl ?_))
  refine J_region ?_
  refine JL_callR [] (shown16_fn) rfl rfl rfl rfl (by kernel_rfl) trivial (fun _ => rfl) ?_
  rintro v H' ⟨rfl, rfl⟩
  refine ⟨rfl, ?_⟩
  refine JL_all [] rfl ?_
  (repeat' (first | refine J_seq ?_ | refine J_skip ?_ | refine J_yes rfl ?_ | refine J_no rfl ?_))
  refine J_region ?_
  refine JL_all [] rfl ?_
  (repeat' (first | refine J_seq ?_ | refine J_skip ?_ | refine J_yes rfl ?_ | refine J_no rfl ?_))
  refine J_region ?_
  refine JL_run [] rfl ?_
  refine JL_callR [] (drawn16_fn sides hsd A c b o l hA hl (by omega)) rfl rfl rfl rfl (by kernel_rfl) ⟨⟨0, _, by simp, rfl, shows_seg _ _ _, seen_seg⟩, trivial⟩ (fun _ => rfl) ?_
  rintro v H' ⟨g, A', c', hg, hg1, hg2, hg24, rfl, rfl⟩
  refine ⟨rfl, ?_⟩
  refine JL_alloc rfl rfl rfl (fun _ => rfl) fun p10 => ?_
  refine JL_store 0 rfl rfl rfl rfl rfl [] rfl ?_
  refine JL_know (own_is 1 rfl) fun ⟨_, _, hA1, hl1⟩ => ?_
  obtain ⟨g1, hA1⟩ := own_at hA1 hl1
  have hA1' : g.edges ≠ [] → A' = some ⟨g1, 0, none⟩ := fun h => hA1 (fun h0 => h (List.length_eq_zero_iff.1 (by have := edgs_length g.edges; rw [h0] at this; simp at this; omega)))
  have hgl := hg.left
  have hgr := hg.right
  obtain ⟨nl, hnl⟩ : ∃ n : Nat, g.left = n := ⟨g.left.toNat, by omega⟩
  obtain ⟨nr, hnr⟩ : ∃ n : Nat, g.right = n := ⟨g.right.toNat, by omega⟩
  refine JL_nil ?_
  (repeat' (first | refine J_seq ?_ | refine J_skip ?_ | refine J_yes rfl ?_ | refine J_no rfl ?_))
  refine J_region ?_
  refine JL_val [] (v := grV g A' c') (OpV_blk 0 rfl rfl rfl rfl) rfl ?_
  refine JL_callR [] (pairs_fn g hg A' c' g1 0 hA1' nl hnl) rfl rfl rfl rfl (by kernel_rfl) ⟨⟨1, _, by simp, rfl, shows_ownS hA1, seen_ownS hA1⟩, trivial⟩ (fun _ => rfl) ?_
  rintro v H' ⟨fp, Ap, cp, hfp, rfl, rfl⟩
  obtain ⟨mp, bp⟩ := pairs_best hg hfp hnl hnr
  obtain ⟨P, hP⟩ : ∃ P, P = pairsL fp nl g.edges.length := ⟨_, rfl⟩
  rw [← hP] at mp bp ⊢
  refine ⟨rfl, ?_⟩
  refine JL_all [] rfl ?_
  (repeat' (first | refine J_seq ?_ | refine J_skip ?_ | refine J_yes rfl ?_ | refine J_no rfl ?_))
  refine J_region ?_
  refine JL_evO (gs := [999]) rfl ?_
  refine JL_val [] (v := .int .i64 g.left) (OpV_blk 1 rfl rfl rfl rfl) rfl ?_
  refine JL_evO (gs := [999]) rfl ?_
  refine JL_val [] (v := .int .i64 g.right) (OpV_blk 1 rfl rfl rfl rfl) rfl ?_
  refine JL_val [] (OpV_build rfl rfl rfl rfl rfl rfl) rfl ?_
  refine JL_alloc rfl rfl rfl (fun _ => rfl) fun p13 => ?_
  refine JL_store 0 rfl rfl rfl rfl rfl [] rfl ?_
  refine JL_all [] rfl ?_
  (repeat' (first | refine J_seq ?_ | refine J_skip ?_ | refine J_yes rfl ?_ | refine J_no rfl ?_))
  refine J_region ?_
  refine JL_evO (gs := [999]) rfl ?_
  refine JL_val [] (v := .int .i64 g.right) (OpV_blk 2 rfl rfl rfl rfl) rfl ?_
  refine JL_evO (gs := [999]) rfl ?_
  refine JL_val [] (v := .int .i64 g.left) (OpV_blk 2 rfl rfl rfl rfl) rfl ?_
  refine JL_val [] (OpV_build rfl rfl rfl rfl rfl rfl) rfl ?_
  refine JL_alloc rfl rfl rfl (fun _ => rfl) fun p14 => ?_
  refine JL_store 0 rfl rfl rfl rfl rfl [] rfl ?_
  refine JL_all [] rfl ?_
  (repeat' (first | refine J_seq ?_ | refine J_skip ?_ | refine J_yes rfl ?_ | refine J_no rfl ?_))
  refine J_region ?_
  refine JL_all [] rfl ?_
  (repeat' (first | refine J_seq ?_ | refine J_skip ?_ | refine J_yes rfl ?_ | refine J_no rfl ?_))
  refine J_block ?_
  refine J_addnil 82 2 ?_
  refine J_addnil 82 2 ?_
  refine J_loopF (σ := Nat × (Option Addr × Nat) × (Option Addr × Nat)) (fun t => [(15, .int .i64 (t.1 : Int)), (11, .slice Ap P.length cp), (12, .int .i64 0), (10, .pointer (some ⟨p10, 0, none⟩)), (13, .pointer (some ⟨p13, 0, none⟩)), (14, .pointer (some ⟨p14, 0, none⟩)), (2, .int .i64 ra), (3, .int .i64 rb)])
    (fun t => [blk p13 77 [.int .i64 g.left, .int .i64 g.right, .slice t.2.1.1 t.1 t.2.1.2], .own (.slice t.2.1.1 t.1 t.2.1.2) 82 2 t.1 (edgs (g.edges.take t.1)), blk p14 77 [.int .i64 g.right, .int .i64 g.left, .slice t.2.2.1 t.1 t.2.2.2], .own (.slice t.2.2.1 t.1 t.2.2.2) 82 2 t.1 (edgs ((turnG g).edges.take t.1)), blk p10 77 (grC g A' c'), .own (.slice A' g.edges.length c') 82 2 g.edges.length (edgs g.edges)])
    (fun t => t.1 ≤ g.edges.length) (fun t => g.edges.length - t.1) (0, (none, 0), (none, 0)) ⟨rfl, rfl, rfl, rfl, rfl, rfl, rfl, rfl, trivial⟩ (Fit.picks [3, 0, 2, 1, 5, 6] (by decide) rfl) (Nat.zero_le _) ?_
  rintro ⟨k, ⟨A1, c1⟩, A2, c2⟩ hk
  simp only at hk ⊢
  (repeat' (first | refine J_seq ?_ | refine J_skip ?_ | refine J_yes rfl ?_ | refine J_no rfl ?_))
  refine J_region ?_
  refine JL_evO (gs := [999]) rfl ?_
  refine JL_evO (gs := [999]) rfl ?_
  refine JL_val [] (v := .slice A' g.edges.length c') (OpV_blk 4 rfl rfl rfl rfl) rfl ?_
  refine JL_all [] rfl ?_
  (repeat' (first | refine J_seq ?_ | refine J_skip ?_ | refine J_yes rfl ?_ | refine J_no rfl ?_))
  refine J_dec rfl (fun hlt => J_skip ?_) (fun hge => J_exit ?_)
  · have hkl : k < g.edges.length := by omega
    obtain ⟨e, he⟩ : ∃ e, g.edges[k]? = some e := ⟨g.edges[k], List.getElem?_eq_getElem hkl⟩
    obtain rfl := hA1' (by intro h; rw [h] at hkl; simp at hkl)
    obtain ⟨eg1, eg2⟩ := edgs_get he
    refine J_seq (J_block ?_)
    (repeat' (first | refine J_seq ?_ | refine J_skip ?_ | refine J_yes rfl ?_ | refine J_no rfl ?_))
    refine J_walk 10 [(0, true), (1, true), (2, true), (3, true), (4, true), (5, true), (6, true), (7, false), (8, false), (9, true)] [0, 4, 5] (by kernel_rfl) (by decide) rfl ?_
    refine JW_evO (gs := [999]) rfl rfl ?_
    refine JW_still [] rfl (OpV_blk (v := .slice A1 k c1) 0 rfl rfl rfl rfl) rfl ?_
    refine JW_evO (gs := [999]) rfl rfl ?_
    refine JW_still [] rfl (OpV_blk (v := .slice (some ⟨g1, 0, none⟩) g.edges.length c') 1 rfl rfl rfl rfl) rfl ?_
    refine JW_evO (gs := [999]) rfl rfl ?_
    refine JW_still [] rfl (idxNz rfl rfl rfl rfl rfl hkl) rfl ?_
    refine JW_still [] rfl (OpV_own 2 rfl rfl rfl (readT_edg he)) rfl ?_
    refine JW_eff rfl ?_
    refine JL_lit rfl rfl rfl rfl rfl rfl rfl (fun _ => rfl) fun g2 => ?_
    refine JL_nil ⟨⟨[1, 5, 6], by decide, rfl⟩, ?_⟩
    refine JW_eff rfl ?_
    refine JL_appendS (n := k) (m := 1) (off := 0) (news := edgs [e]) 2 0 rfl rfl rfl rfl rfl rfl (by decide) rfl rfl (shows_blk g2 _ _ (0, 0)) (fun _ => rfl) rfl rfl (by omega) (by omega) (fun _ _ => rfl) fun A3 c3 => ?_
    refine JL_nil ⟨⟨[1, 5, 6], by decide, rfl⟩, ?_⟩
    refine JW_evO (gs := [999]) rfl rfl ?_
    refine JW_nil ?_
    refine JL_store 1 rfl rfl rfl rfl rfl [] rfl ?_
    refine JL_nil ?_
    refine J_fit (Fit.sub (List.sublist_cons_self _ _)) ?_
    (repeat' (first | refine J_seq ?_ | refine J_skip ?_ | refine J_yes rfl ?_ | refine J_no rfl ?_))
    refine J_walk 18 [(0, true), (1, true), (2, true), (3, true), (4, true), (5, true), (6, true), (7, true), (8, true), (9, true), (10, true), (11, true), (12, true), (13, true), (14, true), (15, false), (16, false), (17, true)] [2, 4, 5] (by kernel_rfl) (by decide) rfl ?_
    refine JW_evO (gs := [999]) rfl rfl ?_
    refine JW_still [] rfl (OpV_blk (v := .slice A2 k c2) 0 rfl rfl rfl rfl) rfl ?_
    refine JW_evO (gs := [999]) rfl rfl ?_
    refine JW_still [] rfl (OpV_blk (v := .slice (some ⟨g1, 0, none⟩) g.edges.length c') 1 rfl rfl rfl rfl) rfl ?_
    refine JW_evO (gs := [999]) rfl rfl ?_
    refine JW_still [] rfl (idxNz rfl rfl rfl rfl rfl hkl) rfl ?_
    refine JW_evO (gs := [999]) rfl rfl ?_
    refine JW_still [] rfl (OpV_own (v := .int .i64 e.r) 2 rfl rfl rfl eg2) rfl ?_
    refine JW_evO (gs := [999]) rfl rfl ?_
    refine JW_still [] rfl (OpV_blk (v := .slice (some ⟨g1, 0, none⟩) g.edges.length c') 1 rfl rfl rfl rfl) rfl ?_
    refine JW_evO (gs := [999]) rfl rfl ?_
    refine JW_still [] rfl (idxNz rfl rfl rfl rfl rfl hkl) rfl ?_
    refine JW_evO (gs := [999]) rfl rfl ?_
    refine JW_still [] rfl (OpV_own (v := .int .i64 e.l) 2 rfl rfl rfl eg1) rfl ?_
    refine JW_still [] rfl (OpV_build rfl rfl rfl rfl rfl rfl) rfl ?_
    refine JW_eff rfl ?_
    refine JL_lit rfl rfl rfl rfl rfl rfl rfl (fun _ => rfl) fun g3 => ?_
    refine JL_nil ⟨⟨[3, 5, 6], by decide, rfl⟩, ?_⟩
    refine JW_eff rfl ?_
    refine JL_appendS (n := k) (m := 1) (off := 0) (news := edgs [⟨e.r, e.l⟩]) 4 0 rfl rfl rfl rfl rfl rfl (by decide) rfl rfl (shows_blk g3 _ _ (0, 0)) (fun _ => rfl) rfl rfl (by omega) (by omega) (fun _ _ => rfl) fun A4 c4 => ?_
    refine JL_nil ⟨⟨[3, 5, 6], by decide, rfl⟩, ?_⟩
    refine JW_evO (gs := [999]) rfl rfl ?_
    refine JW_nil ?_
    refine JL_store 3 rfl rfl rfl rfl rfl [] rfl ?_
    refine JL_nil ?_
    (repeat' (first | refine J_seq ?_ | refine J_skip ?_ | refine J_yes rfl ?_ | refine J_no rfl ?_))
    refine J_region ?_
    refine JL_all [] rfl ?_
    have t1 : edgs (g.edges.take k) ++ edgs [e] = edgs (g.edges.take (k + 1)) := by rw [← edgs_app, List.take_add_one, he]; rfl
    have t2 : edgs ((turnG g).edges.take k) ++ edgs [⟨e.r, e.l⟩] = edgs ((turnG g).edges.take (k + 1)) := by
      rw [← edgs_app, List.take_add_one, show (turnG g).edges[k]? = some ⟨e.r, e.l⟩ by simp [turnG, he]]; rfl
    refine ⟨(k + 1, (A3, c3), (A4, c4)), ⟨?_, rfl, rfl, rfl, rfl, rfl, rfl, rfl, trivial⟩, ?_, hkl, by show g.edges.length - (k + 1) < g.edges.length - k; omega⟩
    · show some (Value.int .i64 (IntKind.i64.wrap ((k : Int) + 1))) = _
      rw [w64 (by omega)]; rfl
    · refine Fit.trans (Fit.sub (List.sublist_cons_self _ _)) ?_
      show Fit _ [_, .own _ _ _ _ (edgs (g.edges.take k) ++ edgs [e]), _, .own _ _ _ _ (edgs ((turnG g).edges.take k) ++ edgs [⟨e.r, e.l⟩]), _, _] _
      rw [t1, t2]
      exact Fit.refl
  · obtain rfl : k = g.edges.length := by omega
    have htl : (turnG g).edges.length = g.edges.length := by simp [turnG]
    rw [List.take_length, List.take_of_length_le (by omega)]
    have hpa := pickZ_in (c := ra) (n := g.left) (by omega)
    have hpb := pickZ_in (c := rb) (n := g.right) (by omega)
    (repeat' (first | refine J_seq ?_ | refine J_skip ?_ | refine J_yes rfl ?_ | refine J_no rfl ?_))
    refine J_walk 16 [(0, true), (1, true), (2, true), (3, true), (4, true), (7, true), (8, true), (9, true), (5, false), (6, true), (10, false), (11, true), (12, true), (13, false), (14, false), (15, true)] [0, 4] (by kernel_rfl) (by decide) rfl ?_
    refine JW_evO (gs := [999]) rfl rfl ?_
    refine JW_still [] rfl (OpV_blk (v := .slice A1 g.edges.length c1) 0 rfl rfl rfl rfl) rfl ?_
    refine JW_evO (gs := [999]) rfl rfl ?_
    refine JW_evO (gs := [999]) rfl rfl ?_
    refine JW_still [] rfl (OpV_blk (v := .int .i64 g.left) 1 rfl rfl rfl rfl) rfl ?_
    refine JW_evO (gs := [999]) rfl rfl ?_
    refine JW_evO (gs := [999]) rfl rfl ?_
    refine JW_still [] rfl (OpV_blk (v := .int .i64 g.right) 1 rfl rfl rfl rfl) rfl ?_
    refine JW_eff rfl ?_
    refine JL_callR [] (pick16_fn hra (by omega : 0 < g.left)) rfl rfl rfl rfl (by kernel_rfl) trivial (fun _ => rfl) ?_
    rintro v H' ⟨rfl, rfl⟩
    refine ⟨rfl, JL_nil ⟨⟨[0, 4], by decide, rfl⟩, ?_⟩⟩
    refine JW_evO (gs := [999]) rfl rfl ?_
    refine JW_set 82 (v' := .int .i64 (1 + pickZ ra g.left)) rfl (congrArg (Value.int .i64) (w64 (by omega))) ?_
    refine JW_eff rfl ?_
    refine JL_callR [] (pick16_fn hrb (by omega : 0 < g.right)) rfl rfl rfl rfl (by kernel_rfl) trivial (fun _ => rfl) ?_
    rintro v H' ⟨rfl, rfl⟩
    refine ⟨rfl, JL_nil ⟨⟨[0, 4], by decide, rfl⟩, ?_⟩⟩
    refine JW_evO (gs := [999]) rfl rfl ?_
    refine JW_set 87 (v' := .int .i64 (1 + pickZ rb g.right)) rfl (congrArg (Value.int .i64) (w64 (by omega))) ?_
    refine JW_still [] rfl (OpV_build rfl rfl rfl rfl rfl rfl) rfl ?_
    obtain ⟨e, he⟩ : ∃ e : Edg, e = ⟨1 + pickZ ra g.left, 1 + pickZ rb g.right⟩ := ⟨_, rfl⟩
    refine JW_eff rfl ?_
    refine JL_lit rfl rfl rfl rfl rfl rfl rfl (fun _ => rfl) fun g3 => ?_
    refine JL_nil ⟨⟨[1, 5], by decide, rfl⟩, ?_⟩
    refine JW_eff rfl ?_
    refine JL_appendS (n := g.edges.length) (m := 1) (off := 0) (news := edgs [⟨1 + pickZ ra g.left, 1 + pickZ rb g.right⟩]) 2 0 rfl rfl rfl rfl rfl rfl (by decide) rfl rfl (shows_blk g3 _ _ (0, 0)) (fun _ => rfl) rfl rfl (by omega) (by omega) (fun _ _ => rfl) fun A4 c4 => ?_
    refine JL_nil ⟨⟨[1, 5], by decide, rfl⟩, ?_⟩
    refine JW_evO (gs := [999]) rfl rfl ?_
    refine JW_nil ?_
    refine JL_store 1 rfl rfl rfl rfl rfl [] rfl ?_
    refine JL_nil ?_
    have hMl : (moreG g e).edges.length = g.edges.length + 1 := by simp [moreG]
    have hMe : edgs (moreG g e).edges = edgs g.edges ++ edgs [⟨1 + pickZ ra g.left, 1 + pickZ rb g.right⟩] := by rw [he, ← edgs_app]; rfl
    refine J_fit (K := [blk p13 77 (grC (moreG g e) A4 c4), .own (.slice A4 (moreG g e).edges.length c4) 82 2 (moreG g e).edges.length (edgs (moreG g e).edges), blk p14 77 (grC (turnG g) A2 c2), .own (.slice A2 (turnG g).edges.length c2) 82 2 (turnG g).edges.length (edgs (turnG g).edges), blk p10 77 (grC g A' c')]) (by
      unfold grC
      rw [htl, hMl, hMe]
      exact Fit.picks [1, 2, 3, 4, 5] (by decide) rfl) ?_
    have hMR : (moreG g e).Right := more_right hg hg24 (by rw [he]; exact ⟨⟨by show 1 ≤ 1 + _; omega, by show 1 + _ ≤ _; omega⟩, ⟨by show 1 ≤ 1 + _; omega, by show 1 + _ ≤ _; omega⟩⟩)
    have hTR := turnG_right hg
    obtain ⟨M, hM⟩ : ∃ M, M = moreG g e := ⟨_, rfl⟩
    obtain ⟨T, hT⟩ : ∃ T, T = turnG g := ⟨_, rfl⟩
    rw [← hM] at hMR ⊢
    rw [← hT] at hTR ⊢
    have hMnl : M.left = nl := by rw [hM]; exact hnl
    have hMnr : M.right = nr := by rw [hM]; exact hnr
    have hTnl : T.left = nr := by rw [hT]; exact hnr
    have hTnr : T.right = nl := by rw [hT]; exact hnl
    refine J_know (own_is 1 rfl) fun ⟨_, _, hA4, hl4⟩ => ?_
    obtain ⟨g4, hA4⟩ := own_at hA4 hl4
    have hA4' : M.edges ≠ [] → A4 = some ⟨g4, 0, none⟩ := fun h => hA4 (fun h0 => h (List.length_eq_zero_iff.1 (by have := edgs_length M.edges; rw [h0] at this; simp at this; omega)))
    refine J_know (own_is 3 rfl) fun ⟨_, _, hA2, hl2⟩ => ?_
    obtain ⟨g5, hA2⟩ := own_at hA2 hl2
    have hA2' : T.edges ≠ [] → A2 = some ⟨g5, 0, none⟩ := fun h => hA2 (fun h0 => h (List.length_eq_zero_iff.1 (by have := edgs_length T.edges; rw [h0] at this; simp at this; omega)))
    (repeat' (first | refine J_seq ?_ | refine J_skip ?_ | refine J_yes rfl ?_ | refine J_no rfl ?_))
    refine J_region ?_
    refine JL_val [] (v := grV M A4 c4) (OpV_blk 0 rfl rfl rfl rfl) rfl ?_
    refine JL_callR [] (pairs_fn M hMR A4 c4 g4 0 hA4' nl hMnl) rfl rfl rfl rfl (by kernel_rfl) ⟨⟨1, _, by simp, rfl, shows_ownS hA4, seen_ownS hA4⟩, trivial⟩ (fun _ => rfl) ?_
    rintro v H' ⟨fq, Aq, cq, hfq, rfl, rfl⟩
    obtain ⟨mq, bq⟩ := pairs_best hMR hfq hMnl hMnr
    obtain ⟨Q, hQ⟩ : ∃ Q, Q = pairsL fq nl M.edges.length := ⟨_, rfl⟩
    rw [← hQ] at mq bq ⊢
    refine ⟨rfl, ?_⟩
    refine JL_all [] rfl ?_
    (repeat' (first | refine J_seq ?_ | refine J_skip ?_ | refine J_yes rfl ?_ | refine J_no rfl ?_))
    refine J_region ?_
    refine JL_val [] (v := grV T A2 c2) (OpV_blk 3 rfl rfl rfl rfl) rfl ?_
    refine JL_callR [] (pairsT_fn T hTR A2 c2 g5 0 hA2' nr hTnl) rfl rfl rfl rfl (by kernel_rfl) ⟨⟨4, _, by simp, rfl, shows_ownS hA2, seen_ownS hA2⟩, trivial⟩ (fun _ => rfl) ?_
    rintro v H' ⟨ft, At, ct, hft, rfl, rfl⟩
    obtain ⟨mt, bt⟩ := pairs_best hTR hft hTnl hTnr
    obtain ⟨U, hU⟩ : ∃ U, U = pairsL ft nr T.edges.length := ⟨_, rfl⟩
    rw [← hU] at mt bt ⊢
    refine ⟨rfl, ?_⟩
    refine JL_all [] rfl ?_
    have q1 : P.length ≤ Q.length := bq P (by rw [hM]; exact mp.more)
    have q2 : Q.length ≤ P.length + 1 := by
      rw [hM] at mq
      obtain ⟨m, m1, m2⟩ := mq.less
      have := bp m m1
      omega
    have q3 : U.length = P.length := by
      have u1 := bt P (by rw [hT]; exact mp.turn)
      rw [hT] at mt
      have u2 := mt.turn
      rw [turn_turn] at u2
      have u3 := bp U u2
      omega
    have q4 := mp.sides hg
    have q5 : 1 ≤ Q.length := bq [(g.edges.length : Int)] (by rw [hM]; exact IsMatch.last)
    (repeat' (first | refine J_seq ?_ | refine J_skip ?_ | refine J_yes rfl ?_ | refine J_no rfl ?_))
    refine J_region ?_
    refine JL_evO (gs := [999]) rfl ?_
    refine JL_evO (gs := [999]) rfl ?_
    refine JL_evO (gs := [999]) rfl ?_
    refine JL_set 104 (v' := .bool false) rfl (congrArg Value.bool (cdec_no (fun h => h rfl))) ?_
    refine JL_run [2] rfl ?_
    refine JL_set 108 (v' := .bool false) rfl (congrArg Value.bool (cdec_no (fun h => h rfl))) ?_
    refine JL_all [2, 6] rfl ?_
    (repeat' (first | refine J_seq ?_ | refine J_skip ?_ | refine J_yes rfl ?_ | refine J_no rfl ?_))
    refine J_dec rfl (fun h => absurd rfl h) (fun _ => J_skip ?_)
    (repeat' (first | refine J_seq ?_ | refine J_skip ?_ | refine J_yes rfl ?_ | refine J_no rfl ?_))
    refine J_region ?_
    refine JL_evO (gs := [999]) rfl ?_
    refine JL_evO (gs := [999]) rfl ?_
    refine JL_evO (gs := [999]) rfl ?_
    refine JL_evO (gs := [999]) rfl ?_
    refine JL_evO (gs := [999]) rfl ?_
    refine JL_evO (gs := [999]) rfl ?_
    refine JL_set 117 (v' := .bool true) rfl (congrArg Value.bool (cdec_yes (by omega))) ?_
    refine JL_evO (gs := [5]) rfl ?_
    refine JL_evO (gs := [5]) rfl ?_
    refine JL_evO (gs := [5]) rfl ?_
    refine JL_evO (gs := [5]) rfl ?_
    refine JL_evO (gs := [5]) rfl ?_
    refine JL_set 122 (v' := .int .i64 ((P.length + 1 : Nat) : Int)) rfl (congrArg (Value.int .i64) (w64 (n := (P.length : Int) + 1) (by omega))) ?_
    refine JL_run [5] rfl ?_
    refine JL_set 125 (v' := .bool true) rfl (congrArg Value.bool (cdec_yes (by omega))) ?_
    refine JL_run [5, 13] rfl ?_
    refine JL_set 132 (v' := .bool true) rfl (congrArg Value.bool (cdec_yes (by omega))) ?_
    refine JL_run [5, 13, 20] rfl ?_
    refine JL_val [5, 13, 20] (v := .int .i64 g.left) (OpV_blk 6 rfl rfl rfl rfl) rfl ?_
    refine JL_evO (gs := [5, 13, 20]) rfl ?_
    refine JL_val [5, 13, 20] (v := .int .i64 g.right) (OpV_blk 6 rfl rfl rfl rfl) rfl ?_
    refine JL_run [5, 13, 20] rfl ?_
    refine JL_set 142 (v' := .bool true) rfl (congrArg Value.bool (cdec_yes (by split <;> omega))) ?_
    refine JL_all [5, 13, 20, 30] rfl ?_
    exact J_ret ⟨_, rfl, congrArg Value.bool (cdec_yes (by omega))⟩
end Go.Proofs.Ytcgcimnjknadjaa
