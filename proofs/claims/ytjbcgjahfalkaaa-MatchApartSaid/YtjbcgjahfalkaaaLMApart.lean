
/- MatchApart: pairs of two graphs beside one another are those of both; an edge that stands twice makes no pair more. -/
import Derived.Test.YtjbcgjahfalkaaaQX1
import Derived.Test.YtjbcgjahfalkaaaDrawn16
import Derived.Test.YtjbcgjahfalkaaaQX4
import Derived.Test.YtjbcgjahfalkaaaFullP
import Derived.Test.YtjbcgjahfalkaaaRightN
set_option linter.unusedVariables false
set_option linter.unusedSimpArgs false
namespace Go.Proofs.Ytjbcgjahfalkaaa
open Go.RowKit
set_option maxHeartbeats 4000000 in
theorem matchApart_fn (sa : Int) (hsa : inB sa) (A : Option Addr) (c b o : Nat) (l : List Int) (hA : l ≠ [] → A = some ⟨b, o, none⟩) (hl : ∀ x ∈ l, inB x) (hs : l.length * 8 ≤ 140737488351232)
    (sb : Int) (hsb : inB sb) (B : Option Addr) (cb bb ob : Nat) (k : List Int) (hB : k ≠ [] → B = some ⟨bb, ob, none⟩) (hk : ∀ x ∈ k, inB x) (hks : k.length * 8 ≤ 140737488351232) :
    Fn 13 [.int .i64 sa, .slice A l.length c, .int .i64 sb, .slice B k.length cb] [] [.seg b o (ints l), .seg bb ob (ints k)] fun v _ => v = .bool true := by
  refine Fn_of Try.func13 rfl rfl fun w0 => ?_
  (repeat' (first | refine J_seq ?_ | refine J_skip ?_ | refine J_yes rfl ?_ | refine J_no rfl ?_))
  refine J_region ?_
  refine JL_all [] rfl ?_
  (repeat' (first | refine J_seq ?_ | refine J_skip ?_ | refine J_yes rfl ?_ | refine J_no rfl ?_))
  refine J_region ?_
  refine JL_callR [] (shown16_fn) rfl rfl rfl rfl (by kernel_rfl) trivial (fun _ => rfl) ?_
  rintro v H' ⟨rfl, rfl⟩
  refine ⟨rfl, ?_⟩
  refine JL_all [] rfl ?_
  (repeat' (first | refine J_seq ?_ | refine J_skip ?_ | refine J_yes rfl ?_ | refine J_no rfl ?_))
  refine J_region ?_
  refine JL_all [] rfl ?_
  (repeat' (first | refine J_seq ?_ | refine J_skip ?_ | refine J_yes rfl ?_ | refine J_no rfl ?_))
  refine J_region ?_
  refine JL_run [] rfl ?_
  refine JL_callR [] (drawn16_fn sa hsa A c b o l hA hl (by omega)) rfl rfl rfl rfl (by kernel_rfl) ⟨⟨0, _, by simp, rfl, shows_seg _ _ _, seen_seg⟩, trivial⟩ (fun _ => rfl) ?_
  rintro v H' ⟨g, A1, cn, hg, hg1, hg2, hg24, rfl, rfl⟩
  refine ⟨rfl, ?_⟩
  refine JL_alloc rfl rfl rfl (fun _ => rfl) fun p10 => ?_
  refine JL_store 0 rfl rfl rfl rfl rfl [] rfl ?_
  refine JL_know (own_is 1 rfl) fun ⟨_, _, hA1, hlA1⟩ => ?_
  obtain ⟨g1, hA1⟩ := own_at hA1 hlA1
  have hA1' : g.edges ≠ [] → A1 = some ⟨g1, 0, none⟩ := fun hx => hA1 (fun h0 => hx (List.length_eq_zero_iff.1 (by have := edgs_length g.edges; rw [h0] at this; simp at this; omega)))
  refine JL_nil ?_
  (repeat' (first | refine J_seq ?_ | refine J_skip ?_ | refine J_yes rfl ?_ | refine J_no rfl ?_))
  refine J_region ?_
  refine JL_run [] rfl ?_
  refine JL_callR [] (drawn16_fn sb hsb B cb bb ob k hB hk (by omega)) rfl rfl rfl rfl (by kernel_rfl) ⟨⟨3, _, by simp, rfl, shows_seg _ _ _, seen_seg⟩, trivial⟩ (fun _ => rfl) ?_
  rintro v H' ⟨h, A2, cm, hh, hh1, hh2, hh24, rfl, rfl⟩
  refine ⟨rfl, ?_⟩
  refine JL_alloc rfl rfl rfl (fun _ => rfl) fun p11 => ?_
  refine JL_store 0 rfl rfl rfl rfl rfl [] rfl ?_
  refine JL_know (own_is 1 rfl) fun ⟨_, _, hA2, hlA2⟩ => ?_
  obtain ⟨g2, hA2⟩ := own_at hA2 hlA2
  have hA2' : h.edges ≠ [] → A2 = some ⟨g2, 0, none⟩ := fun hx => hA2 (fun h0 => hx (List.length_eq_zero_iff.1 (by have := edgs_length h.edges; rw [h0] at this; simp at this; omega)))
  refine JL_nil ?_
  have hgl := hg.left
  have hgr := hg.right
  have hhl := hh.left
  have hhr := hh.right
  obtain ⟨nl, hnl⟩ : ∃ n : Nat, g.left = n := ⟨g.left.toNat, by omega⟩
  obtain ⟨nr, hnr⟩ : ∃ n : Nat, g.right = n := ⟨g.right.toNat, by omega⟩
  obtain ⟨ml, hml⟩ : ∃ n : Nat, h.left = n := ⟨h.left.toNat, by omega⟩
  obtain ⟨mr, hmr⟩ : ∃ n : Nat, h.right = n := ⟨h.right.toNat, by omega⟩
  (repeat' (first | refine J_seq ?_ | refine J_skip ?_ | refine J_yes rfl ?_ | refine J_no rfl ?_))
  refine J_region ?_
  refine JL_val [] (v := grV g A1 cn) (OpV_blk 2 rfl rfl rfl rfl) rfl ?_
  refine JL_callR [] (pairsG_fn 112 (.inl rfl) g hg A1 cn g1 0 hA1' nl hnl) rfl rfl rfl rfl (by kernel_rfl) ⟨⟨3, _, by simp, rfl, shows_ownS hA1, seen_ownS hA1⟩, trivial⟩ (fun _ => rfl) ?_
  rintro v H' ⟨fp, _, _, Ap, cp, hfp, _, rfl, rfl⟩
  obtain ⟨mp, bp⟩ := pairs_best hg hfp hnl hnr
  have hplen := pairsL_length fp nl g.edges.length
  obtain ⟨P, hP⟩ : ∃ P, P = pairsL fp nl g.edges.length := ⟨_, rfl⟩
  rw [← hP] at mp bp hplen ⊢
  refine ⟨rfl, ?_⟩
  refine JL_all [] rfl ?_
  (repeat' (first | refine J_seq ?_ | refine J_skip ?_ | refine J_yes rfl ?_ | refine J_no rfl ?_))
  refine J_region ?_
  refine JL_val [] (v := grV h A2 cm) (OpV_blk 1 rfl rfl rfl rfl) rfl ?_
  refine JL_callR [] (pairsG_fn 116 (.inr rfl) h hh A2 cm g2 0 hA2' ml hml) rfl rfl rfl rfl (by kernel_rfl) ⟨⟨2, _, by simp, rfl, shows_ownS hA2, seen_ownS hA2⟩, trivial⟩ (fun _ => rfl) ?_
  rintro v H' ⟨fq, _, _, Aq, cq, hfq, _, rfl, rfl⟩
  obtain ⟨mq, bq⟩ := pairs_best hh hfq hml hmr
  have hqlen := pairsL_length fq ml h.edges.length
  obtain ⟨Q, hQ⟩ : ∃ Q, Q = pairsL fq ml h.edges.length := ⟨_, rfl⟩
  rw [← hQ] at mq bq hqlen ⊢
  refine ⟨rfl, ?_⟩
  refine JL_all [] rfl ?_
  refine J_fit (K := [blk p10 70 (grC g A1 cn), blk p11 70 (grC h A2 cm), .own (.slice A2 h.edges.length cm) 77 2 h.edges.length (edgs h.edges), .own (.slice A1 g.edges.length cn) 77 2 g.edges.length (edgs g.edges)]) (Fit.picks [4, 2, 3, 5] (by decide) rfl) ?_
  refine J_cutE (σ := Nat × Option Addr × Nat) (fun t => [(16, .pointer (some ⟨t.1, 0, none⟩)), (10, .pointer (some ⟨p10, 0, none⟩)), (11, .pointer (some ⟨p11, 0, none⟩)), (12, .slice Ap P.length cp), (13, .int .i64 0), (14, .slice Aq Q.length cq), (15, .int .i64 0), (55, .slice t.2.1 g.edges.length t.2.2)])
    (fun t => [blk t.1 70 [.int .i64 (g.left + h.left), .int .i64 (g.right + h.right), .slice t.2.1 g.edges.length t.2.2], .own (.slice t.2.1 g.edges.length t.2.2) 77 2 g.edges.length (edgs g.edges), blk p10 70 (grC g A1 cn), blk p11 70 (grC h A2 cm), .own (.slice A2 h.edges.length cm) 77 2 h.edges.length (edgs h.edges), .own (.slice A1 g.edges.length cn) 77 2 g.edges.length (edgs g.edges)]) ?_ ?_
  · refine J_draw (Sf := [blk p10 70 (grC g A1 cn), blk p11 70 (grC h A2 cm), .own (.slice A2 h.edges.length cm) 77 2 h.edges.length (edgs h.edges)]) ?_
    refine JA_pre [0, 1, 2, 3, 4, 5, 6, 7, 8, 9, 11, 12] (by decide +kernel) [0, 1, 2] (by decide) rfl ?_
    refine JW_run [] rfl ?_
    refine JW_still [] rfl (OpV_blk (v := .int .i64 g.left) 0 rfl rfl rfl rfl) rfl ?_
    refine JW_run [] rfl ?_
    refine JW_still [] rfl (OpV_blk (v := .int .i64 h.left) 1 rfl rfl rfl rfl) rfl ?_
    refine JW_run [] rfl ?_
    refine JW_set 46 (v' := .int .i64 (g.left + h.left)) rfl (congrArg (Value.int .i64) (w64 (by omega))) ?_
    refine JW_still [] rfl (OpV_blk (v := .int .i64 g.right) 0 rfl rfl rfl rfl) rfl ?_
    refine JW_run [] rfl ?_
    refine JW_still [] rfl (OpV_blk (v := .int .i64 h.right) 1 rfl rfl rfl rfl) rfl ?_
    refine JW_run [] rfl ?_
    refine JW_set 51 (v' := .int .i64 (g.right + h.right)) rfl (congrArg (Value.int .i64) (w64 (by omega))) ?_
    refine JW_still [] rfl (OpV_blk (v := .slice A1 g.edges.length cn) 0 rfl rfl rfl rfl) rfl ?_
    refine JW_nil ?_
    (repeat' (first
      | exact trivial
      | refine JA_step 10 [15] (by decide +kernel) (by decide) ?_
      | refine JA_step 10 [] (by decide +kernel) (by decide) ?_
      | refine JA_step 13 [15] (by decide +kernel) (by decide) ?_
      | refine JA_step 13 [] (by decide +kernel) (by decide) ?_
      | refine JA_step 14 [15] (by decide +kernel) (by decide) ?_
      | refine JA_step 14 [] (by decide +kernel) (by decide) ?_
      | refine JA_step 15 [] (by decide +kernel) (by decide) ?_
      | refine JA_step 16 [] (by decide +kernel) (by decide) ?_
      | refine ⟨⟨_, rfl, ?_⟩, ?_⟩
      | (refine JL_lit rfl rfl rfl rfl rfl rfl rfl (fun _ => rfl) fun g5 => ?_; refine JL_own 2 0 rfl (by decide) ?_)
      | (refine JL_appendS (n := 0) (m := g.edges.length) (news := edgs g.edges) 0 4 rfl rfl rfl rfl rfl rfl (by decide) rfl rfl (shows_ownS hA1) hA1 (edgs_length _) (edgs_one _) (by omega) (by omega) (fun _ _ => rfl) fun A3 c3 => ?_; rw [Nat.zero_add, List.nil_append])
      | (refine JL_appendS (n := 0) (m := g.edges.length) (news := edgs g.edges) 0 5 rfl rfl rfl rfl rfl rfl (by decide) rfl rfl (shows_ownS hA1) hA1 (edgs_length _) (edgs_one _) (by omega) (by omega) (fun _ _ => rfl) fun A3 c3 => ?_; rw [Nat.zero_add, List.nil_append])
      | (refine JL_appendS (n := 0) (m := g.edges.length) (news := edgs g.edges) 1 5 rfl rfl rfl rfl rfl rfl (by decide) rfl rfl (shows_ownS hA1) hA1 (edgs_length _) (edgs_one _) (by omega) (by omega) (fun _ _ => rfl) fun A3 c3 => ?_; rw [Nat.zero_add, List.nil_append])
      | refine JL_val [] (OpV_build rfl rfl rfl rfl rfl rfl) rfl ?_
      | refine JL_alloc rfl rfl rfl (fun _ => rfl) fun b20 => ?_
      | refine JL_store 0 rfl rfl rfl rfl rfl [] rfl ?_
      | refine JL_store 1 rfl rfl rfl rfl rfl [] rfl ?_
      | refine JL_nil ⟨⟨[1, 2, 3], by decide, rfl⟩, ?_⟩
      | refine JL_nil ⟨⟨[2, 3, 4], by decide, rfl⟩, ?_⟩))
    all_goals refine JA_done (by decide +kernel) ⟨(_, _, _), ⟨rfl, rfl, rfl, rfl, rfl, rfl, rfl, rfl, trivial⟩, ?_⟩
    all_goals (first | exact Fit.picks [0, 1, 2, 3, 4, 5] (by decide) rfl | exact Fit.picks [1, 0, 2, 3, 4, 5] (by decide) rfl)
  rintro ⟨p16, A3, c3⟩
  simp only
  (repeat' (first | refine J_seq ?_ | refine J_skip ?_ | refine J_yes rfl ?_ | refine J_no rfl ?_))
  refine J_region ?_
  refine JL_all [] rfl ?_
  (repeat' (first | refine J_seq ?_ | refine J_skip ?_ | refine J_yes rfl ?_ | refine J_no rfl ?_))
  refine J_block ?_
  refine J_loopF (σ := Nat × Option Addr × Nat) (fun t => [(17, .int .i64 (t.1 : Int)), (16, .pointer (some ⟨p16, 0, none⟩)), (10, .pointer (some ⟨p10, 0, none⟩)), (11, .pointer (some ⟨p11, 0, none⟩)), (12, .slice Ap P.length cp), (13, .int .i64 0), (14, .slice Aq Q.length cq), (15, .int .i64 0)])
    (fun t => [blk p16 70 [.int .i64 (g.left + h.left), .int .i64 (g.right + h.right), .slice t.2.1 (g.edges.length + t.1) t.2.2], .own (.slice t.2.1 (g.edges.length + t.1) t.2.2) 77 2 (g.edges.length + t.1) (edgs (g.edges ++ (h.edges.take t.1).map (mvE g))), blk p10 70 (grC g A1 cn), blk p11 70 (grC h A2 cm), .own (.slice A2 h.edges.length cm) 77 2 h.edges.length (edgs h.edges), .own (.slice A1 g.edges.length cn) 77 2 g.edges.length (edgs g.edges)])
    (fun t => t.1 ≤ h.edges.length) (fun t => h.edges.length - t.1) (0, A3, c3) ⟨rfl, rfl, rfl, rfl, rfl, rfl, rfl, rfl, trivial⟩ ?_ (Nat.zero_le _) ?_
  · show Fit _ _ [_, .own _ _ _ _ (edgs (g.edges ++ [])), _, _, _, _]
    rw [List.append_nil]
    exact Fit.refl
  rintro ⟨i, A3, c3⟩ hi
  simp only at hi ⊢
  (repeat' (first | refine J_seq ?_ | refine J_skip ?_ | refine J_yes rfl ?_ | refine J_no rfl ?_))
  refine J_region ?_
  refine JL_run [] rfl ?_
  refine JL_val [] (v := .slice A2 h.edges.length cm) (OpV_blk 3 rfl rfl rfl rfl) rfl ?_
  refine JL_all [] rfl ?_
  refine J_dec rfl (fun hlt => J_skip ?_) (fun hge => J_exit ?_)
  · have hil : i < h.edges.length := by omega
    obtain ⟨e, he⟩ : ∃ e, h.edges[i]? = some e := ⟨h.edges[i], List.getElem?_eq_getElem hil⟩
    have hee := hh.edge e (List.mem_of_getElem? he)
    obtain ⟨q1, q2⟩ := edgs_get he
    obtain rfl := hA2' (by intro h0; rw [h0] at hil; simp at hil)
    have htk : g.edges ++ (h.edges.take (i + 1)).map (mvE g) = (g.edges ++ (h.edges.take i).map (mvE g)) ++ [⟨g.left + e.l, g.right + e.r⟩] := by
      rw [List.take_add_one, he, List.map_append, List.append_assoc]; rfl
    refine J_seq (J_block ?_)
    (repeat' (first | refine J_seq ?_ | refine J_skip ?_ | refine J_yes rfl ?_ | refine J_no rfl ?_))
    refine J_walk 24 [(0, true), (1, true), (2, true), (3, true), (4, true), (5, true), (6, true), (7, true), (8, true), (9, true), (10, true), (11, true), (12, true), (13, true), (14, true), (15, true), (16, true), (17, true), (18, true), (19, true), (20, true), (21, false), (22, false), (23, true)] [0, 2, 3, 4] (by kernel_rfl) (by decide) rfl ?_
    refine JW_run [] rfl ?_
    refine JW_still [] rfl (OpV_blk (v := .slice A3 (g.edges.length + i) c3) 0 rfl rfl rfl rfl) rfl ?_
    refine JW_run [] rfl ?_
    refine JW_still [] rfl (OpV_blk (v := .int .i64 g.left) 1 rfl rfl rfl rfl) rfl ?_
    refine JW_run [] rfl ?_
    refine JW_still [] rfl (OpV_blk (v := .slice (some ⟨g2, 0, none⟩) h.edges.length cm) 2 rfl rfl rfl rfl) rfl ?_
    refine JW_run [] rfl ?_
    refine JW_still [] rfl (idxNz rfl rfl rfl rfl rfl hil) rfl ?_
    refine JW_run [] rfl ?_
    refine JW_still [] rfl (OpV_own (v := .int .i64 e.l) 3 rfl rfl rfl q1) rfl ?_
    refine JW_run [] rfl ?_
    refine JW_set 74 (v' := .int .i64 (g.left + e.l)) rfl (congrArg (Value.int .i64) (w64 (by omega))) ?_
    refine JW_still [] rfl (OpV_blk (v := .int .i64 g.right) 1 rfl rfl rfl rfl) rfl ?_
    refine JW_run [] rfl ?_
    refine JW_still [] rfl (OpV_blk (v := .slice (some ⟨g2, 0, none⟩) h.edges.length cm) 2 rfl rfl rfl rfl) rfl ?_
    refine JW_run [] rfl ?_
    refine JW_still [] rfl (idxNz rfl rfl rfl rfl rfl hil) rfl ?_
    refine JW_run [] rfl ?_
    refine JW_still [] rfl (OpV_own (v := .int .i64 e.r) 3 rfl rfl rfl q2) rfl ?_
    refine JW_run [] rfl ?_
    refine JW_set 83 (v' := .int .i64 (g.right + e.r)) rfl (congrArg (Value.int .i64) (w64 (by omega))) ?_
    refine JW_still [] rfl (OpV_build rfl rfl rfl rfl rfl rfl) rfl ?_
    refine JW_eff rfl ?_
    refine JL_lit rfl rfl rfl rfl rfl rfl rfl (fun _ => rfl) fun g5 => ?_
    refine JL_nil ⟨⟨[1, 3, 4, 5], by decide, rfl⟩, ?_⟩
    refine JW_eff rfl ?_
    refine JL_appendS (n := g.edges.length + i) (m := 1) (off := 0) (news := edgs [⟨g.left + e.l, g.right + e.r⟩]) 2 0 rfl rfl rfl rfl rfl rfl (by decide) rfl rfl (shows_blk g5 _ _ (0, 0)) (fun _ => rfl) rfl rfl (by omega) (by omega) (fun _ _ => rfl) fun A5 c5 => ?_
    refine JL_nil ⟨⟨[1, 3, 4, 5], by decide, rfl⟩, ?_⟩
    refine JW_run [] rfl ?_
    refine JW_nil ?_
    refine JL_store 1 rfl rfl rfl rfl rfl [] rfl ?_
    refine JL_nil ?_
    rw [← edgs_app, ← htk]
    (repeat' (first | refine J_seq ?_ | refine J_skip ?_ | refine J_yes rfl ?_ | refine J_no rfl ?_))
    refine J_region ?_
    refine JL_all [] rfl ?_
    exact ⟨(i + 1, A5, c5), ⟨congrArg some (congrArg (Value.int .i64) (w64 (n := (i : Int) + 1) (by omega))), rfl, rfl, rfl, rfl, rfl, rfl, rfl, trivial⟩, Fit.picks [1, 2, 3, 4, 5, 6] (by decide) rfl, hil, by show h.edges.length - (i + 1) < h.edges.length - i; omega⟩
  obtain rfl : i = h.edges.length := by omega
  rw [List.take_of_length_le (Nat.le_refl _)]
  have hB2 := bothG_right hg hh (by omega) (by omega) (by omega)
  have hBl : (bothG g h).edges.length = g.edges.length + h.edges.length := by simp [bothG]
  have hmb := fun {r : List Int} h1 h2 => both_most hg hh mp bp mq bq (r := r) h1 h2
  refine J_fit (K := [blk p16 70 (grC (bothG g h) A3 c3), .own (.slice A3 (bothG g h).edges.length c3) 77 2 (bothG g h).edges.length (edgs (bothG g h).edges), blk p10 70 (grC g A1 cn), .own (.slice A1 g.edges.length cn) 77 2 g.edges.length (edgs g.edges)]) (by
    unfold grC
    rw [hBl]
    exact Fit.picks [0, 1, 2, 5] (by decide) rfl) ?_
  have hBL : (bothG g h).left = ((nl + ml : Nat) : Int) := by show g.left + h.left = _; omega
  have hBR : (bothG g h).right = ((nr + mr : Nat) : Int) := by show g.right + h.right = _; omega
  obtain ⟨b, hbe⟩ : ∃ b, b = bothG g h := ⟨_, rfl⟩
  rw [← hbe] at hB2 hBl hmb hBL hBR ⊢
  refine J_know (own_is 1 rfl) fun ⟨_, _, hA3, hl3⟩ => ?_
  obtain ⟨g3, hA3⟩ := own_at hA3 hl3
  have hA3' : b.edges ≠ [] → A3 = some ⟨g3, 0, none⟩ := fun h => hA3 (fun h0 => h (List.length_eq_zero_iff.1 (by have := edgs_length b.edges; rw [h0] at this; simp at this; omega)))
  (repeat' (first | refine J_seq ?_ | refine J_skip ?_ | refine J_yes rfl ?_ | refine J_no rfl ?_))
  refine J_region ?_
  refine JL_val [] (v := grV b A3 c3) (OpV_blk 0 rfl rfl rfl rfl) rfl ?_
  refine JL_callR [] (pairsG_fn 112 (.inl rfl) b hB2 A3 c3 g3 0 hA3' (nl + ml) hBL) rfl rfl rfl rfl (by kernel_rfl) ⟨⟨1, _, by simp, rfl, shows_ownS hA3, seen_ownS hA3⟩, trivial⟩ (fun _ => rfl) ?_
  rintro v H' ⟨fr, _, _, Ar, cr, hfr, _, rfl, rfl⟩
  obtain ⟨mr2, br2⟩ := pairs_best hB2 hfr hBL hBR
  have hrlen := pairsL_length fr (nl + ml) b.edges.length
  obtain ⟨R, hR⟩ : ∃ R, R = pairsL fr (nl + ml) b.edges.length := ⟨_, rfl⟩
  rw [← hR] at mr2 br2 hrlen ⊢
  have hRl := hmb mr2 br2
  refine ⟨rfl, ?_⟩
  refine JL_know (own_is 0 rfl) fun ⟨_, _, hAr, hlr⟩ => ?_
  obtain ⟨gr, hAr⟩ := own_at hAr hlr
  have hAr' : R ≠ [] → Ar = some ⟨gr, 0, none⟩ := fun h => hAr (by simpa [ints] using h)
  refine JL_all [] rfl ?_
  refine J_fit (K := [blk p10 70 (grC g A1 cn), .own (.slice Ar R.length cr) 3 1 R.length (ints R), blk p16 70 (grC b A3 c3), .own (.slice A3 b.edges.length c3) 77 2 b.edges.length (edgs b.edges), .own (.slice A1 g.edges.length cn) 77 2 g.edges.length (edgs g.edges)]) (Fit.picks [3, 0, 1, 2, 4] (by decide) rfl) ?_
  refine J_cutE (σ := Nat × Option Addr × Nat) (fun t => [(20, .pointer (some ⟨t.1, 0, none⟩)), (18, .slice Ar R.length cr), (19, .int .i64 0), (16, .pointer (some ⟨p16, 0, none⟩)), (10, .pointer (some ⟨p10, 0, none⟩)), (12, .slice Ap P.length cp), (13, .int .i64 0), (14, .slice Aq Q.length cq), (15, .int .i64 0), (100, .slice t.2.1 g.edges.length t.2.2)])
    (fun t => [blk t.1 70 [.int .i64 g.left, .int .i64 g.right, .slice t.2.1 g.edges.length t.2.2], .own (.slice t.2.1 g.edges.length t.2.2) 77 2 g.edges.length (edgs g.edges), blk p10 70 (grC g A1 cn), .own (.slice Ar R.length cr) 3 1 R.length (ints R), blk p16 70 (grC b A3 c3), .own (.slice A3 b.edges.length c3) 77 2 b.edges.length (edgs b.edges), .own (.slice A1 g.edges.length cn) 77 2 g.edges.length (edgs g.edges)]) ?_ ?_
  · refine J_draw (Sf := [blk p10 70 (grC g A1 cn), blk p16 70 (grC b A3 c3), .own (.slice A3 b.edges.length c3) 77 2 b.edges.length (edgs b.edges)]) ?_
    refine JA_pre [0, 1, 2, 3, 5, 6] (by decide +kernel) [0, 2, 3] (by decide) rfl ?_
    refine JW_run [] rfl ?_
    refine JW_still [] rfl (OpV_blk (v := .int .i64 g.left) 0 rfl rfl rfl rfl) rfl ?_
    refine JW_run [] rfl ?_
    refine JW_still [] rfl (OpV_blk (v := .int .i64 g.right) 0 rfl rfl rfl rfl) rfl ?_
    refine JW_run [] rfl ?_
    refine JW_still [] rfl (OpV_blk (v := .slice A1 g.edges.length cn) 0 rfl rfl rfl rfl) rfl ?_
    refine JW_nil ?_
    (repeat' (first
      | exact trivial
      | refine JA_step 4 [9] (by decide +kernel) (by decide) ?_
      | refine JA_step 4 [] (by decide +kernel) (by decide) ?_
      | refine JA_step 7 [9] (by decide +kernel) (by decide) ?_
      | refine JA_step 7 [] (by decide +kernel) (by decide) ?_
      | refine JA_step 8 [9] (by decide +kernel) (by decide) ?_
      | refine JA_step 8 [] (by decide +kernel) (by decide) ?_
      | refine JA_step 9 [] (by decide +kernel) (by decide) ?_
      | refine JA_step 10 [] (by decide +kernel) (by decide) ?_
      | refine ⟨⟨_, rfl, ?_⟩, ?_⟩
      | (refine JL_lit rfl rfl rfl rfl rfl rfl rfl (fun _ => rfl) fun g5 => ?_; refine JL_own 2 0 rfl (by decide) ?_)
      | (refine JL_appendS (n := 0) (m := g.edges.length) (news := edgs g.edges) 0 5 rfl rfl rfl rfl rfl rfl (by decide) rfl rfl (shows_ownS hA1) hA1 (edgs_length _) (edgs_one _) (by omega) (by omega) (fun _ _ => rfl) fun A3 c3 => ?_; rw [Nat.zero_add, List.nil_append])
      | (refine JL_appendS (n := 0) (m := g.edges.length) (news := edgs g.edges) 0 6 rfl rfl rfl rfl rfl rfl (by decide) rfl rfl (shows_ownS hA1) hA1 (edgs_length _) (edgs_one _) (by omega) (by omega) (fun _ _ => rfl) fun A3 c3 => ?_; rw [Nat.zero_add, List.nil_append])
      | (refine JL_appendS (n := 0) (m := g.edges.length) (news := edgs g.edges) 1 6 rfl rfl rfl rfl rfl rfl (by decide) rfl rfl (shows_ownS hA1) hA1 (edgs_length _) (edgs_one _) (by omega) (by omega) (fun _ _ => rfl) fun A3 c3 => ?_; rw [Nat.zero_add, List.nil_append])
      | refine JL_val [] (OpV_build rfl rfl rfl rfl rfl rfl) rfl ?_
      | refine JL_alloc rfl rfl rfl (fun _ => rfl) fun b20 => ?_
      | refine JL_store 0 rfl rfl rfl rfl rfl [] rfl ?_
      | refine JL_store 1 rfl rfl rfl rfl rfl [] rfl ?_
      | refine JL_nil ⟨⟨[1, 3, 4], by decide, rfl⟩, ?_⟩
      | refine JL_nil ⟨⟨[2, 4, 5], by decide, rfl⟩, ?_⟩))
    all_goals refine JA_done (by decide +kernel) ⟨(_, _, _), ⟨rfl, rfl, rfl, rfl, rfl, rfl, rfl, rfl, rfl, rfl, trivial⟩, ?_⟩
    all_goals (first | exact Fit.picks [0, 1, 2, 3, 4, 5, 6] (by decide) rfl | exact Fit.picks [1, 0, 2, 3, 4, 5, 6] (by decide) rfl)
  rintro ⟨p20, A4, c4⟩
  simp only
  (repeat' (first | refine J_seq ?_ | refine J_skip ?_ | refine J_yes rfl ?_ | refine J_no rfl ?_))
  refine J_region ?_
  refine JL_run [] rfl ?_
  refine JL_val [] (v := .slice A4 g.edges.length c4) (OpV_blk 0 rfl rfl rfl rfl) rfl ?_
  refine JL_run [] rfl ?_
  refine JL_val [] (v := .slice A1 g.edges.length cn) (OpV_blk 2 rfl rfl rfl rfl) rfl ?_
  refine JL_appendS (n := g.edges.length) (m := g.edges.length) (news := edgs g.edges) 1 6 rfl rfl rfl rfl rfl rfl (by decide) rfl rfl (shows_ownS hA1) hA1 (edgs_length _) (edgs_one _) (by omega) (by omega) (fun _ _ => rfl) fun A5 c5 => ?_
  refine JL_run [] rfl ?_
  refine JL_store 0 rfl rfl rfl rfl rfl [] rfl ?_
  refine JL_nil ?_
  have hT := twiceG_right hg (by omega)
  have hTl : (twiceG g).edges.length = g.edges.length + g.edges.length := by simp [twiceG]
  have hmt := fun {r : List Int} h1 h2 => twice_most mp bp (r := r) h1 h2
  rw [← edgs_app]
  refine J_fit (K := [blk p20 70 (grC (twiceG g) A5 c5), .own (.slice A5 (twiceG g).edges.length c5) 77 2 (twiceG g).edges.length (edgs (twiceG g).edges), .own (.slice Ar R.length cr) 3 1 R.length (ints R), blk p16 70 (grC b A3 c3), .own (.slice A3 b.edges.length c3) 77 2 b.edges.length (edgs b.edges)]) (by
    unfold grC
    rw [hTl]
    exact Fit.picks [0, 1, 3, 4, 5] (by decide) rfl) ?_
  have hTL : (twiceG g).left = (nl : Int) := hnl
  have hTR : (twiceG g).right = (nr : Int) := hnr
  obtain ⟨d, hde⟩ : ∃ d, d = twiceG g := ⟨_, rfl⟩
  rw [← hde] at hT hTl hmt hTL hTR ⊢
  refine J_know (own_is 1 rfl) fun ⟨_, _, hA5, hl5⟩ => ?_
  obtain ⟨g5, hA5⟩ := own_at hA5 hl5
  have hA5' : d.edges ≠ [] → A5 = some ⟨g5, 0, none⟩ := fun h => hA5 (fun h0 => h (List.length_eq_zero_iff.1 (by have := edgs_length d.edges; rw [h0] at this; simp at this; omega)))
  (repeat' (first | refine J_seq ?_ | refine J_skip ?_ | refine J_yes rfl ?_ | refine J_no rfl ?_))
  refine J_region ?_
  refine JL_val [] (v := grV d A5 c5) (OpV_blk 0 rfl rfl rfl rfl) rfl ?_
  refine JL_callR [] (pairsG_fn 116 (.inr rfl) d hT A5 c5 g5 0 hA5' nl hTL) rfl rfl rfl rfl (by kernel_rfl) ⟨⟨1, _, by simp, rfl, shows_ownS hA5, seen_ownS hA5⟩, trivial⟩ (fun _ => rfl) ?_
  rintro v H' ⟨fs, _, _, As, cs, hfs, _, rfl, rfl⟩
  obtain ⟨ms, bs⟩ := pairs_best hT hfs hTL hTR
  have hslen := pairsL_length fs nl d.edges.length
  obtain ⟨U, hU⟩ : ∃ U, U = pairsL fs nl d.edges.length := ⟨_, rfl⟩
  rw [← hU] at ms bs hslen ⊢
  have hUl := hmt ms bs
  refine ⟨rfl, ?_⟩
  refine JL_know (own_is 0 rfl) fun ⟨_, _, hAs, hls⟩ => ?_
  obtain ⟨gs, hAs⟩ := own_at hAs hls
  have hAs' : U ≠ [] → As = some ⟨gs, 0, none⟩ := fun h => hAs (by simpa [ints] using h)
  refine JL_all [] rfl ?_
  (repeat' (first | refine J_seq ?_ | refine J_skip ?_ | refine J_yes rfl ?_ | refine J_no rfl ?_))
  refine J_region ?_
  refine JL_evO (gs := [999]) rfl ?_
  refine JL_evO (gs := [999]) rfl ?_
  refine JL_evO (gs := [999]) rfl ?_
  refine JL_set 115 (v' := .bool true) rfl (congrArg Value.bool (cdec_yes rfl)) ?_
  refine JL_run [2] rfl ?_
  refine JL_set 119 (v' := .bool true) rfl (congrArg Value.bool (cdec_yes rfl)) ?_
  refine JL_run [2, 6] rfl ?_
  refine JL_set 123 (v' := .bool true) rfl (congrArg Value.bool (cdec_yes rfl)) ?_
  refine JL_run [2, 6, 10] rfl ?_
  refine JL_set 127 (v' := .bool true) rfl (congrArg Value.bool (cdec_yes rfl)) ?_
  refine JL_run [2, 6, 10, 14] rfl ?_
  refine JL_set 137 (v' := .bool true) rfl (congrArg Value.bool (cdec_yes (by rw [w64 (by omega)]; omega))) ?_
  refine JL_run [2, 6, 10, 14, 24] rfl ?_
  refine JL_set 144 (v' := .bool true) rfl (congrArg Value.bool (cdec_yes (by omega))) ?_
  refine JL_val [2, 6, 10, 14, 24, 31] (v := grV b A3 c3) (OpV_blk 4 rfl rfl rfl rfl) rfl ?_
  refine JL_run [2, 6, 10, 14, 24, 31] rfl ?_
  refine JL_callR [2, 6, 10, 14, 24, 31] (mright_fn b hB2 A3 c3 g3 0 hA3' R (by omega) (fun x hx => by have := mr2.rng x hx; have := hB2.len; unfold inB; omega) Ar cr gr 0 hAr') rfl rfl rfl rfl (by kernel_rfl) ⟨⟨5, _, by simp, rfl, shows_ownS hA3, seen_ownS hA3⟩, ⟨3, _, by simp, rfl, shows_ownS hAr, seen_ownS hAr⟩, trivial⟩ (fun _ => rfl) ?_
  rintro _ H' ⟨rfl, rfl⟩
  refine ⟨rfl, ?_⟩
  refine JL_run [2, 6, 10, 14, 24, 31] rfl ?_
  refine JL_set 149 (v' := .bool true) rfl (congrArg Value.bool (cdec_yes mr2)) ?_
  refine JL_val [2, 6, 10, 14, 24, 31, 36] (v := grV d A5 c5) (OpV_blk 1 rfl rfl rfl rfl) rfl ?_
  refine JL_run [2, 6, 10, 14, 24, 31, 36] rfl ?_
  refine JL_callR [2, 6, 10, 14, 24, 31, 36] (mright_fn d hT A5 c5 g5 0 hA5' U (by omega) (fun x hx => by have := ms.rng x hx; have := hT.len; unfold inB; omega) As cs gs 0 hAs') rfl rfl rfl rfl (by kernel_rfl) ⟨⟨2, _, by simp, rfl, shows_ownS hA5, seen_ownS hA5⟩, ⟨0, _, by simp, rfl, shows_ownS hAs, seen_ownS hAs⟩, trivial⟩ (fun _ => rfl) ?_
  rintro _ H' ⟨rfl, rfl⟩
  refine ⟨rfl, ?_⟩
  refine JL_all [2, 6, 10, 14, 24, 31, 36] rfl ?_
  exact J_ret ⟨_, rfl, congrArg Value.bool (cdec_yes ms)⟩
end Go.Proofs.Ytjbcgjahfalkaaa
