
/- CoverTurned: a cover of a graph is one of the graph turned. No condition. -/
import Derived.Test.YtbhfbpeldcnpfaaCovT
import Derived.Test.YtbhfbpeldcnpfaaDrawn17
import Derived.Test.YtbhfbpeldcnpfaaShown17
import Derived.Test.YtbhfbpeldcnpfaaRwM
namespace Go.Proofs.Ytbhfbpeldcnpfaa
open Go.RowKit
set_option maxHeartbeats 2000000 in
theorem cturn_fn (sides : Int) (hs : inB sides) (A : Option Addr) (c b o : Nat) (l : List Int) (hA : l ≠ [] → A = some ⟨b, o, none⟩) (hl : ∀ x ∈ l, inB x) (hsz : l.length * 8 ≤ 140737488351232) (left : Int) (_ : inB left) (right : Int) (_ : inB right) :
    Fn 10 [.int .i64 sides, .slice A l.length c, .int .i64 left, .int .i64 right] [] [.seg b o (ints l)] fun v _ => v = .bool true := by
  refine Fn_of Try.func10 rfl rfl fun w0 => ?_
  (repeat' (first | refine J_seq ?_ | refine J_skip ?_ | refine J_yes rfl ?_ | refine J_no rfl ?_))
  refine J_region ?_
  refine JL_all [] rfl ?_
  (repeat' (first | refine J_seq ?_ | refine J_skip ?_ | refine J_yes rfl ?_ | refine J_no rfl ?_))
  refine J_region ?_
  refine JL_callR [] (shown17_fn) rfl rfl rfl rfl (by kernel_rfl) trivial (fun _ => rfl) ?_
  rintro v H' ⟨rfl, rfl⟩
  refine ⟨rfl, ?_⟩
  refine JL_all [] rfl ?_
  (repeat' (first | refine J_seq ?_ | refine J_skip ?_ | refine J_yes rfl ?_ | refine J_no rfl ?_))
  refine J_region ?_
  refine JL_all [] rfl ?_
  refine J_no rfl (J_skip ?_)
  (repeat' (first | refine J_seq ?_ | refine J_skip ?_ | refine J_yes rfl ?_ | refine J_no rfl ?_))
  refine J_region ?_
  refine JL_run [] rfl ?_
  refine JL_callR [] (drawn17_fn sides hs A c b o l hA hl (by omega)) rfl rfl rfl rfl (by kernel_rfl) ⟨⟨0, _, by simp, rfl, shows_seg _ _ _, seen_seg⟩, trivial⟩ (fun _ => rfl) ?_
  rintro v H' ⟨g, A1, c1, hg, hg7, hg7', hg24, rfl, rfl⟩
  refine ⟨rfl, ?_⟩
  have h1 := hg.left
  have h2 := hg.right
  refine JL_know (own_is 0 rfl) fun ⟨_, _, hA1, hl1⟩ => ?_
  obtain ⟨ge, hA1⟩ := own_at hA1 hl1
  have hA1' : g.edges ≠ [] → A1 = some ⟨ge, 0, none⟩ := fun h => hA1 fun h0 => by
    have h5 : (edgs g.edges).length = 0 := by rw [h0]; rfl
    rw [edgs_length] at h5
    exact h (List.length_eq_zero_iff.1 (by omega))
  refine JL_alloc rfl rfl rfl (fun _ => rfl) fun p10 => ?_
  refine JL_store 0 rfl rfl rfl rfl rfl [] rfl ?_
  refine JL_nil ?_
  (repeat' (first | refine J_seq ?_ | refine J_skip ?_ | refine J_yes rfl ?_ | refine J_no rfl ?_))
  refine J_region ?_
  refine JL_run [] rfl ?_
  (first | refine JL_val [] (OpV_blk 0 rfl rfl rfl rfl) rfl ?_ | refine JL_val [] (OpV_blk 1 rfl rfl rfl rfl) rfl ?_ | refine JL_val [] (OpV_blk 2 rfl rfl rfl rfl) rfl ?_ | refine JL_val [] (OpV_blk 3 rfl rfl rfl rfl) rfl ?_ | refine JL_val [] (OpV_blk 4 rfl rfl rfl rfl) rfl ?_ | refine JL_val [] (OpV_blk 5 rfl rfl rfl rfl) rfl ?_ | refine JL_val [] (OpV_blk 6 rfl rfl rfl rfl) rfl ?_ | refine JL_val [] (OpV_blk 7 rfl rfl rfl rfl) rfl ?_)
  refine JL_run [] rfl ?_
  (first | refine JL_val [] (OpV_blk 0 rfl rfl rfl rfl) rfl ?_ | refine JL_val [] (OpV_blk 1 rfl rfl rfl rfl) rfl ?_ | refine JL_val [] (OpV_blk 2 rfl rfl rfl rfl) rfl ?_ | refine JL_val [] (OpV_blk 3 rfl rfl rfl rfl) rfl ?_ | refine JL_val [] (OpV_blk 4 rfl rfl rfl rfl) rfl ?_ | refine JL_val [] (OpV_blk 5 rfl rfl rfl rfl) rfl ?_ | refine JL_val [] (OpV_blk 6 rfl rfl rfl rfl) rfl ?_ | refine JL_val [] (OpV_blk 7 rfl rfl rfl rfl) rfl ?_)
  refine JL_val [] (OpV_build rfl rfl rfl rfl rfl rfl) rfl ?_
  refine JL_alloc rfl rfl rfl (fun _ => rfl) fun p11 => ?_
  refine JL_store 0 rfl rfl rfl rfl rfl [] rfl ?_
  refine JL_nil ?_
  (repeat' (first | refine J_seq ?_ | refine J_skip ?_ | refine J_yes rfl ?_ | refine J_no rfl ?_))
  refine J_region ?_
  refine JL_all [] rfl ?_
  (repeat' (first | refine J_seq ?_ | refine J_skip ?_ | refine J_yes rfl ?_ | refine J_no rfl ?_))
  refine J_block ?_
  refine J_addnil 66 2 ?_
  have htl : ∀ k, k ≤ g.edges.length → ((g.edges.take k).map Edg.turn).length = k := fun k hk => by rw [List.length_map, List.length_take]; omega
  refine J_loop (σ := Nat × Option Addr × Nat) (fun s => [(12, .int .i64 s.1), (11, .pointer (some ⟨p11, 0, none⟩)), (10, .pointer (some ⟨p10, 0, none⟩)), (2, .int .i64 left), (3, .int .i64 right)])
    (fun s => [.own (.slice s.2.1 ((g.edges.take s.1).map Edg.turn).length s.2.2) 66 2 ((g.edges.take s.1).map Edg.turn).length (edgs ((g.edges.take s.1).map Edg.turn)), blk p11 64 [.int .i64 g.right, .int .i64 g.left, .slice s.2.1 ((g.edges.take s.1).map Edg.turn).length s.2.2],
      blk p10 64 (grC g A1 c1), .own (.slice A1 g.edges.length c1) 66 2 g.edges.length (edgs g.edges)])
    (fun s => s.1 ≤ g.edges.length) (fun s => g.edges.length - s.1) (0, none, 0) [0, 1, 2, 3] ⟨rfl, rfl, rfl, rfl, rfl, trivial⟩ (by decide) rfl (Nat.zero_le _) ?_
  rintro ⟨k, A2, c2⟩ hk
  simp only at hk ⊢
  have hkl := htl k hk
  (repeat' (first | refine J_seq ?_ | refine J_skip ?_ | refine J_yes rfl ?_ | refine J_no rfl ?_))
  refine J_region ?_
  refine JL_run [] rfl ?_
  (first | refine JL_val [] (OpV_blk 0 rfl rfl rfl rfl) rfl ?_ | refine JL_val [] (OpV_blk 1 rfl rfl rfl rfl) rfl ?_ | refine JL_val [] (OpV_blk 2 rfl rfl rfl rfl) rfl ?_ | refine JL_val [] (OpV_blk 3 rfl rfl rfl rfl) rfl ?_ | refine JL_val [] (OpV_blk 4 rfl rfl rfl rfl) rfl ?_ | refine JL_val [] (OpV_blk 5 rfl rfl rfl rfl) rfl ?_ | refine JL_val [] (OpV_blk 6 rfl rfl rfl rfl) rfl ?_ | refine JL_val [] (OpV_blk 7 rfl rfl rfl rfl) rfl ?_)
  refine JL_all [] rfl ?_
  refine J_dec rfl (fun hlt => J_skip ?_) (fun hge => J_exit ?_)
  · have hlt : k < g.edges.length := by omega
    obtain ⟨e, he⟩ : ∃ e, g.edges[k]? = some e := ⟨g.edges[k], List.getElem?_eq_getElem hlt⟩
    have htk : (g.edges.take (k + 1)).map Edg.turn = (g.edges.take k).map Edg.turn ++ [⟨e.r, e.l⟩] := by rw [List.take_add_one, he, List.map_append]; rfl
    have hne : g.edges ≠ [] := by intro h0; rw [h0] at hlt; simp at hlt
    obtain rfl := hA1' hne
    refine J_seq (J_block ?_)
    (repeat' (first | refine J_seq ?_ | refine J_skip ?_ | refine J_yes rfl ?_ | refine J_no rfl ?_))
    refine J_walk 18 [(0, true), (1, true), (2, true), (3, true), (4, true), (5, true), (6, true), (7, true), (8, true), (9, true), (10, true), (11, true), (12, true), (13, true), (14, true), (15, false), (16, false), (17, true)] [1, 2, 3] (by kernel_rfl) (by decide) rfl ?_
    refine JW_run [] rfl ?_
    refine JW_still [] rfl (OpV_blk 0 rfl rfl rfl rfl) rfl ?_
    refine JW_run [] rfl ?_
    refine JW_still [] rfl (OpV_blk 1 rfl rfl rfl rfl) rfl ?_
    refine JW_run [] rfl ?_
    refine JW_still [] rfl (idxNz rfl rfl rfl rfl rfl hlt) rfl ?_
    refine JW_run [] rfl ?_
    refine JW_still [] rfl (OpV_own 2 rfl rfl rfl (edgs_get he).2) rfl ?_
    refine JW_run [] rfl ?_
    refine JW_still [] rfl (OpV_blk 1 rfl rfl rfl rfl) rfl ?_
    refine JW_run [] rfl ?_
    refine JW_still [] rfl (idxNz rfl rfl rfl rfl rfl hlt) rfl ?_
    refine JW_run [] rfl ?_
    refine JW_still [] rfl (OpV_own 2 rfl rfl rfl (edgs_get he).1) rfl ?_
    refine JW_still [] rfl (OpV_build rfl rfl rfl rfl rfl rfl) rfl ?_
    refine JW_eff rfl ?_
    refine JL_lit rfl rfl rfl rfl rfl rfl rfl (fun _ => rfl) fun gx => ?_
    refine JL_nil ⟨⟨[2, 3, 4], by decide, rfl⟩, ?_⟩
    refine JW_eff rfl ?_
    refine JL_appendS (off := 0) (m := 1) (news := edgs [⟨e.r, e.l⟩]) 1 0 rfl rfl rfl rfl rfl rfl (by decide) rfl rfl (shows_blk gx _ _ (0, 0)) (fun _ => rfl) rfl rfl (by omega) (by omega) (fun _ _ => rfl) fun A3 c3 => ?_
    refine JL_nil ⟨⟨[2, 3, 4], by decide, rfl⟩, ?_⟩
    refine JW_run [] rfl ?_
    refine JW_nil ?_
    refine JL_store 2 rfl rfl rfl rfl rfl [] rfl ?_
    refine JL_nil ?_
    (repeat' (first | refine J_seq ?_ | refine J_skip ?_ | refine J_yes rfl ?_ | refine J_no rfl ?_))
    refine J_region ?_
    refine JL_all [] rfl ?_
    refine ⟨(k + 1, A3, c3), [1, 2, 3, 4], ⟨?_, rfl, rfl, rfl, rfl, trivial⟩, by decide, ?_, by simp only; omega, by simp only; omega⟩
    · show some (Value.int .i64 (IntKind.i64.wrap ((k : Int) + 1))) = _
      rw [w64 (by omega)]; rfl
    · simp only [htk, edgs_app, List.length_append]; rfl
  · obtain rfl : k = g.edges.length := by omega
    rw [List.take_length]
    obtain ⟨At, ct, hAt⟩ : ∃ At ct, At = A2 ∧ ct = c2 := ⟨_, _, rfl, rfl⟩
    obtain ⟨rfl, rfl⟩ := hAt
    obtain ⟨nl, hnl⟩ : ∃ n : Nat, g.left = n := ⟨g.left.toNat, by omega⟩
    obtain ⟨nr, hnr⟩ : ∃ n : Nat, g.right = n := ⟨g.right.toNat, by omega⟩
    (repeat' (first | refine J_seq ?_ | refine J_skip ?_ | refine J_yes rfl ?_ | refine J_no rfl ?_))
    refine J_region ?_
    refine JL_alloc rfl rfl rfl (fun _ => rfl) fun p13 => ?_
    refine JL_nil ?_
    refine J_fit (K := [blk p13 76 [.slice none 0 0, .slice none 0 0], blk p11 64 (grC (tG g) At ct), blk p10 64 (grC g A1 c1), .own (.slice A1 g.edges.length c1) 66 2 g.edges.length (edgs g.edges), .own (.slice At (tG g).edges.length ct) 66 2 (tG g).edges.length (edgs (tG g).edges)]) (Fit.picks [0, 2, 3, 4, 1] (by decide) rfl) ?_
    (repeat' (first | refine J_seq ?_ | refine J_skip ?_ | refine J_yes rfl ?_ | refine J_no rfl ?_))
    refine J_region ?_
    refine JL_all [] rfl ?_
    (repeat' (first | refine J_seq ?_ | refine J_skip ?_ | refine J_yes rfl ?_ | refine J_no rfl ?_))
    refine J_block ?_
    refine J_addnil 3 1 ?_
    refine J_loop (σ := Nat × Option Addr × Nat × List Int) (fun s => [(14, .int .i64 s.1), (13, .pointer (some ⟨p13, 0, none⟩)), (11, .pointer (some ⟨p11, 0, none⟩)), (10, .pointer (some ⟨p10, 0, none⟩)), (2, .int .i64 left), (3, .int .i64 right)])
      (fun s => [.own (.slice s.2.1 s.2.2.2.length s.2.2.1) 3 1 s.2.2.2.length (ints s.2.2.2), blk p13 76 [.slice s.2.1 s.2.2.2.length s.2.2.1, .slice none 0 0], blk p11 64 (grC (tG g) At ct), blk p10 64 (grC g A1 c1), .own (.slice A1 g.edges.length c1) 66 2 g.edges.length (edgs g.edges), .own (.slice At (tG g).edges.length ct) 66 2 (tG g).edges.length (edgs (tG g).edges)])
      (fun s => 1 ≤ s.1 ∧ s.1 ≤ nl + 1 ∧ IsSide ((s.1 : Int) - 1) s.2.2.2 ∧ s.2.2.2.length ≤ s.1) (fun s => nl + 1 - s.1) (1, none, 0, []) [0, 1, 2, 3, 4, 5] ⟨rfl, rfl, rfl, rfl, rfl, rfl, trivial⟩ (by decide) rfl ⟨Nat.le_refl _, by simp only; omega, ⟨by simp, by simp⟩, by simp⟩ ?_
    rintro ⟨v, Ab, cb, row⟩ ⟨hv1, hvn, hrow, hrl⟩
    simp only at hv1 hvn hrow hrl ⊢
    (repeat' (first | refine J_seq ?_ | refine J_skip ?_ | refine J_yes rfl ?_ | refine J_no rfl ?_))
    refine J_region ?_
    refine JL_run [] rfl ?_
    refine JL_val [] (OpV_blk 3 rfl rfl rfl rfl) rfl ?_
    refine JL_all [] rfl ?_
    refine J_dec rfl (fun hle => J_skip ?_) (fun hgt => J_exit ?_)
    · have hle' : v ≤ nl := by omega
      have hnx : IsSide (((v + 1 : Nat) : Int) - 1) row := ⟨hrow.rise, fun x hx => by have := hrow.rng x hx; omega⟩
      have hnx2 : IsSide (((v + 1 : Nat) : Int) - 1) (row ++ [(v : Int)]) := IsSide.snoc.2 ⟨hnx, fun y hy => by have := hrow.rng y hy; omega, by omega, by omega⟩
      refine J_seq (J_block ?_)
      (repeat' (first | refine J_seq ?_ | refine J_skip ?_ | refine J_yes rfl ?_ | refine J_no rfl ?_))
      refine J_region ?_
      refine JL_run [] rfl ?_
      refine JL_set 67 (v' := .int .i64 ((v % 20 : Nat) : Int)) rfl (congrArg (Value.int .i64) (by rw [Int.tmod_eq_emod_of_nonneg (by omega)]; rfl)) ?_
      refine JL_val [] (OpV_shr rfl rfl rfl) rfl ?_
      refine JL_all [] rfl ?_
      refine J_dec rfl (fun hbit => ?_) (fun hbit => J_skip ?_)
      · refine J_region (JL_run [] rfl ?_)
        refine JL_val [] (OpV_blk 1 rfl rfl rfl rfl) rfl ?_
        refine JL_run [] rfl ?_
        refine JL_lit rfl rfl rfl rfl rfl rfl rfl (fun _ => rfl) fun gx => ?_
        refine JL_appendS (off := 0) (m := 1) (news := ints [(v : Int)]) 1 0 rfl rfl rfl rfl rfl rfl (by decide) rfl rfl (shows_blk gx _ _ (0, 0)) (fun _ => rfl) rfl rfl (by omega) (by omega) (fun _ _ => rfl) fun Ad cd => ?_
        refine JL_run [] rfl ?_
        refine JL_store 2 rfl rfl rfl rfl rfl [] rfl ?_
        refine JL_nil ?_
        (repeat' (first | refine J_seq ?_ | refine J_skip ?_ | refine J_yes rfl ?_ | refine J_no rfl ?_))
        refine J_region ?_
        refine JL_all [] rfl ?_
        refine ⟨(v + 1, Ad, cd, row ++ [(v : Int)]), [1, 2, 3, 4, 5, 6], ⟨?_, rfl, rfl, rfl, rfl, rfl, trivial⟩, by decide, ?_, ⟨by simp only; omega, by simp only; omega, hnx2, by simp only [List.length_append, List.length_singleton]; omega⟩, by simp only; omega⟩
        · show some (Value.int .i64 (IntKind.i64.wrap ((v : Int) + 1))) = _
          rw [w64 (by omega)]; rfl
        · simp only [List.length_append, List.length_singleton, show ints (row ++ [(v : Int)]) = ints row ++ ints [(v : Int)] by simp [ints]]; rfl
      · (repeat' (first | refine J_seq ?_ | refine J_skip ?_ | refine J_yes rfl ?_ | refine J_no rfl ?_))
        refine J_region ?_
        refine JL_all [] rfl ?_
        refine ⟨(v + 1, Ab, cb, row), [0, 1, 2, 3, 4, 5], ⟨?_, rfl, rfl, rfl, rfl, rfl, trivial⟩, by decide, rfl, ⟨by simp only; omega, by simp only; omega, hnx, by simp only; omega⟩, by simp only; omega⟩
        show some (Value.int .i64 (IntKind.i64.wrap ((v : Int) + 1))) = _
        rw [w64 (by omega)]; rfl
    · obtain rfl : v = nl + 1 := by omega
      obtain ⟨Al, cl, sl, hsl, hsll, e1, e2, e3⟩ : ∃ Al cl sl, IsSide g.left sl ∧ sl.length ≤ nl + 1 ∧ Al = Ab ∧ cl = cb ∧ sl = row := ⟨Ab, cb, row, ⟨hrow.rise, fun x hx => by have := hrow.rng x hx; omega⟩, hrl, rfl, rfl, rfl⟩
      subst e1 e2 e3
      clear hrow hrl hv1 hvn hgt
      (repeat' (first | refine J_seq ?_ | refine J_skip ?_ | refine J_yes rfl ?_ | refine J_no rfl ?_))
      refine J_region ?_
      refine JL_all [] rfl ?_
      (repeat' (first | refine J_seq ?_ | refine J_skip ?_ | refine J_yes rfl ?_ | refine J_no rfl ?_))
      refine J_block ?_
      refine J_addnil 3 1 ?_
      refine J_loop (σ := Nat × Option Addr × Nat × List Int) (fun s => [(15, .int .i64 s.1), (13, .pointer (some ⟨p13, 0, none⟩)), (11, .pointer (some ⟨p11, 0, none⟩)), (10, .pointer (some ⟨p10, 0, none⟩)), (2, .int .i64 left), (3, .int .i64 right)])
        (fun s => [.own (.slice s.2.1 s.2.2.2.length s.2.2.1) 3 1 s.2.2.2.length (ints s.2.2.2), .own (.slice Al sl.length cl) 3 1 sl.length (ints sl), blk p13 76 [.slice Al sl.length cl, .slice s.2.1 s.2.2.2.length s.2.2.1], blk p11 64 (grC (tG g) At ct), blk p10 64 (grC g A1 c1), .own (.slice A1 g.edges.length c1) 66 2 g.edges.length (edgs g.edges), .own (.slice At (tG g).edges.length ct) 66 2 (tG g).edges.length (edgs (tG g).edges)])
        (fun s => 1 ≤ s.1 ∧ s.1 ≤ nr + 1 ∧ IsSide ((s.1 : Int) - 1) s.2.2.2 ∧ s.2.2.2.length ≤ s.1) (fun s => nr + 1 - s.1) (1, none, 0, []) [0, 1, 2, 3, 4, 5, 6] ⟨rfl, rfl, rfl, rfl, rfl, rfl, trivial⟩ (by decide) rfl ⟨Nat.le_refl _, by simp only; omega, ⟨by simp, by simp⟩, by simp⟩ ?_
      rintro ⟨v, Ab, cb, row⟩ ⟨hv1, hvn, hrow, hrl⟩
      simp only at hv1 hvn hrow hrl ⊢
      (repeat' (first | refine J_seq ?_ | refine J_skip ?_ | refine J_yes rfl ?_ | refine J_no rfl ?_))
      refine J_region ?_
      refine JL_run [] rfl ?_
      refine JL_val [] (OpV_blk 4 rfl rfl rfl rfl) rfl ?_
      refine JL_all [] rfl ?_
      refine J_dec rfl (fun hle => J_skip ?_) (fun hgt => J_exit ?_)
      · have hle' : v ≤ nr := by omega
        have hnx : IsSide (((v + 1 : Nat) : Int) - 1) row := ⟨hrow.rise, fun x hx => by have := hrow.rng x hx; omega⟩
        have hnx2 : IsSide (((v + 1 : Nat) : Int) - 1) (row ++ [(v : Int)]) := IsSide.snoc.2 ⟨hnx, fun y hy => by have := hrow.rng y hy; omega, by omega, by omega⟩
        refine J_seq (J_block ?_)
        (repeat' (first | refine J_seq ?_ | refine J_skip ?_ | refine J_yes rfl ?_ | refine J_no rfl ?_))
        refine J_region ?_
        refine JL_run [] rfl ?_
        refine JL_set 85 (v' := .int .i64 ((v % 20 : Nat) : Int)) rfl (congrArg (Value.int .i64) (by rw [Int.tmod_eq_emod_of_nonneg (by omega)]; rfl)) ?_
        refine JL_val [] (OpV_shr rfl rfl rfl) rfl ?_
        refine JL_all [] rfl ?_
        refine J_dec rfl (fun hbit => ?_) (fun hbit => J_skip ?_)
        · refine J_region (JL_run [] rfl ?_)
          refine JL_val [] (OpV_blk 2 rfl rfl rfl rfl) rfl ?_
          refine JL_run [] rfl ?_
          refine JL_lit rfl rfl rfl rfl rfl rfl rfl (fun _ => rfl) fun gx => ?_
          refine JL_appendS (off := 0) (m := 1) (news := ints [(v : Int)]) 1 0 rfl rfl rfl rfl rfl rfl (by decide) rfl rfl (shows_blk gx _ _ (0, 0)) (fun _ => rfl) rfl rfl (by omega) (by omega) (fun _ _ => rfl) fun Ad cd => ?_
          refine JL_run [] rfl ?_
          refine JL_store 3 rfl rfl rfl rfl rfl [] rfl ?_
          refine JL_nil ?_
          (repeat' (first | refine J_seq ?_ | refine J_skip ?_ | refine J_yes rfl ?_ | refine J_no rfl ?_))
          refine J_region ?_
          refine JL_all [] rfl ?_
          refine ⟨(v + 1, Ad, cd, row ++ [(v : Int)]), [1, 2, 3, 4, 5, 6, 7], ⟨?_, rfl, rfl, rfl, rfl, rfl, trivial⟩, by decide, ?_, ⟨by simp only; omega, by simp only; omega, hnx2, by simp only [List.length_append, List.length_singleton]; omega⟩, by simp only; omega⟩
          · show some (Value.int .i64 (IntKind.i64.wrap ((v : Int) + 1))) = _
            rw [w64 (by omega)]; rfl
          · simp only [List.length_append, List.length_singleton, show ints (row ++ [(v : Int)]) = ints row ++ ints [(v : Int)] by simp [ints]]; rfl
        · (repeat' (first | refine J_seq ?_ | refine J_skip ?_ | refine J_yes rfl ?_ | refine J_no rfl ?_))
          refine J_region ?_
          refine JL_all [] rfl ?_
          refine ⟨(v + 1, Ab, cb, row), [0, 1, 2, 3, 4, 5, 6], ⟨?_, rfl, rfl, rfl, rfl, rfl, trivial⟩, by decide, rfl, ⟨by simp only; omega, by simp only; omega, hnx, by simp only; omega⟩, by simp only; omega⟩
          show some (Value.int .i64 (IntKind.i64.wrap ((v : Int) + 1))) = _
          rw [w64 (by omega)]; rfl
      · obtain rfl : v = nr + 1 := by omega
        obtain ⟨Ar, cr, sr, hsr, hsrl, e1, e2, e3⟩ : ∃ Ar cr sr, IsSide g.right sr ∧ sr.length ≤ nr + 1 ∧ Ar = Ab ∧ cr = cb ∧ sr = row := ⟨Ab, cb, row, ⟨hrow.rise, fun x hx => by have := hrow.rng x hx; omega⟩, hrl, rfl, rfl, rfl⟩
        subst e1 e2 e3
        clear hrow hrl hv1 hvn hgt
        (repeat' (first | refine J_seq ?_ | refine J_skip ?_ | refine J_yes rfl ?_ | refine J_no rfl ?_))
        refine J_region ?_
        refine JL_run [] rfl ?_
        (first | refine JL_val [] (OpV_blk 0 rfl rfl rfl rfl) rfl ?_ | refine JL_val [] (OpV_blk 1 rfl rfl rfl rfl) rfl ?_ | refine JL_val [] (OpV_blk 2 rfl rfl rfl rfl) rfl ?_ | refine JL_val [] (OpV_blk 3 rfl rfl rfl rfl) rfl ?_ | refine JL_val [] (OpV_blk 4 rfl rfl rfl rfl) rfl ?_ | refine JL_val [] (OpV_blk 5 rfl rfl rfl rfl) rfl ?_ | refine JL_val [] (OpV_blk 6 rfl rfl rfl rfl) rfl ?_ | refine JL_val [] (OpV_blk 7 rfl rfl rfl rfl) rfl ?_)
        refine JL_run [] rfl ?_
        (first | refine JL_val [] (OpV_blk 0 rfl rfl rfl rfl) rfl ?_ | refine JL_val [] (OpV_blk 1 rfl rfl rfl rfl) rfl ?_ | refine JL_val [] (OpV_blk 2 rfl rfl rfl rfl) rfl ?_ | refine JL_val [] (OpV_blk 3 rfl rfl rfl rfl) rfl ?_ | refine JL_val [] (OpV_blk 4 rfl rfl rfl rfl) rfl ?_ | refine JL_val [] (OpV_blk 5 rfl rfl rfl rfl) rfl ?_ | refine JL_val [] (OpV_blk 6 rfl rfl rfl rfl) rfl ?_ | refine JL_val [] (OpV_blk 7 rfl rfl rfl rfl) rfl ?_)
        refine JL_val [] (OpV_build rfl rfl rfl rfl rfl rfl) rfl ?_
        refine JL_alloc rfl rfl rfl (fun _ => rfl) fun p16 => ?_
        refine JL_store 0 rfl rfl rfl rfl rfl [] rfl ?_
        refine JL_nil ?_
        refine J_know (own_is 1 rfl) fun ⟨_, _, hAr, hr1⟩ => ?_
        obtain ⟨gr, hAr⟩ := own_at hAr hr1
        refine J_know (own_is 2 rfl) fun ⟨_, _, hAl, hl1⟩ => ?_
        obtain ⟨gl, hAl⟩ := own_at hAl hl1
        refine J_know (own_is 7 rfl) fun ⟨_, _, hAt, ht1⟩ => ?_
        obtain ⟨gt, hAt⟩ := own_at hAt ht1
        have hgt := tG_right hg
        (repeat' (first | refine J_seq ?_ | refine J_skip ?_ | refine J_yes rfl ?_ | refine J_no rfl ?_))
        refine J_region ?_
        refine JL_val [] (v := grV g A1 c1) (OpV_blk 5 rfl rfl rfl rfl) rfl ?_
        refine JL_callR [] (pairs_fn g hg A1 c1 ge 0 hA1' nl hnl) rfl rfl rfl rfl (by kernel_rfl) ⟨⟨6, _, by simp, rfl, shows_ownS hA1, seen_ownS hA1⟩, trivial⟩ (fun _ => rfl) ?_
        rintro v H' ⟨f, Ap, cp, hf, rfl, rfl⟩
        refine ⟨rfl, ?_⟩
        have hpM := flow_match hg hf.1 hnl hnr
        have hpN := flow_no_more hg hf hnl hnr
        have hpl := pairsL_length f nl g.edges.length
        generalize pairsL f nl g.edges.length = pl at hpM hpN hpl
        have hprng := hpM.rng
        have hpin : ∀ x ∈ pl, inB x := fun x hx => by have := hprng x hx; unfold inB; omega
        refine JL_all [] rfl ?_
        refine J_know (own_is 0 rfl) fun ⟨_, _, hAp, hp1⟩ => ?_
        obtain ⟨gp, hAp⟩ := own_at hAp hp1
        (repeat' (first | refine J_seq ?_ | refine J_skip ?_ | refine J_yes rfl ?_ | refine J_no rfl ?_))
        refine J_region ?_
        refine JL_val [] (v := grV g A1 c1) (OpV_blk 6 rfl rfl rfl rfl) rfl ?_
        refine JL_run [] rfl ?_
        refine JL_callR [] (cof_fn g hg A1 c1 ge 0 hA1' pl (by omega) hpin Ap cp gp 0 (ints_at hAp)) rfl rfl rfl rfl (by kernel_rfl) ⟨⟨7, _, by simp, rfl, shows_ownS hA1, seen_ownS hA1⟩, ⟨0, _, by simp, rfl, shows_ownS hAp, seen_ownS hAp⟩, trivial⟩ (fun _ => rfl) ?_
        rintro v H' (⟨_, _, sl1, sr1, Al1, Ar1, cl1, cr1, i1, i2, i3, i4, rfl, rfl⟩ | ⟨_, ⟨w, hw, hw'⟩, _, _⟩ | ⟨hMn, _, _⟩)
        rotate_left
        · exact absurd (hpN w hw) hw'
        · exact absurd hpM hMn
        obtain ⟨hC1, hlen1⟩ := of_cover hg hpM hpN i1 i2 i3 i4
        refine ⟨rfl, ?_⟩
        refine JL_know (own_is 0 rfl) fun ⟨_, _, hAr1, hr2⟩ => ?_
        obtain ⟨gr1, hAr1⟩ := own_at hAr1 hr2
        refine JL_know (own_is 1 rfl) fun ⟨_, _, hAl1, hl2⟩ => ?_
        obtain ⟨gl1, hAl1⟩ := own_at hAl1 hl2
        refine JL_run [] rfl ?_
        refine JL_alloc rfl rfl rfl (fun _ => rfl) fun p19 => ?_
        refine JL_store 0 rfl rfl rfl rfl rfl [] rfl ?_
        refine JL_all [] rfl ?_
        (repeat' (first | refine J_seq ?_ | refine J_skip ?_ | refine J_yes rfl ?_ | refine J_no rfl ?_))
        refine J_region ?_
        refine JL_val [] (v := grV (tG g) At ct) (OpV_blk 8 rfl rfl rfl rfl) rfl ?_
        refine JL_run [] rfl ?_
        have hpM' := tG_match' hpM
        have hpN' := tight_no_more hgt hpM' (tG_cover' hC1) (by omega)
        refine JL_callR [] (cof_fn (tG g) hgt At ct gt 0 (edgs_at hAt) pl (by omega) hpin Ap cp gp 0 (ints_at hAp)) rfl rfl rfl rfl (by kernel_rfl) ⟨⟨11, _, by simp, rfl, shows_ownS hAt, seen_ownS hAt⟩, ⟨3, _, by simp, rfl, shows_ownS hAp, seen_ownS hAp⟩, trivial⟩ (fun _ => rfl) ?_
        rintro v H' (⟨_, _, sl2, sr2, Al2, Ar2, cl2, cr2, k1, k2, k3, k4, rfl, rfl⟩ | ⟨_, ⟨w, hw, hw'⟩, _, _⟩ | ⟨hMn, _, _⟩)
        rotate_left
        · exact absurd (hpN' w hw) hw'
        · exact absurd hpM' hMn
        obtain ⟨hC2, hlen2⟩ := of_cover hgt hpM' hpN' k1 k2 k3 k4
        refine ⟨rfl, ?_⟩
        refine JL_run [] rfl ?_
        refine JL_alloc rfl rfl rfl (fun _ => rfl) fun p21 => ?_
        refine JL_store 0 rfl rfl rfl rfl rfl [] rfl ?_
        refine JL_all [] rfl ?_
        (repeat' (first | refine J_seq ?_ | refine J_skip ?_ | refine J_yes rfl ?_ | refine J_no rfl ?_))
        refine J_walk 55 [(0, true), (1, true), (3, true), (4, true), (2, false), (5, false), (6, true), (7, true), (8, true), (9, true), (10, true), (12, true), (13, true), (14, true), (11, false), (15, false), (16, true), (17, true), (18, true), (19, true), (20, true), (21, true), (22, true), (23, true), (24, true), (25, true), (26, true), (27, true), (28, true), (29, true), (30, true), (31, true), (32, true), (33, true), (34, true), (35, true), (36, true), (37, true), (38, true), (39, true), (40, true), (41, true), (42, true), (43, true), (44, true), (45, true), (46, true), (47, true), (48, true), (49, true), (50, true), (51, false), (52, true), (53, true), (54, true)] [0, 1, 2, 3, 4, 5, 6, 7, 8, 9, 10, 11, 12, 13, 14] (by kernel_rfl) (by decide) rfl ?_
        refine JW_still [] rfl (OpV_blk (v := grV g A1 c1) 12 rfl rfl rfl rfl) rfl ?_
        refine JW_still [] rfl (OpV_blk (v := setV sl sr Al Ar cl cr) 10 rfl rfl rfl rfl) rfl ?_
        refine JW_still [] rfl (OpV_blk (v := grV (tG g) At ct) 11 rfl rfl rfl rfl) rfl ?_
        refine JW_still [] rfl (OpV_blk (v := setV sr sl Ar Al cr cl) 7 rfl rfl rfl rfl) rfl ?_
        refine JW_eff rfl ?_
        refine JL_callR [] (covers_fn g hg A1 c1 ge 0 hA1' sl (by omega) Al cl gl 0 (ints_at hAl) sr (by omega) Ar cr gr 0 (ints_at hAr)) rfl rfl rfl rfl (by kernel_rfl) ⟨⟨13, _, by simp, rfl, shows_ownS hA1, seen_ownS hA1⟩, ⟨9, _, by simp, rfl, shows_ownS hAl, seen_ownS hAl⟩, ⟨8, _, by simp, rfl, shows_ownS hAr, seen_ownS hAr⟩, trivial⟩ (fun _ => rfl) ?_
        rintro v H' ⟨rfl, rfl⟩
        refine ⟨rfl, JL_nil ⟨⟨[0, 1, 2, 3, 4, 5, 6, 7, 8, 9, 10, 11, 12, 13, 14], by decide, rfl⟩, ?_⟩⟩
        refine JW_eff rfl ?_
        refine JL_callR [] (covers_fn (tG g) hgt At ct gt 0 (edgs_at hAt) sr (by omega) Ar cr gr 0 (ints_at hAr) sl (by omega) Al cl gl 0 (ints_at hAl)) rfl rfl rfl rfl (by kernel_rfl) ⟨⟨14, _, by simp, rfl, shows_ownS hAt, seen_ownS hAt⟩, ⟨8, _, by simp, rfl, shows_ownS hAr, seen_ownS hAr⟩, ⟨9, _, by simp, rfl, shows_ownS hAl, seen_ownS hAl⟩, trivial⟩ (fun _ => rfl) ?_
        rintro v H' ⟨rfl, rfl⟩
        refine ⟨rfl, JL_nil ⟨⟨[0, 1, 2, 3, 4, 5, 6, 7, 8, 9, 10, 11, 12, 13, 14], by decide, rfl⟩, ?_⟩⟩
        refine JW_run [] rfl ?_
        refine JW_set 124 (v' := .bool true) rfl (congrArg Value.bool (by rw [cdec_iff tG_cover, beq_self_eq_true])) ?_
        refine JW_still [7] rfl (OpV_blk (v := grV g A1 c1) 12 rfl rfl rfl rfl) rfl ?_
        refine JW_run [7] rfl ?_
        refine JW_still [7] rfl (OpV_blk (v := setV sl sr Al Ar cl cr) 10 rfl rfl rfl rfl) rfl ?_
        refine JW_still [7] rfl (OpV_blk (v := grV (tG g) At ct) 11 rfl rfl rfl rfl) rfl ?_
        refine JW_run [7] rfl ?_
        refine JW_still [7] rfl (OpV_blk (v := setV sr sl Ar Al cr cl) 7 rfl rfl rfl rfl) rfl ?_
        refine JW_eff rfl ?_
        refine JL_callR [7] (cprove_fn g hg A1 c1 ge 0 hA1' pl (by omega) hpin Ap cp gp 0 (ints_at hAp) sl (by omega) Al cl gl 0 (ints_at hAl) sr (by omega) Ar cr gr 0 (ints_at hAr)) rfl rfl rfl rfl (by kernel_rfl) ⟨⟨13, _, by simp, rfl, shows_ownS hA1, seen_ownS hA1⟩, ⟨6, _, by simp, rfl, shows_ownS hAp, seen_ownS hAp⟩, ⟨9, _, by simp, rfl, shows_ownS hAl, seen_ownS hAl⟩, ⟨8, _, by simp, rfl, shows_ownS hAr, seen_ownS hAr⟩, trivial⟩ (fun _ => rfl) ?_
        rintro v H' ⟨rfl, rfl⟩
        refine ⟨rfl, JL_nil ⟨⟨[0, 1, 2, 3, 4, 5, 6, 7, 8, 9, 10, 11, 12, 13, 14], by decide, rfl⟩, ?_⟩⟩
        refine JW_eff rfl ?_
        refine JL_callR [7] (cprove_fn (tG g) hgt At ct gt 0 (edgs_at hAt) pl (by omega) hpin Ap cp gp 0 (ints_at hAp) sr (by omega) Ar cr gr 0 (ints_at hAr) sl (by omega) Al cl gl 0 (ints_at hAl)) rfl rfl rfl rfl (by kernel_rfl) ⟨⟨14, _, by simp, rfl, shows_ownS hAt, seen_ownS hAt⟩, ⟨6, _, by simp, rfl, shows_ownS hAp, seen_ownS hAp⟩, ⟨8, _, by simp, rfl, shows_ownS hAr, seen_ownS hAr⟩, ⟨9, _, by simp, rfl, shows_ownS hAl, seen_ownS hAl⟩, trivial⟩ (fun _ => rfl) ?_
        rintro v H' ⟨rfl, rfl⟩
        refine ⟨rfl, JL_nil ⟨⟨[0, 1, 2, 3, 4, 5, 6, 7, 8, 9, 10, 11, 12, 13, 14], by decide, rfl⟩, ?_⟩⟩
        refine JW_run [7] rfl ?_
        refine JW_set 135 (v' := .bool true) rfl (congrArg Value.bool (cdec_yes (tG_prove _ _ _ _).symm)) ?_
        refine JW_run [18] rfl ?_
        refine JW_set 139 (v' := .bool true) rfl (congrArg Value.bool (cdec_yes rfl)) ?_
        refine JW_run [22] rfl ?_
        refine JW_set 143 (v' := .bool true) rfl (congrArg Value.bool (cdec_yes rfl)) ?_
        refine JW_run [26] rfl ?_
        refine JW_still [26] rfl (OpV_blk 3 rfl rfl rfl rfl) rfl ?_
        refine JW_run [26] rfl ?_
        refine JW_still [26] rfl (OpV_blk 3 rfl rfl rfl rfl) rfl ?_
        refine JW_run [26] rfl ?_
        refine JW_still [26] rfl (OpV_blk 0 rfl rfl rfl rfl) rfl ?_
        refine JW_run [26] rfl ?_
        refine JW_still [26] rfl (OpV_blk 0 rfl rfl rfl rfl) rfl ?_
        refine JW_run [26] rfl ?_
        refine JW_set 160 (v' := .bool true) rfl (congrArg Value.bool (cdec_yes (congrArg IntKind.i64.wrap (by omega)))) ?_
        refine JW_still [43] rfl (OpV_blk (v := grV (tG g) At ct) 11 rfl rfl rfl rfl) rfl ?_
        refine JW_run [43] rfl ?_
        refine JW_still [43] rfl (OpV_blk 3 rfl rfl rfl rfl) rfl ?_
        refine JW_run [43] rfl ?_
        refine JW_still [43] rfl (OpV_blk 3 rfl rfl rfl rfl) rfl ?_
        refine JW_still [43] rfl (OpV_build rfl rfl rfl rfl rfl rfl) rfl ?_
        refine JW_eff rfl ?_
        refine JL_callR [43] (cprove_fn (tG g) hgt At ct gt 0 (edgs_at hAt) pl (by omega) hpin Ap cp gp 0 (ints_at hAp) sr1 (by omega) Ar1 cr1 gr1 0 (ints_at hAr1) sl1 (by omega) Al1 cl1 gl1 0 (ints_at hAl1)) rfl rfl rfl rfl (by kernel_rfl) ⟨⟨14, _, by simp, rfl, shows_ownS hAt, seen_ownS hAt⟩, ⟨6, _, by simp, rfl, shows_ownS hAp, seen_ownS hAp⟩, ⟨4, _, by simp, rfl, shows_ownS hAr1, seen_ownS hAr1⟩, ⟨5, _, by simp, rfl, shows_ownS hAl1, seen_ownS hAl1⟩, trivial⟩ (fun _ => rfl) ?_
        rintro v H' ⟨rfl, rfl⟩
        refine ⟨rfl, JL_nil ⟨⟨[0, 1, 2, 3, 4, 5, 6, 7, 8, 9, 10, 11, 12, 13, 14], by decide, rfl⟩, ?_⟩⟩
        refine JW_all [43] rfl ?_
        refine JL_nil ?_
        exact J_ret ⟨_, rfl, congrArg Value.bool (cdec_yes (proveZ_ok hpM' (tG_cover' hC1) (by omega)))⟩
end Go.Proofs.Ytbhfbpeldcnpfaa
