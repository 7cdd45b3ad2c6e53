
/- CoverWeak: no matching has more edges than a cover has nodes. No condition. -/
import Derived.Test.YtbhfbpeldcnpfaaCovT
import Derived.Test.YtbhfbpeldcnpfaaDrawn17
import Derived.Test.YtbhfbpeldcnpfaaShown17
import Derived.Test.YtbhfbpeldcnpfaaRwM
namespace Go.Proofs.Ytbhfbpeldcnpfaa
open Go.RowKit
theorem IsMatch.sub {g : Gr} {l m : List Int} (h : IsMatch g l) (hs : m.Sublist l) : IsMatch g m := ⟨h.rise.sublist hs, fun x hx => h.rng x (hs.mem hx), h.apart.sublist hs⟩
set_option maxHeartbeats 2000000 in
theorem cweak_fn (sides : Int) (hs : inB sides) (A : Option Addr) (c b o : Nat) (l : List Int) (hA : l ≠ [] → A = some ⟨b, o, none⟩) (hl : ∀ x ∈ l, inB x) (hsz : l.length * 8 ≤ 140737488351232) (take : Int) (_ : inB take) (left : Int) (_ : inB left) (right : Int) (_ : inB right) :
    Fn 11 [.int .i64 sides, .slice A l.length c, .int .i64 take, .int .i64 left, .int .i64 right] [] [.seg b o (ints l)] fun v _ => v = .bool true := by
  refine Fn_of Try.func11 rfl rfl fun w0 => ?_
  (repeat' (first | refine J_seq ?_ | refine J_skip ?_ | refine J_yes rfl ?_ | refine J_no rfl ?_))
  refine J_region ?_
  refine JL_all [] rfl ?_
  (repeat' (first | refine J_seq ?_ | refine J_skip ?_ | refine J_yes rfl ?_ | refine J_no rfl ?_))
  refine J_region ?_
  refine JL_callR [] (shown17_fn) rfl rfl rfl rfl (by kernel_rfl) trivial (fun _ => rfl) ?_
  rintro v H' ⟨rfl, rfl⟩
  refine ⟨rfl, ?_⟩
  refine JL_all [] rfl ?_
  (repeat' (first | refine J_seq ?_ | refine J_skip ?_ | refine J_yes rfl ?_ | refine J_no rfl ?_))
  refine J_region ?_
  refine JL_all [] rfl ?_
  refine J_no rfl (J_skip ?_)
  (repeat' (first | refine J_seq ?_ | refine J_skip ?_ | refine J_yes rfl ?_ | refine J_no rfl ?_))
  refine J_region ?_
  refine JL_run [] rfl ?_
  refine JL_callR [] (drawn17_fn sides hs A c b o l hA hl (by omega)) rfl rfl rfl rfl (by kernel_rfl) ⟨⟨0, _, by simp, rfl, shows_seg _ _ _, seen_seg⟩, trivial⟩ (fun _ => rfl) ?_
  rintro v H' ⟨g, A1, c1, hg, hg7, hg7', hg24, rfl, rfl⟩
  refine ⟨rfl, ?_⟩
  have h1 := hg.left
  have h2 := hg.right
  obtain ⟨nl, hnl⟩ : ∃ n : Nat, g.left = n := ⟨g.left.toNat, by omega⟩
  obtain ⟨nr, hnr⟩ : ∃ n : Nat, g.right = n := ⟨g.right.toNat, by omega⟩
  refine JL_know (own_is 0 rfl) fun ⟨_, _, hA1, hl1⟩ => ?_
  obtain ⟨ge, hA1⟩ := own_at hA1 hl1
  have hA1' := edgs_at hA1
  refine JL_alloc rfl rfl rfl (fun _ => rfl) fun p12 => ?_
  refine JL_store 0 rfl rfl rfl rfl rfl [] rfl ?_
  refine JL_nil ?_
  (repeat' (first | refine J_seq ?_ | refine J_skip ?_ | refine J_yes rfl ?_ | refine J_no rfl ?_))
  refine J_region ?_
  refine JL_val [] (v := grV g A1 c1) (OpV_blk 0 rfl rfl rfl rfl) rfl ?_
  refine JL_callR [] (pairs_fn g hg A1 c1 ge 0 hA1' nl hnl) rfl rfl rfl rfl (by kernel_rfl) ⟨⟨1, _, by simp, rfl, shows_ownS hA1, seen_ownS hA1⟩, trivial⟩ (fun _ => rfl) ?_
  rintro v H' ⟨f, Ap, cp, hf, rfl, rfl⟩
  refine ⟨rfl, ?_⟩
  have hpM := flow_match hg hf.1 hnl hnr
  have hpN := flow_no_more hg hf hnl hnr
  have hpl := pairsL_length f nl g.edges.length
  generalize pairsL f nl g.edges.length = pl at hpM hpN hpl
  have hprng := hpM.rng
  have hpin : ∀ x ∈ pl, inB x := fun x hx => by have := hprng x hx; unfold inB; omega
  refine JL_all [] rfl ?_
  refine J_know (own_is 0 rfl) fun ⟨_, _, hAp, hp1⟩ => ?_
  obtain ⟨gp, hAp⟩ := own_at hAp hp1
  (repeat' (first | refine J_seq ?_ | refine J_skip ?_ | refine J_yes rfl ?_ | refine J_no rfl ?_))
  refine J_region ?_
  refine JL_all [] rfl ?_
  (repeat' (first | refine J_seq ?_ | refine J_skip ?_ | refine J_yes rfl ?_ | refine J_no rfl ?_))
  refine J_region ?_
  refine JL_all [] rfl ?_
  (repeat' (first | refine J_seq ?_ | refine J_skip ?_ | refine J_yes rfl ?_ | refine J_no rfl ?_))
  refine J_block ?_
  refine J_addnil 3 1 ?_
  refine J_loop (σ := Nat × Option Addr × Nat × List Int) (fun s => [(16, .int .i64 s.1), (15, .slice s.2.1 s.2.2.2.length s.2.2.1), (13, .slice Ap pl.length cp), (12, .pointer (some ⟨p12, 0, none⟩)), (2, .int .i64 take), (3, .int .i64 left), (4, .int .i64 right)])
    (fun s => [.own (.slice s.2.1 s.2.2.2.length s.2.2.1) 3 1 s.2.2.2.length (ints s.2.2.2), .own (.slice Ap pl.length cp) 3 1 pl.length (ints pl), blk p12 64 (grC g A1 c1), .own (.slice A1 g.edges.length c1) 66 2 g.edges.length (edgs g.edges)])
    (fun s => s.1 ≤ pl.length ∧ s.2.2.2.Sublist (pl.take s.1)) (fun s => pl.length - s.1) (0, none, 0, []) [0, 1, 2, 3] ⟨rfl, rfl, rfl, rfl, rfl, rfl, rfl, trivial⟩ (by decide) rfl ⟨Nat.zero_le _, by simp⟩ ?_
  rintro ⟨i, Am, cm, m⟩ ⟨hi, hsub⟩
  simp only at hi hsub ⊢
  have hml : m.length ≤ i := by have := hsub.length_le; rw [List.length_take] at this; omega
  (repeat' (first | refine J_seq ?_ | refine J_skip ?_ | refine J_yes rfl ?_ | refine J_no rfl ?_))
  refine J_region ?_
  refine JL_all [] rfl ?_
  refine J_dec rfl (fun hlt => J_skip ?_) (fun hge => J_exit ?_)
  · have hlt : i < pl.length := by omega
    obtain ⟨x, hx⟩ : ∃ x, pl[i]? = some x := ⟨pl[i], List.getElem?_eq_getElem hlt⟩
    have htk : pl.take (i + 1) = pl.take i ++ [x] := by rw [List.take_add_one, hx]; rfl
    have hne : pl ≠ [] := by intro h0; rw [h0] at hlt; simp at hlt
    obtain rfl := ints_at hAp hne
    refine J_seq (J_block ?_)
    (repeat' (first | refine J_seq ?_ | refine J_skip ?_ | refine J_yes rfl ?_ | refine J_no rfl ?_))
    refine J_region ?_
    refine JL_run [] rfl ?_
    refine JL_set 42 (v' := .int .i64 ((i % 20 : Nat) : Int)) rfl (congrArg (Value.int .i64) (by rw [Int.tmod_eq_emod_of_nonneg (by omega)]; rfl)) ?_
    refine JL_val [] (OpV_shr rfl rfl rfl) rfl ?_
    refine JL_all [] rfl ?_
    refine J_dec rfl (fun hbit => ?_) (fun hbit => J_skip ?_)
    · refine J_region (JL_run [] rfl ?_)
      refine JL_val [] (idx1z rfl rfl rfl rfl rfl hlt) rfl ?_
      refine JL_val [] (OpV_own 1 rfl rfl rfl (readT_int' hx)) rfl ?_
      refine JL_lit rfl rfl rfl rfl rfl rfl rfl (fun _ => rfl) fun gx => ?_
      refine JL_appendS (off := 0) (m := 1) (news := ints [x]) 1 0 rfl rfl rfl rfl rfl rfl (by decide) rfl rfl (shows_blk gx _ _ (0, 0)) (fun _ => rfl) rfl rfl (by omega) (by omega) (fun _ _ => rfl) fun Ad cd => ?_
      refine JL_all [] rfl ?_
      (repeat' (first | refine J_seq ?_ | refine J_skip ?_ | refine J_yes rfl ?_ | refine J_no rfl ?_))
      refine J_region ?_
      refine JL_all [] rfl ?_
      refine ⟨(i + 1, Ad, cd, m ++ [x]), [1, 2, 3, 4], ⟨?_, ?_, rfl, rfl, rfl, rfl, rfl, trivial⟩, by decide, ?_, ⟨by simp only; omega, by simp only; rw [htk]; exact hsub.append (List.Sublist.refl _)⟩, by simp only; omega⟩
      · show some (Value.int .i64 (IntKind.i64.wrap ((i : Int) + 1))) = _
        rw [w64 (by omega)]; rfl
      · simp only [List.length_append, List.length_singleton]; rfl
      · simp only [List.length_append, List.length_singleton, show ints (m ++ [x]) = ints m ++ ints [x] by simp [ints]]; rfl
    · (repeat' (first | refine J_seq ?_ | refine J_skip ?_ | refine J_yes rfl ?_ | refine J_no rfl ?_))
      refine J_region ?_
      refine JL_all [] rfl ?_
      refine ⟨(i + 1, Am, cm, m), [0, 1, 2, 3], ⟨?_, rfl, rfl, rfl, rfl, rfl, rfl, trivial⟩, by decide, rfl, ⟨by simp only; omega, by simp only; rw [htk]; exact hsub.trans (List.sublist_append_left _ _)⟩, by simp only; omega⟩
      show some (Value.int .i64 (IntKind.i64.wrap ((i : Int) + 1))) = _
      rw [w64 (by omega)]; rfl
  · obtain rfl : i = pl.length := by omega
    rw [List.take_length] at hsub
    have hmM := hpM.sub hsub
    refine J_know (own_is 0 rfl) fun ⟨_, _, hAm, hm1⟩ => ?_
    obtain ⟨gm, hAm⟩ := own_at hAm hm1
    (repeat' (first | refine J_seq ?_ | refine J_skip ?_ | refine J_yes rfl ?_ | refine J_no rfl ?_))
    refine J_region ?_
    refine JL_val [] (v := grV g A1 c1) (OpV_blk 2 rfl rfl rfl rfl) rfl ?_
    refine JL_run [] rfl ?_
    refine JL_callR [] (cof_fn g hg A1 c1 ge 0 hA1' m (by omega) (fun x hx => hpin x (hsub.mem hx)) Am cm gm 0 (ints_at hAm)) rfl rfl rfl rfl (by kernel_rfl) ⟨⟨3, _, by simp, rfl, shows_ownS hA1, seen_ownS hA1⟩, ⟨0, _, by simp, rfl, shows_ownS hAm, seen_ownS hAm⟩, trivial⟩ (fun _ => rfl) ?_
    rintro v H' (⟨_, hno, sl1, sr1, Al1, Ar1, cl1, cr1, i1, i2, i3, i4, rfl, rfl⟩ | ⟨_, ⟨w, hw, hw'⟩, rfl, rfl⟩ | ⟨hMn, _, _⟩)
    rotate_left
    · have hne : m.length ≠ pl.length := fun h => by
        have := hsub.eq_of_length h
        subst this
        exact hw' (hpN w hw)
      refine ⟨rfl, ?_⟩
      refine JL_run [] rfl ?_
      refine JL_alloc rfl rfl rfl (fun _ => rfl) fun p17 => ?_
      refine JL_store 0 rfl rfl rfl rfl rfl [] rfl ?_
      refine JL_all [] rfl ?_
      (repeat' (first | refine J_seq ?_ | refine J_skip ?_ | refine J_yes rfl ?_ | refine J_no rfl ?_))
      refine J_region ?_
      refine JL_run [] rfl ?_
      refine JL_set 67 (v' := .bool false) rfl (congrArg Value.bool (by rw [cdec_no (by decide), cdec_no (by omega)]; rfl)) ?_
      refine JL_run [8] rfl ?_
      refine JL_set 70 (v' := .bool true) rfl (congrArg Value.bool (cdec_yes (by decide))) ?_
      refine JL_run [11] rfl ?_
      refine JL_set 73 (v' := .bool false) rfl (congrArg Value.bool (cdec_no (by decide))) ?_
      refine JL_run [14] rfl ?_
      refine JL_val [14] (OpV_blk 0 rfl rfl rfl rfl) rfl ?_
      refine JL_run [14] rfl ?_
      refine JL_val [14] (OpV_blk 0 rfl rfl rfl rfl) rfl ?_
      refine JL_run [14] rfl ?_
      refine JL_run [11] rfl ?_
      refine JL_run [8] rfl ?_
      refine JL_set 84 (v' := .bool false) rfl (congrArg Value.bool (cdec_no (by decide))) ?_
      refine JL_nil ?_
      refine J_no rfl (J_skip ?_)
      refine J_fit (Fit.picks [3, 1, 2, 4] (by decide) rfl) ?_
      (repeat' (first | refine J_seq ?_ | refine J_skip ?_ | refine J_yes rfl ?_ | refine J_no rfl ?_))
      refine J_region ?_
      refine JL_alloc rfl rfl rfl (fun _ => rfl) fun p19 => ?_
      refine JL_nil ?_
      (repeat' (first | refine J_seq ?_ | refine J_skip ?_ | refine J_yes rfl ?_ | refine J_no rfl ?_))
      refine J_region ?_
      refine JL_all [] rfl ?_
      (repeat' (first | refine J_seq ?_ | refine J_skip ?_ | refine J_yes rfl ?_ | refine J_no rfl ?_))
      refine J_block ?_
      refine J_addnil 3 1 ?_
      refine J_loop (σ := Nat × Option Addr × Nat × List Int) (fun s => [(20, .int .i64 s.1), (19, .pointer (some ⟨p19, 0, none⟩)), (12, .pointer (some ⟨p12, 0, none⟩)), (13, .slice Ap pl.length cp), (15, .slice Am m.length cm), (3, .int .i64 left), (4, .int .i64 right)])
        (fun s => [.own (.slice s.2.1 s.2.2.2.length s.2.2.1) 3 1 s.2.2.2.length (ints s.2.2.2), blk p19 76 [.slice s.2.1 s.2.2.2.length s.2.2.1, .slice none 0 0], blk p12 64 (grC g A1 c1), .own (.slice Am m.length cm) 3 1 m.length (ints m), .own (.slice Ap pl.length cp) 3 1 pl.length (ints pl), .own (.slice A1 g.edges.length c1) 66 2 g.edges.length (edgs g.edges)])
        (fun s => 1 ≤ s.1 ∧ s.1 ≤ nl + 1 ∧ IsSide ((s.1 : Int) - 1) s.2.2.2 ∧ s.2.2.2.length ≤ s.1) (fun s => nl + 1 - s.1) (1, none, 0, []) [0, 1, 2, 3, 4, 5] ⟨rfl, rfl, rfl, rfl, rfl, rfl, rfl, trivial⟩ (by decide) rfl ⟨Nat.le_refl _, by simp only; omega, ⟨by simp, by simp⟩, by simp⟩ ?_
      rintro ⟨v, Ab, cb, row⟩ ⟨hv1, hvn, hrow, hrl⟩
      simp only at hv1 hvn hrow hrl ⊢
      (repeat' (first | refine J_seq ?_ | refine J_skip ?_ | refine J_yes rfl ?_ | refine J_no rfl ?_))
      refine J_region ?_
      refine JL_run [] rfl ?_
      refine JL_val [] (OpV_blk 2 rfl rfl rfl rfl) rfl ?_
      refine JL_all [] rfl ?_
      refine J_dec rfl (fun hle => J_skip ?_) (fun hgt => J_exit ?_)
      · have hle' : v ≤ nl := by omega
        have hnx : IsSide (((v + 1 : Nat) : Int) - 1) row := ⟨hrow.rise, fun x hx => by have := hrow.rng x hx; omega⟩
        have hnx2 : IsSide (((v + 1 : Nat) : Int) - 1) (row ++ [(v : Int)]) := IsSide.snoc.2 ⟨hnx, fun y hy => by have := hrow.rng y hy; omega, by omega, by omega⟩
        refine J_seq (J_block ?_)
        (repeat' (first | refine J_seq ?_ | refine J_skip ?_ | refine J_yes rfl ?_ | refine J_no rfl ?_))
        refine J_region ?_
        refine JL_run [] rfl ?_
        refine JL_set 93 (v' := .int .i64 ((v % 20 : Nat) : Int)) rfl (congrArg (Value.int .i64) (by rw [Int.tmod_eq_emod_of_nonneg (by omega)]; rfl)) ?_
        refine JL_val [] (OpV_shr rfl rfl rfl) rfl ?_
        refine JL_all [] rfl ?_
        refine J_dec rfl (fun hbit => ?_) (fun hbit => J_skip ?_)
        · refine J_region (JL_run [] rfl ?_)
          refine JL_val [] (OpV_blk 1 rfl rfl rfl rfl) rfl ?_
          refine JL_run [] rfl ?_
          refine JL_lit rfl rfl rfl rfl rfl rfl rfl (fun _ => rfl) fun gx => ?_
          refine JL_appendS (off := 0) (m := 1) (news := ints [(v : Int)]) 1 0 rfl rfl rfl rfl rfl rfl (by decide) rfl rfl (shows_blk gx _ _ (0, 0)) (fun _ => rfl) rfl rfl (by omega) (by omega) (fun _ _ => rfl) fun Ad cd => ?_
          refine JL_run [] rfl ?_
          refine JL_store 2 rfl rfl rfl rfl rfl [] rfl ?_
          refine JL_nil ?_
          (repeat' (first | refine J_seq ?_ | refine J_skip ?_ | refine J_yes rfl ?_ | refine J_no rfl ?_))
          refine J_region ?_
          refine JL_all [] rfl ?_
          refine ⟨(v + 1, Ad, cd, row ++ [(v : Int)]), [1, 2, 3, 4, 5, 6], ⟨?_, rfl, rfl, rfl, rfl, rfl, rfl, trivial⟩, by decide, ?_, ⟨by simp only; omega, by simp only; omega, hnx2, by simp only [List.length_append, List.length_singleton]; omega⟩, by simp only; omega⟩
          · show some (Value.int .i64 (IntKind.i64.wrap ((v : Int) + 1))) = _
            rw [w64 (by omega)]; rfl
          · simp only [List.length_append, List.length_singleton, show ints (row ++ [(v : Int)]) = ints row ++ ints [(v : Int)] by simp [ints]]; rfl
        · (repeat' (first | refine J_seq ?_ | refine J_skip ?_ | refine J_yes rfl ?_ | refine J_no rfl ?_))
          refine J_region ?_
          refine JL_all [] rfl ?_
          refine ⟨(v + 1, Ab, cb, row), [0, 1, 2, 3, 4, 5], ⟨?_, rfl, rfl, rfl, rfl, rfl, rfl, trivial⟩, by decide, rfl, ⟨by simp only; omega, by simp only; omega, hnx, by simp only; omega⟩, by simp only; omega⟩
          show some (Value.int .i64 (IntKind.i64.wrap ((v : Int) + 1))) = _
          rw [w64 (by omega)]; rfl
      · obtain rfl : v = nl + 1 := by omega
        obtain ⟨Al, cl, sl, hsl, hsll, e1, e2, e3⟩ : ∃ Al cl sl, IsSide g.left sl ∧ sl.length ≤ nl + 1 ∧ Al = Ab ∧ cl = cb ∧ sl = row := ⟨Ab, cb, row, ⟨hrow.rise, fun x hx => by have := hrow.rng x hx; omega⟩, hrl, rfl, rfl, rfl⟩
        subst e1 e2 e3
        clear hrow hrl hv1 hvn hgt
        (repeat' (first | refine J_seq ?_ | refine J_skip ?_ | refine J_yes rfl ?_ | refine J_no rfl ?_))
        refine J_region ?_
        refine JL_all [] rfl ?_
        (repeat' (first | refine J_seq ?_ | refine J_skip ?_ | refine J_yes rfl ?_ | refine J_no rfl ?_))
        refine J_block ?_
        refine J_addnil 3 1 ?_
        refine J_loop (σ := Nat × Option Addr × Nat × List Int) (fun s => [(21, .int .i64 s.1), (19, .pointer (some ⟨p19, 0, none⟩)), (12, .pointer (some ⟨p12, 0, none⟩)), (13, .slice Ap pl.length cp), (15, .slice Am m.length cm), (3, .int .i64 left), (4, .int .i64 right)])
          (fun s => [.own (.slice s.2.1 s.2.2.2.length s.2.2.1) 3 1 s.2.2.2.length (ints s.2.2.2), .own (.slice Al sl.length cl) 3 1 sl.length (ints sl), blk p19 76 [.slice Al sl.length cl, .slice s.2.1 s.2.2.2.length s.2.2.1], blk p12 64 (grC g A1 c1), .own (.slice Am m.length cm) 3 1 m.length (ints m), .own (.slice Ap pl.length cp) 3 1 pl.length (ints pl), .own (.slice A1 g.edges.length c1) 66 2 g.edges.length (edgs g.edges)])
          (fun s => 1 ≤ s.1 ∧ s.1 ≤ nr + 1 ∧ IsSide ((s.1 : Int) - 1) s.2.2.2 ∧ s.2.2.2.length ≤ s.1) (fun s => nr + 1 - s.1) (1, none, 0, []) [0, 1, 2, 3, 4, 5, 6] ⟨rfl, rfl, rfl, rfl, rfl, rfl, rfl, trivial⟩ (by decide) rfl ⟨Nat.le_refl _, by simp only; omega, ⟨by simp, by simp⟩, by simp⟩ ?_
        rintro ⟨v, Ab, cb, row⟩ ⟨hv1, hvn, hrow, hrl⟩
        simp only at hv1 hvn hrow hrl ⊢
        (repeat' (first | refine J_seq ?_ | refine J_skip ?_ | refine J_yes rfl ?_ | refine J_no rfl ?_))
        refine J_region ?_
        refine JL_run [] rfl ?_
        refine JL_val [] (OpV_blk 3 rfl rfl rfl rfl) rfl ?_
        refine JL_all [] rfl ?_
        refine J_dec rfl (fun hle => J_skip ?_) (fun hgt => J_exit ?_)
        · have hle' : v ≤ nr := by omega
          have hnx : IsSide (((v + 1 : Nat) : Int) - 1) row := ⟨hrow.rise, fun x hx => by have := hrow.rng x hx; omega⟩
          have hnx2 : IsSide (((v + 1 : Nat) : Int) - 1) (row ++ [(v : Int)]) := IsSide.snoc.2 ⟨hnx, fun y hy => by have := hrow.rng y hy; omega, by omega, by omega⟩
          refine J_seq (J_block ?_)
          (repeat' (first | refine J_seq ?_ | refine J_skip ?_ | refine J_yes rfl ?_ | refine J_no rfl ?_))
          refine J_region ?_
          refine JL_run [] rfl ?_
          refine JL_set 111 (v' := .int .i64 ((v % 20 : Nat) : Int)) rfl (congrArg (Value.int .i64) (by rw [Int.tmod_eq_emod_of_nonneg (by omega)]; rfl)) ?_
          refine JL_val [] (OpV_shr rfl rfl rfl) rfl ?_
          refine JL_all [] rfl ?_
          refine J_dec rfl (fun hbit => ?_) (fun hbit => J_skip ?_)
          · refine J_region (JL_run [] rfl ?_)
            refine JL_val [] (OpV_blk 2 rfl rfl rfl rfl) rfl ?_
            refine JL_run [] rfl ?_
            refine JL_lit rfl rfl rfl rfl rfl rfl rfl (fun _ => rfl) fun gx => ?_
            refine JL_appendS (off := 0) (m := 1) (news := ints [(v : Int)]) 1 0 rfl rfl rfl rfl rfl rfl (by decide) rfl rfl (shows_blk gx _ _ (0, 0)) (fun _ => rfl) rfl rfl (by omega) (by omega) (fun _ _ => rfl) fun Ad cd => ?_
            refine JL_run [] rfl ?_
            refine JL_store 3 rfl rfl rfl rfl rfl [] rfl ?_
            refine JL_nil ?_
            (repeat' (first | refine J_seq ?_ | refine J_skip ?_ | refine J_yes rfl ?_ | refine J_no rfl ?_))
            refine J_region ?_
            refine JL_all [] rfl ?_
            refine ⟨(v + 1, Ad, cd, row ++ [(v : Int)]), [1, 2, 3, 4, 5, 6, 7], ⟨?_, rfl, rfl, rfl, rfl, rfl, rfl, trivial⟩, by decide, ?_, ⟨by simp only; omega, by simp only; omega, hnx2, by simp only [List.length_append, List.length_singleton]; omega⟩, by simp only; omega⟩
            · show some (Value.int .i64 (IntKind.i64.wrap ((v : Int) + 1))) = _
              rw [w64 (by omega)]; rfl
            · simp only [List.length_append, List.length_singleton, show ints (row ++ [(v : Int)]) = ints row ++ ints [(v : Int)] by simp [ints]]; rfl
          · (repeat' (first | refine J_seq ?_ | refine J_skip ?_ | refine J_yes rfl ?_ | refine J_no rfl ?_))
            refine J_region ?_
            refine JL_all [] rfl ?_
            refine ⟨(v + 1, Ab, cb, row), [0, 1, 2, 3, 4, 5, 6], ⟨?_, rfl, rfl, rfl, rfl, rfl, rfl, trivial⟩, by decide, rfl, ⟨by simp only; omega, by simp only; omega, hnx, by simp only; omega⟩, by simp only; omega⟩
            show some (Value.int .i64 (IntKind.i64.wrap ((v : Int) + 1))) = _
            rw [w64 (by omega)]; rfl
        · obtain rfl : v = nr + 1 := by omega
          obtain ⟨Ar, cr, sr, hsr, hsrl, e1, e2, e3⟩ : ∃ Ar cr sr, IsSide g.right sr ∧ sr.length ≤ nr + 1 ∧ Ar = Ab ∧ cr = cb ∧ sr = row := ⟨Ab, cb, row, ⟨hrow.rise, fun x hx => by have := hrow.rng x hx; omega⟩, hrl, rfl, rfl, rfl⟩
          subst e1 e2 e3
          clear hrow hrl hv1 hvn hgt
          (repeat' (first | refine J_seq ?_ | refine J_skip ?_ | refine J_yes rfl ?_ | refine J_no rfl ?_))
          refine J_region ?_
          refine JL_know (own_is 0 rfl) fun ⟨_, _, hAr, hr1⟩ => ?_
          obtain ⟨gr, hAr⟩ := own_at hAr hr1
          refine JL_know (own_is 1 rfl) fun ⟨_, _, hAl, hl1⟩ => ?_
          obtain ⟨gl, hAl⟩ := own_at hAl hl1
          refine JL_val [] (v := grV g A1 c1) (OpV_blk 3 rfl rfl rfl rfl) rfl ?_
          refine JL_val [] (v := setV sl sr Al Ar cl cr) (OpV_blk 2 rfl rfl rfl rfl) rfl ?_
          refine JL_callR [] (covers_fn g hg A1 c1 ge 0 hA1' sl (by omega) Al cl gl 0 (ints_at hAl) sr (by omega) Ar cr gr 0 (ints_at hAr)) rfl rfl rfl rfl (by kernel_rfl) ⟨⟨6, _, by simp, rfl, shows_ownS hA1, seen_ownS hA1⟩, ⟨1, _, by simp, rfl, shows_ownS hAl, seen_ownS hAl⟩, ⟨0, _, by simp, rfl, shows_ownS hAr, seen_ownS hAr⟩, trivial⟩ (fun _ => rfl) ?_
          rintro v H' ⟨rfl, rfl⟩
          refine ⟨rfl, ?_⟩
          by_cases hC : IsCover g sl sr
          rotate_left
          · have hz : proveZ g pl sl sr = 1 := by unfold proveZ; rw [cdec_no (fun h => hC h.2)]; rfl
            refine JL_run [] rfl ?_
            refine JL_set 124 (v' := .bool true) rfl (congrArg Value.bool (by rw [cdec_no hC]; rfl)) ?_
            refine JL_nil ?_
            refine J_yes rfl ?_
            (repeat' (first | refine J_seq ?_ | refine J_skip ?_ | refine J_yes rfl ?_ | refine J_no rfl ?_))
            refine J_region ?_
            refine JL_val [] (v := grV g A1 c1) (OpV_blk 3 rfl rfl rfl rfl) rfl ?_
            refine JL_run [] rfl ?_
            refine JL_val [] (v := setV sl sr Al Ar cl cr) (OpV_blk 2 rfl rfl rfl rfl) rfl ?_
            refine JL_callR [] (cprove_fn g hg A1 c1 ge 0 hA1' pl (by omega) hpin Ap cp gp 0 (ints_at hAp) sl (by omega) Al cl gl 0 (ints_at hAl) sr (by omega) Ar cr gr 0 (ints_at hAr)) rfl rfl rfl rfl (by kernel_rfl) ⟨⟨6, _, by simp, rfl, shows_ownS hA1, seen_ownS hA1⟩, ⟨5, _, by simp, rfl, shows_ownS hAp, seen_ownS hAp⟩, ⟨1, _, by simp, rfl, shows_ownS hAl, seen_ownS hAl⟩, ⟨0, _, by simp, rfl, shows_ownS hAr, seen_ownS hAr⟩, trivial⟩ (fun _ => rfl) ?_
            rintro v H' ⟨rfl, rfl⟩
            refine ⟨rfl, ?_⟩
            refine JL_all [] rfl ?_
            exact J_ret ⟨_, rfl, congrArg Value.bool (cdec_yes hz)⟩
          have hm1 := cover_most hpM hC
          have hm2 := cover_most hmM hC
          refine JL_run [] rfl ?_
          refine JL_set 124 (v' := .bool false) rfl (congrArg Value.bool (by rw [cdec_yes hC]; rfl)) ?_
          refine JL_nil ?_
          refine J_no rfl (J_skip ?_)
          (repeat' (first | refine J_seq ?_ | refine J_skip ?_ | refine J_yes rfl ?_ | refine J_no rfl ?_))
          refine J_region ?_
          refine JL_run [] rfl ?_
          refine JL_val [] (OpV_blk 2 rfl rfl rfl rfl) rfl ?_
          refine JL_run [] rfl ?_
          refine JL_val [] (OpV_blk 2 rfl rfl rfl rfl) rfl ?_
          refine JL_all [] rfl ?_
          refine J_set 22 (v' := .int .i64 ((sl.length + sr.length : Nat) : Int)) rfl (congrArg (Value.int .i64) ((w64 (by omega)).trans (by omega))) ?_
          (repeat' (first | refine J_seq ?_ | refine J_skip ?_ | refine J_yes rfl ?_ | refine J_no rfl ?_))
          refine J_region ?_
          refine JL_run [] rfl ?_
          refine JL_set 141 (v' := .bool true) rfl (congrArg Value.bool (cdec_yes (by omega))) ?_
          refine JL_run [4] rfl ?_
          refine JL_set 147 (v' := .bool true) rfl (congrArg Value.bool (cdec_yes (by omega))) ?_
          refine JL_val [10] (v := grV g A1 c1) (OpV_blk 3 rfl rfl rfl rfl) rfl ?_
          refine JL_run [10] rfl ?_
          refine JL_val [10] (v := setV sl sr Al Ar cl cr) (OpV_blk 2 rfl rfl rfl rfl) rfl ?_
          refine JL_callR [10] (cprove_fn g hg A1 c1 ge 0 hA1' m (by omega) (fun x hx => hpin x (hsub.mem hx)) Am cm gm 0 (ints_at hAm) sl (by omega) Al cl gl 0 (ints_at hAl) sr (by omega) Ar cr gr 0 (ints_at hAr)) rfl rfl rfl rfl (by kernel_rfl) ⟨⟨6, _, by simp, rfl, shows_ownS hA1, seen_ownS hA1⟩, ⟨4, _, by simp, rfl, shows_ownS hAm, seen_ownS hAm⟩, ⟨1, _, by simp, rfl, shows_ownS hAl, seen_ownS hAl⟩, ⟨0, _, by simp, rfl, shows_ownS hAr, seen_ownS hAr⟩, trivial⟩ (fun _ => rfl) ?_
          rintro v H' ⟨rfl, rfl⟩
          refine ⟨rfl, ?_⟩
          refine JL_all [10] rfl ?_
          refine J_ret ⟨_, rfl, congrArg Value.bool ?_⟩
          have hz : proveZ g m sl sr = if sl.length + sr.length = m.length then 0 else 8 := by unfold proveZ; rw [cdec_yes ⟨hmM, hC⟩, if_pos rfl]
          by_cases he : sl.length + sr.length = m.length
          · rw [cdec_yes (show proveZ g m sl sr = 0 by rw [hz, if_pos he]), cdec_yes (by omega)]; rfl
          · rw [cdec_no (show ¬ proveZ g m sl sr = 0 by rw [hz, if_neg he]; decide), cdec_no (by omega)]; rfl
    · exact absurd hmM hMn
    obtain ⟨hC1, hlen1⟩ := of_cover hg hmM hno i1 i2 i3 i4
    have hml2 : m.length = pl.length := by have := cover_most hpM hC1; have := hsub.length_le; omega
    refine ⟨rfl, ?_⟩
    refine JL_run [] rfl ?_
    refine JL_alloc rfl rfl rfl (fun _ => rfl) fun p17 => ?_
    refine JL_store 0 rfl rfl rfl rfl rfl [] rfl ?_
    refine JL_all [] rfl ?_
    (repeat' (first | refine J_seq ?_ | refine J_skip ?_ | refine J_yes rfl ?_ | refine J_no rfl ?_))
    refine J_region ?_
    refine JL_run [] rfl ?_
    refine JL_set 67 (v' := .bool false) rfl (congrArg Value.bool (by rw [cdec_yes rfl, cdec_yes (by omega)]; rfl)) ?_
    refine JL_run [8] rfl ?_
    refine JL_set 70 (v' := .bool false) rfl (congrArg Value.bool (cdec_no (by decide))) ?_
    refine JL_all [8, 11, 14] rfl ?_
    refine J_no rfl (J_skip ?_)
    refine J_fit (Fit.picks [5, 3, 4, 6] (by decide) rfl) ?_
    (repeat' (first | refine J_seq ?_ | refine J_skip ?_ | refine J_yes rfl ?_ | refine J_no rfl ?_))
    refine J_region ?_
    refine JL_alloc rfl rfl rfl (fun _ => rfl) fun p19 => ?_
    refine JL_nil ?_
    (repeat' (first | refine J_seq ?_ | refine J_skip ?_ | refine J_yes rfl ?_ | refine J_no rfl ?_))
    refine J_region ?_
    refine JL_all [] rfl ?_
    (repeat' (first | refine J_seq ?_ | refine J_skip ?_ | refine J_yes rfl ?_ | refine J_no rfl ?_))
    refine J_block ?_
    refine J_addnil 3 1 ?_
    refine J_loop (σ := Nat × Option Addr × Nat × List Int) (fun s => [(20, .int .i64 s.1), (19, .pointer (some ⟨p19, 0, none⟩)), (12, .pointer (some ⟨p12, 0, none⟩)), (13, .slice Ap pl.length cp), (15, .slice Am m.length cm), (3, .int .i64 left), (4, .int .i64 right)])
      (fun s => [.own (.slice s.2.1 s.2.2.2.length s.2.2.1) 3 1 s.2.2.2.length (ints s.2.2.2), blk p19 76 [.slice s.2.1 s.2.2.2.length s.2.2.1, .slice none 0 0], blk p12 64 (grC g A1 c1), .own (.slice Am m.length cm) 3 1 m.length (ints m), .own (.slice Ap pl.length cp) 3 1 pl.length (ints pl), .own (.slice A1 g.edges.length c1) 66 2 g.edges.length (edgs g.edges)])
      (fun s => 1 ≤ s.1 ∧ s.1 ≤ nl + 1 ∧ IsSide ((s.1 : Int) - 1) s.2.2.2 ∧ s.2.2.2.length ≤ s.1) (fun s => nl + 1 - s.1) (1, none, 0, []) [0, 1, 2, 3, 4, 5] ⟨rfl, rfl, rfl, rfl, rfl, rfl, rfl, trivial⟩ (by decide) rfl ⟨Nat.le_refl _, by simp only; omega, ⟨by simp, by simp⟩, by simp⟩ ?_
    rintro ⟨v, Ab, cb, row⟩ ⟨hv1, hvn, hrow, hrl⟩
    simp only at hv1 hvn hrow hrl ⊢
    (repeat' (first | refine J_seq ?_ | refine J_skip ?_ | refine J_yes rfl ?_ | refine J_no rfl ?_))
    refine J_region ?_
    refine JL_run [] rfl ?_
    refine JL_val [] (OpV_blk 2 rfl rfl rfl rfl) rfl ?_
    refine JL_all [] rfl ?_
    refine J_dec rfl (fun hle => J_skip ?_) (fun hgt => J_exit ?_)
    · have hle' : v ≤ nl := by omega
      have hnx : IsSide (((v + 1 : Nat) : Int) - 1) row := ⟨hrow.rise, fun x hx => by have := hrow.rng x hx; omega⟩
      have hnx2 : IsSide (((v + 1 : Nat) : Int) - 1) (row ++ [(v : Int)]) := IsSide.snoc.2 ⟨hnx, fun y hy => by have := hrow.rng y hy; omega, by omega, by omega⟩
      refine J_seq (J_block ?_)
      (repeat' (first | refine J_seq ?_ | refine J_skip ?_ | refine J_yes rfl ?_ | refine J_no rfl ?_))
      refine J_region ?_
      refine JL_run [] rfl ?_
      refine JL_set 93 (v' := .int .i64 ((v % 20 : Nat) : Int)) rfl (congrArg (Value.int .i64) (by rw [Int.tmod_eq_emod_of_nonneg (by omega)]; rfl)) ?_
      refine JL_val [] (OpV_shr rfl rfl rfl) rfl ?_
      refine JL_all [] rfl ?_
      refine J_dec rfl (fun hbit => ?_) (fun hbit => J_skip ?_)
      · refine J_region (JL_run [] rfl ?_)
        refine JL_val [] (OpV_blk 1 rfl rfl rfl rfl) rfl ?_
        refine JL_run [] rfl ?_
        refine JL_lit rfl rfl rfl rfl rfl rfl rfl (fun _ => rfl) fun gx => ?_
        refine JL_appendS (off := 0) (m := 1) (news := ints [(v : Int)]) 1 0 rfl rfl rfl rfl rfl rfl (by decide) rfl rfl (shows_blk gx _ _ (0, 0)) (fun _ => rfl) rfl rfl (by omega) (by omega) (fun _ _ => rfl) fun Ad cd => ?_
        refine JL_run [] rfl ?_
        refine JL_store 2 rfl rfl rfl rfl rfl [] rfl ?_
        refine JL_nil ?_
        (repeat' (first | refine J_seq ?_ | refine J_skip ?_ | refine J_yes rfl ?_ | refine J_no rfl ?_))
        refine J_region ?_
        refine JL_all [] rfl ?_
        refine ⟨(v + 1, Ad, cd, row ++ [(v : Int)]), [1, 2, 3, 4, 5, 6], ⟨?_, rfl, rfl, rfl, rfl, rfl, rfl, trivial⟩, by decide, ?_, ⟨by simp only; omega, by simp only; omega, hnx2, by simp only [List.length_append, List.length_singleton]; omega⟩, by simp only; omega⟩
        · show some (Value.int .i64 (IntKind.i64.wrap ((v : Int) + 1))) = _
          rw [w64 (by omega)]; rfl
        · simp only [List.length_append, List.length_singleton, show ints (row ++ [(v : Int)]) = ints row ++ ints [(v : Int)] by simp [ints]]; rfl
      · (repeat' (first | refine J_seq ?_ | refine J_skip ?_ | refine J_yes rfl ?_ | refine J_no rfl ?_))
        refine J_region ?_
        refine JL_all [] rfl ?_
        refine ⟨(v + 1, Ab, cb, row), [0, 1, 2, 3, 4, 5], ⟨?_, rfl, rfl, rfl, rfl, rfl, rfl, trivial⟩, by decide, rfl, ⟨by simp only; omega, by simp only; omega, hnx, by simp only; omega⟩, by simp only; omega⟩
        show some (Value.int .i64 (IntKind.i64.wrap ((v : Int) + 1))) = _
        rw [w64 (by omega)]; rfl
    · obtain rfl : v = nl + 1 := by omega
      obtain ⟨Al, cl, sl, hsl, hsll, e1, e2, e3⟩ : ∃ Al cl sl, IsSide g.left sl ∧ sl.length ≤ nl + 1 ∧ Al = Ab ∧ cl = cb ∧ sl = row := ⟨Ab, cb, row, ⟨hrow.rise, fun x hx => by have := hrow.rng x hx; omega⟩, hrl, rfl, rfl, rfl⟩
      subst e1 e2 e3
      clear hrow hrl hv1 hvn hgt
      (repeat' (first | refine J_seq ?_ | refine J_skip ?_ | refine J_yes rfl ?_ | refine J_no rfl ?_))
      refine J_region ?_
      refine JL_all [] rfl ?_
      (repeat' (first | refine J_seq ?_ | refine J_skip ?_ | refine J_yes rfl ?_ | refine J_no rfl ?_))
      refine J_block ?_
      refine J_addnil 3 1 ?_
      refine J_loop (σ := Nat × Option Addr × Nat × List Int) (fun s => [(21, .int .i64 s.1), (19, .pointer (some ⟨p19, 0, none⟩)), (12, .pointer (some ⟨p12, 0, none⟩)), (13, .slice Ap pl.length cp), (15, .slice Am m.length cm), (3, .int .i64 left), (4, .int .i64 right)])
        (fun s => [.own (.slice s.2.1 s.2.2.2.length s.2.2.1) 3 1 s.2.2.2.length (ints s.2.2.2), .own (.slice Al sl.length cl) 3 1 sl.length (ints sl), blk p19 76 [.slice Al sl.length cl, .slice s.2.1 s.2.2.2.length s.2.2.1], blk p12 64 (grC g A1 c1), .own (.slice Am m.length cm) 3 1 m.length (ints m), .own (.slice Ap pl.length cp) 3 1 pl.length (ints pl), .own (.slice A1 g.edges.length c1) 66 2 g.edges.length (edgs g.edges)])
        (fun s => 1 ≤ s.1 ∧ s.1 ≤ nr + 1 ∧ IsSide ((s.1 : Int) - 1) s.2.2.2 ∧ s.2.2.2.length ≤ s.1) (fun s => nr + 1 - s.1) (1, none, 0, []) [0, 1, 2, 3, 4, 5, 6] ⟨rfl, rfl, rfl, rfl, rfl, rfl, rfl, trivial⟩ (by decide) rfl ⟨Nat.le_refl _, by simp only; omega, ⟨by simp, by simp⟩, by simp⟩ ?_
      rintro ⟨v, Ab, cb, row⟩ ⟨hv1, hvn, hrow, hrl⟩
      simp only at hv1 hvn hrow hrl ⊢
      (repeat' (first | refine J_seq ?_ | refine J_skip ?_ | refine J_yes rfl ?_ | refine J_no rfl ?_))
      refine J_region ?_
      refine JL_run [] rfl ?_
      refine JL_val [] (OpV_blk 3 rfl rfl rfl rfl) rfl ?_
      refine JL_all [] rfl ?_
      refine J_dec rfl (fun hle => J_skip ?_) (fun hgt => J_exit ?_)
      · have hle' : v ≤ nr := by omega
        have hnx : IsSide (((v + 1 : Nat) : Int) - 1) row := ⟨hrow.rise, fun x hx => by have := hrow.rng x hx; omega⟩
        have hnx2 : IsSide (((v + 1 : Nat) : Int) - 1) (row ++ [(v : Int)]) := IsSide.snoc.2 ⟨hnx, fun y hy => by have := hrow.rng y hy; omega, by omega, by omega⟩
        refine J_seq (J_block ?_)
        (repeat' (first | refine J_seq ?_ | refine J_skip ?_ | refine J_yes rfl ?_ | refine J_no rfl ?_))
        refine J_region ?_
        refine JL_run [] rfl ?_
        refine JL_set 111 (v' := .int .i64 ((v % 20 : Nat) : Int)) rfl (congrArg (Value.int .i64) (by rw [Int.tmod_eq_emod_of_nonneg (by omega)]; rfl)) ?_
        refine JL_val [] (OpV_shr rfl rfl rfl) rfl ?_
        refine JL_all [] rfl ?_
        refine J_dec rfl (fun hbit => ?_) (fun hbit => J_skip ?_)
        · refine J_region (JL_run [] rfl ?_)
          refine JL_val [] (OpV_blk 2 rfl rfl rfl rfl) rfl ?_
          refine JL_run [] rfl ?_
          refine JL_lit rfl rfl rfl rfl rfl rfl rfl (fun _ => rfl) fun gx => ?_
          refine JL_appendS (off := 0) (m := 1) (news := ints [(v : Int)]) 1 0 rfl rfl rfl rfl rfl rfl (by decide) rfl rfl (shows_blk gx _ _ (0, 0)) (fun _ => rfl) rfl rfl (by omega) (by omega) (fun _ _ => rfl) fun Ad cd => ?_
          refine JL_run [] rfl ?_
          refine JL_store 3 rfl rfl rfl rfl rfl [] rfl ?_
          refine JL_nil ?_
          (repeat' (first | refine J_seq ?_ | refine J_skip ?_ | refine J_yes rfl ?_ | refine J_no rfl ?_))
          refine J_region ?_
          refine JL_all [] rfl ?_
          refine ⟨(v + 1, Ad, cd, row ++ [(v : Int)]), [1, 2, 3, 4, 5, 6, 7], ⟨?_, rfl, rfl, rfl, rfl, rfl, rfl, trivial⟩, by decide, ?_, ⟨by simp only; omega, by simp only; omega, hnx2, by simp only [List.length_append, List.length_singleton]; omega⟩, by simp only; omega⟩
          · show some (Value.int .i64 (IntKind.i64.wrap ((v : Int) + 1))) = _
            rw [w64 (by omega)]; rfl
          · simp only [List.length_append, List.length_singleton, show ints (row ++ [(v : Int)]) = ints row ++ ints [(v : Int)] by simp [ints]]; rfl
        · (repeat' (first | refine J_seq ?_ | refine J_skip ?_ | refine J_yes rfl ?_ | refine J_no rfl ?_))
          refine J_region ?_
          refine JL_all [] rfl ?_
          refine ⟨(v + 1, Ab, cb, row), [0, 1, 2, 3, 4, 5, 6], ⟨?_, rfl, rfl, rfl, rfl, rfl, rfl, trivial⟩, by decide, rfl, ⟨by simp only; omega, by simp only; omega, hnx, by simp only; omega⟩, by simp only; omega⟩
          show some (Value.int .i64 (IntKind.i64.wrap ((v : Int) + 1))) = _
          rw [w64 (by omega)]; rfl
      · obtain rfl : v = nr + 1 := by omega
        obtain ⟨Ar, cr, sr, hsr, hsrl, e1, e2, e3⟩ : ∃ Ar cr sr, IsSide g.right sr ∧ sr.length ≤ nr + 1 ∧ Ar = Ab ∧ cr = cb ∧ sr = row := ⟨Ab, cb, row, ⟨hrow.rise, fun x hx => by have := hrow.rng x hx; omega⟩, hrl, rfl, rfl, rfl⟩
        subst e1 e2 e3
        clear hrow hrl hv1 hvn hgt
        (repeat' (first | refine J_seq ?_ | refine J_skip ?_ | refine J_yes rfl ?_ | refine J_no rfl ?_))
        refine J_region ?_
        refine JL_know (own_is 0 rfl) fun ⟨_, _, hAr, hr1⟩ => ?_
        obtain ⟨gr, hAr⟩ := own_at hAr hr1
        refine JL_know (own_is 1 rfl) fun ⟨_, _, hAl, hl1⟩ => ?_
        obtain ⟨gl, hAl⟩ := own_at hAl hl1
        refine JL_val [] (v := grV g A1 c1) (OpV_blk 3 rfl rfl rfl rfl) rfl ?_
        refine JL_val [] (v := setV sl sr Al Ar cl cr) (OpV_blk 2 rfl rfl rfl rfl) rfl ?_
        refine JL_callR [] (covers_fn g hg A1 c1 ge 0 hA1' sl (by omega) Al cl gl 0 (ints_at hAl) sr (by omega) Ar cr gr 0 (ints_at hAr)) rfl rfl rfl rfl (by kernel_rfl) ⟨⟨6, _, by simp, rfl, shows_ownS hA1, seen_ownS hA1⟩, ⟨1, _, by simp, rfl, shows_ownS hAl, seen_ownS hAl⟩, ⟨0, _, by simp, rfl, shows_ownS hAr, seen_ownS hAr⟩, trivial⟩ (fun _ => rfl) ?_
        rintro v H' ⟨rfl, rfl⟩
        refine ⟨rfl, ?_⟩
        by_cases hC : IsCover g sl sr
        rotate_left
        · have hz : proveZ g pl sl sr = 1 := by unfold proveZ; rw [cdec_no (fun h => hC h.2)]; rfl
          refine JL_run [] rfl ?_
          refine JL_set 124 (v' := .bool true) rfl (congrArg Value.bool (by rw [cdec_no hC]; rfl)) ?_
          refine JL_nil ?_
          refine J_yes rfl ?_
          (repeat' (first | refine J_seq ?_ | refine J_skip ?_ | refine J_yes rfl ?_ | refine J_no rfl ?_))
          refine J_region ?_
          refine JL_val [] (v := grV g A1 c1) (OpV_blk 3 rfl rfl rfl rfl) rfl ?_
          refine JL_run [] rfl ?_
          refine JL_val [] (v := setV sl sr Al Ar cl cr) (OpV_blk 2 rfl rfl rfl rfl) rfl ?_
          refine JL_callR [] (cprove_fn g hg A1 c1 ge 0 hA1' pl (by omega) hpin Ap cp gp 0 (ints_at hAp) sl (by omega) Al cl gl 0 (ints_at hAl) sr (by omega) Ar cr gr 0 (ints_at hAr)) rfl rfl rfl rfl (by kernel_rfl) ⟨⟨6, _, by simp, rfl, shows_ownS hA1, seen_ownS hA1⟩, ⟨5, _, by simp, rfl, shows_ownS hAp, seen_ownS hAp⟩, ⟨1, _, by simp, rfl, shows_ownS hAl, seen_ownS hAl⟩, ⟨0, _, by simp, rfl, shows_ownS hAr, seen_ownS hAr⟩, trivial⟩ (fun _ => rfl) ?_
          rintro v H' ⟨rfl, rfl⟩
          refine ⟨rfl, ?_⟩
          refine JL_all [] rfl ?_
          exact J_ret ⟨_, rfl, congrArg Value.bool (cdec_yes hz)⟩
        have hm1 := cover_most hpM hC
        have hm2 := cover_most hmM hC
        refine JL_run [] rfl ?_
        refine JL_set 124 (v' := .bool false) rfl (congrArg Value.bool (by rw [cdec_yes hC]; rfl)) ?_
        refine JL_nil ?_
        refine J_no rfl (J_skip ?_)
        (repeat' (first | refine J_seq ?_ | refine J_skip ?_ | refine J_yes rfl ?_ | refine J_no rfl ?_))
        refine J_region ?_
        refine JL_run [] rfl ?_
        refine JL_val [] (OpV_blk 2 rfl rfl rfl rfl) rfl ?_
        refine JL_run [] rfl ?_
        refine JL_val [] (OpV_blk 2 rfl rfl rfl rfl) rfl ?_
        refine JL_all [] rfl ?_
        refine J_set 22 (v' := .int .i64 ((sl.length + sr.length : Nat) : Int)) rfl (congrArg (Value.int .i64) ((w64 (by omega)).trans (by omega))) ?_
        (repeat' (first | refine J_seq ?_ | refine J_skip ?_ | refine J_yes rfl ?_ | refine J_no rfl ?_))
        refine J_region ?_
        refine JL_run [] rfl ?_
        refine JL_set 141 (v' := .bool true) rfl (congrArg Value.bool (cdec_yes (by omega))) ?_
        refine JL_run [4] rfl ?_
        refine JL_set 147 (v' := .bool true) rfl (congrArg Value.bool (cdec_yes (by omega))) ?_
        refine JL_val [10] (v := grV g A1 c1) (OpV_blk 3 rfl rfl rfl rfl) rfl ?_
        refine JL_run [10] rfl ?_
        refine JL_val [10] (v := setV sl sr Al Ar cl cr) (OpV_blk 2 rfl rfl rfl rfl) rfl ?_
        refine JL_callR [10] (cprove_fn g hg A1 c1 ge 0 hA1' m (by omega) (fun x hx => hpin x (hsub.mem hx)) Am cm gm 0 (ints_at hAm) sl (by omega) Al cl gl 0 (ints_at hAl) sr (by omega) Ar cr gr 0 (ints_at hAr)) rfl rfl rfl rfl (by kernel_rfl) ⟨⟨6, _, by simp, rfl, shows_ownS hA1, seen_ownS hA1⟩, ⟨4, _, by simp, rfl, shows_ownS hAm, seen_ownS hAm⟩, ⟨1, _, by simp, rfl, shows_ownS hAl, seen_ownS hAl⟩, ⟨0, _, by simp, rfl, shows_ownS hAr, seen_ownS hAr⟩, trivial⟩ (fun _ => rfl) ?_
        rintro v H' ⟨rfl, rfl⟩
        refine ⟨rfl, ?_⟩
        refine JL_all [10] rfl ?_
        refine J_ret ⟨_, rfl, congrArg Value.bool ?_⟩
        have hz : proveZ g m sl sr = if sl.length + sr.length = m.length then 0 else 8 := by unfold proveZ; rw [cdec_yes ⟨hmM, hC⟩, if_pos rfl]
        by_cases he : sl.length + sr.length = m.length
        · rw [cdec_yes (show proveZ g m sl sr = 0 by rw [hz, if_pos he]), cdec_yes (by omega)]; rfl
        · rw [cdec_no (show ¬ proveZ g m sl sr = 0 by rw [hz, if_neg he]; decide), cdec_no (by omega)]; rfl
end Go.Proofs.Ytbhfbpeldcnpfaa
