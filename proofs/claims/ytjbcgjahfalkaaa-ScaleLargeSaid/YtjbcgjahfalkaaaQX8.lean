/- The engine and the words that all chapters share: several texts in one. -/
import Derived.Test.YtjbcgjahfalkaaaScaleP
import Derived.Test.YtjbcgjahfalkaaaNumL
import Derived.Test.YtjbcgjahfalkaaaHalvN

/- The first room of the halves. -/
set_option linter.unusedVariables false
set_option linter.unusedSimpArgs false
namespace Go.Proofs.Ytjbcgjahfalkaaa
open Go.RowKit
theorem cap_le_sum : ∀ {l : List Arc}, (∀ a ∈ l, 0 ≤ a.cap) → ∀ {a : Arc}, a ∈ l → a.cap ≤ (l.map (·.cap)).sum
  | [], _, _, h => by simp at h
  | b :: l, hp, a, h => by
    have h0 := hp b (by simp)
    have hs : 0 ≤ (l.map (·.cap)).sum := sum_nonneg _ fun x hx => by
      obtain ⟨d, hd, rfl⟩ := List.mem_map.1 hx
      exact hp d (by simp [hd])
    simp only [List.map_cons, List.sum_cons]
    rcases List.mem_cons.1 h with rfl | h
    · omega
    · have := cap_le_sum (fun d hd => hp d (by simp [hd])) h
      omega
theorem mostC_in {N : Net} (hR : N.Right) (k : Nat) : 0 ≤ mostC (N.arcs.take k) ∧ mostC (N.arcs.take k) ≤ 4611686018427387903 := by
  obtain ⟨h1, h2, h3⟩ := mostC_spec (N.arcs.take k) 0 fun a ha => (hR.arc a (List.mem_of_mem_take ha)).2.2
  refine ⟨h1, ?_⟩
  unfold mostC
  rcases h3 with h | ⟨a, ha, h⟩
  · rw [h]; decide
  · rw [h]
    have hs := hR.sum
    have := cap_le_sum (fun d hd => (hR.arc d hd).2.2) (List.mem_of_mem_take ha)
    omega
theorem starts_fn (N : Net) (hR : N.Right) (A : Option Addr) (c b o : Nat) (hA : N.arcs ≠ [] → A = some ⟨b, o, none⟩) : Fn 37 [netV N A c] [] [.seg b o (arcs N.arcs)] fun v H' => v = .int .i64 (floorOf (mostC N.arcs)) ∧ H' = [] := by
  have hl2 := hR.len
  refine Fn_of Try.func37 rfl rfl fun w0 => ?_
  (repeat' (first | refine J_seq ?_ | refine J_skip ?_ | refine J_yes rfl ?_ | refine J_no rfl ?_))
  refine J_region ?_
  refine JL_box (cs := netC N A c) rfl rfl rfl (fun _ => rfl) fun p1 => ?_
  refine JL_all [] rfl ?_
  (repeat' (first | refine J_seq ?_ | refine J_skip ?_ | refine J_yes rfl ?_ | refine J_no rfl ?_))
  refine J_region ?_
  refine JL_all [] rfl ?_
  (repeat' (first | refine J_seq ?_ | refine J_skip ?_ | refine J_yes rfl ?_ | refine J_no rfl ?_))
  refine J_region ?_
  refine JL_run [] rfl ?_
  refine JL_val [] (v := .slice A N.arcs.length c) (OpV_blk 0 rfl rfl rfl rfl) rfl ?_
  refine JL_all [] rfl ?_
  (repeat' (first | refine J_seq ?_ | refine J_skip ?_ | refine J_yes rfl ?_ | refine J_no rfl ?_))
  refine J_block ?_
  refine J_loopF (σ := Nat) (fun t => [(9, .int .i64 (t : Int)), (3, .int .i64 (mostC (N.arcs.take t))), (8, .int .i64 (N.arcs.length : Int)), (7, .slice A N.arcs.length c)])
    (fun _ => [.seg b o (arcs N.arcs)]) (fun t => t ≤ N.arcs.length) (fun t => N.arcs.length - t) 0 ⟨rfl, rfl, rfl, rfl, trivial⟩ (Fit.picks [1] (by decide) rfl) (Nat.zero_le _) ?_
  intro k hk
  (repeat' (first | refine J_seq ?_ | refine J_skip ?_ | refine J_yes rfl ?_ | refine J_no rfl ?_))
  refine J_region ?_
  refine JL_all [] rfl ?_
  refine J_seq (J_dec rfl (fun hlt => J_skip ?_) (fun hge => J_exit ?_))
  · have hkl : k < N.arcs.length := by omega
    obtain ⟨a, ha⟩ : ∃ a, N.arcs[k]? = some a := ⟨N.arcs[k], List.getElem?_eq_getElem hkl⟩
    obtain rfl := hA (by intro h0; rw [h0] at hkl; simp at hkl)
    refine J_seq (J_block ?_)
    (repeat' (first | refine J_seq ?_ | refine J_skip ?_ | refine J_yes rfl ?_ | refine J_no rfl ?_))
    refine J_region ?_
    refine JL_run [] rfl ?_
    refine JL_val [] (idxN rfl rfl rfl rfl rfl hkl) rfl ?_
    refine JL_val [] (ldseg 0 rfl rfl rfl rfl (readT_arc ha)) rfl ?_
    refine JL_alloc rfl rfl rfl (fun _ => rfl) fun q => ?_
    refine JL_store 0 rfl rfl rfl rfl rfl [] rfl ?_
    refine JL_nil ?_
    (repeat' (first | refine J_seq ?_ | refine J_skip ?_ | refine J_yes rfl ?_ | refine J_no rfl ?_))
    refine J_region ?_
    refine JL_run [] rfl ?_
    refine JL_val [] (v := .int .i64 a.cap) (OpV_blk 0 rfl rfl rfl rfl) rfl ?_
    refine JL_evO (gs := []) rfl ?_
    refine JL_set 16 (v' := .int .i64 (mostC (N.arcs.take (k + 1)))) rfl (by rw [List.take_add_one, ha]; unfold mostC; rw [List.foldl_append]; rfl) ?_
    refine JL_all [] rfl ?_
    (repeat' (first | refine J_seq ?_ | refine J_skip ?_ | refine J_yes rfl ?_ | refine J_no rfl ?_))
    refine J_region ?_
    refine JL_all [] rfl ?_
    refine ⟨k + 1, ⟨?_, rfl, rfl, rfl, trivial⟩, Fit.picks [1] (by decide) rfl, hkl, by show N.arcs.length - (k + 1) < N.arcs.length - k; omega⟩
    exact congrArg some (congrArg (Value.int .i64) (w64 (n := (k : Int) + 1) (by omega)))
  · obtain rfl : k = N.arcs.length := by omega
    rw [List.take_of_length_le (Nat.le_refl _)]
    have hb := mostC_in hR N.arcs.length
    rw [List.take_of_length_le (Nat.le_refl _)] at hb
    (repeat' (first | refine J_seq ?_ | refine J_skip ?_ | refine J_yes rfl ?_ | refine J_no rfl ?_))
    refine J_region ?_
    refine JL_run [] rfl ?_
    refine JL_callR [] (floor_fn (mostC N.arcs) (by unfold inB; omega)) rfl rfl rfl rfl (by kernel_rfl) trivial (fun _ => rfl) ?_
    rintro v H' ⟨rfl, rfl⟩
    refine ⟨rfl, ?_⟩
    refine JL_all [] rfl ?_
    exact J_drop [] (by decide) rfl (J_ret ⟨_, rfl, rfl, rfl⟩)
end Go.Proofs.Ytjbcgjahfalkaaa


/- The greatest value by halves: scale.Max. -/
set_option linter.unusedVariables false
set_option linter.unusedSimpArgs false
namespace Go.Proofs.Ytjbcgjahfalkaaa
open Go.RowKit
def turnC (t : Turn) : List Value := [.int .i64 t.least, .int .i64 t.p, .int .i64 t.w, .int .i64 t.v]
def turns (ts : List Turn) : List Value := ts.flatMap turnC
theorem turns_length : ∀ l : List Turn, (turns l).length = l.length * 4
  | [] => rfl
  | t :: l => by
    have := turns_length l
    unfold turns at this ⊢
    simp only [List.flatMap_cons, List.length_append, List.length_cons, this, turnC, List.length_nil]; omega
theorem turns_app (l r : List Turn) : turns (l ++ r) = turns l ++ turns r := by simp [turns]
structure SM where
  f : List Int
  Af : Option Addr
  cf : Nat
  ts : List Turn
  At : Option Addr
  ct : Nat
set_option maxHeartbeats 2000000 in
theorem smax_fn (sg : Int) (hsg : sg = 112 ∨ sg = 116) (N : Net) (hN : N.Fits) (hR : N.Right) (A : Option Addr) (c b o : Nat) (hA : N.arcs ≠ [] → A = some ⟨b, o, none⟩) (nr : Nat) (hnr : nr ≤ 62) (hst : floorOf (mostC N.arcs) = halfZ nr 0) :
    Fn 34 [netV N A c, .int .u8 sg] [] [.seg b o (arcs N.arcs)] fun v H' => ∃ (f : List Int) (ts : List Turn) (Af : Option Addr) (cf : Nat) (At : Option Addr) (ct : Nat), Sc N nr nr f ts ∧ v = .tuple #[.slice Af f.length cf, .slice At ts.length ct, .int .i64 0] ∧
      H' = [.own (.slice Af f.length cf) 2 1 f.length (ints f), .own (.slice At ts.length ct) 61 4 ts.length (turns ts)] := by
  have hl2 := hR.len
  refine Fn_ofM Try.func34 rfl rfl fun w0 => ?_
  refine W_seq (J_region ?_)
  refine JL_box (cs := netC N A c) rfl rfl rfl (fun _ => rfl) fun p2 => ?_
  refine JL_box rfl rfl rfl (fun _ => rfl) fun p3 => ?_
  refine JL_all [] rfl ?_
  refine W_seq ?_
  · (repeat' (first | refine J_seq ?_ | refine J_skip ?_ | refine J_yes rfl ?_ | refine J_no rfl ?_))
    refine J_region ?_
    refine JL_val [] (v := netV N A c) (OpV_blk 1 rfl rfl rfl rfl) rfl ?_
    refine JL_callR [] (check_fn N hN A c b o hA) rfl rfl rfl rfl (by kernel_rfl) ⟨⟨2, _, by simp, rfl, shows_seg _ _ _, seen_seg⟩, trivial⟩ (fun _ => rfl) ?_
    rintro v H' ⟨rfl, rfl⟩
    refine ⟨rfl, ?_⟩
    rw [hR.check]
    refine JL_all [] rfl ?_
    (repeat' (first | refine J_seq ?_ | refine J_skip ?_ | refine J_yes rfl ?_ | refine J_no rfl ?_))
    refine J_region ?_
    refine JL_all [] rfl ?_
    (repeat' (first | refine J_seq ?_ | refine J_skip ?_ | refine J_yes rfl ?_ | refine J_no rfl ?_))
    refine J_dec rfl (fun h => absurd rfl h) (fun _ => J_skip ?_)
    refine W_seq (J_mono (Q := fun e E H => e = .normal ∧ Ents E [(3, .pointer (some ⟨p3, 0, none⟩)), (2, .pointer (some ⟨p2, 0, none⟩))] ∧ H = [blk p3 5 [.int .u8 sg], blk p2 27 (netC N A c), .seg b o (arcs N.arcs)]) ?_ ?_)
    · (repeat' (first | refine J_seq ?_ | refine J_skip ?_ | refine J_yes rfl ?_ | refine J_no rfl ?_))
      refine J_region ?_
      refine JL_run [] rfl ?_
      refine JL_val [] (v := .int .u8 sg) (OpV_blk 0 rfl rfl rfl rfl) rfl ?_
      rcases hsg with rfl | rfl
      · refine JL_run [] rfl ?_
        refine JL_set 22 (v' := .bool false) rfl (congrArg Value.bool (cdec_no (by decide))) ?_
        refine JL_all [2] rfl ?_
        refine J_no rfl (J_skip ⟨rfl, ⟨rfl, rfl, trivial⟩, rfl⟩)
      · refine JL_run [] rfl ?_
        refine JL_set 22 (v' := .bool true) rfl (congrArg Value.bool (cdec_yes (by decide))) ?_
        refine JL_val [2] (v := .int .u8 116) (OpV_blk 0 rfl rfl rfl rfl) rfl ?_
        refine JL_all [2] rfl ?_
        refine J_set 25 (v' := .bool false) rfl (congrArg Value.bool (cdec_no (by decide))) ?_
        refine J_no rfl (J_skip ⟨rfl, ⟨rfl, rfl, trivial⟩, rfl⟩)
    rintro e E H ⟨rfl, hE, rfl⟩
    show W _ _ _ E _
    suffices hW : W ⟨w0, [], ⟨62, []⟩⟩ _ _ [(3, .pointer (some ⟨p3, 0, none⟩)), (2, .pointer (some ⟨p2, 0, none⟩))] [blk p3 5 [.int .u8 sg], blk p2 27 (netC N A c), .seg b o (arcs N.arcs)] from fun a w hA hH => hW a w (hA.ents _ hE) hH
    clear hE E
    refine W_seq (J_region ?_)
    refine JL_run [] rfl ?_
    refine JL_val [] (v := .slice A N.arcs.length c) (OpV_blk 1 rfl rfl rfl rfl) rfl ?_
    refine JL_run [] rfl ?_
    refine JL_make (n := N.arcs.length) (c := N.arcs.length) rfl rfl rfl rfl rfl rfl (by omega) (by omega) (by omega) (fun _ => rfl) fun gf => ?_
    rw [show made [Value.int .i64 0] (N.arcs.length * 1) = ints (List.replicate N.arcs.length 0) by rw [made_one, Nat.mul_one]; simp [ints]]
    refine JL_alloc rfl rfl rfl (fun _ => rfl) fun p8 => ?_
    refine JL_store 0 rfl rfl rfl rfl rfl [] rfl ?_
    refine JL_nil ?_
    refine W_seq (J_region ?_)
    refine JL_alloc rfl rfl rfl (fun _ => rfl) fun p9 => ?_
    refine JL_nil ?_
    refine W_seqW ?_
    refine W_seq (J_region ?_)
    refine JL_val [] (v := netV N A c) (OpV_blk 4 rfl rfl rfl rfl) rfl ?_
    refine JL_callR [] (starts_fn N hR A c b o hA) rfl rfl rfl rfl (by kernel_rfl) ⟨⟨5, _, by simp, rfl, shows_seg _ _ _, seen_seg⟩, trivial⟩ (fun _ => rfl) ?_
    rintro v H' ⟨rfl, rfl⟩
    refine ⟨rfl, ?_⟩
    rw [hst]
    refine JL_callR [] (halves_fn (halfZ nr 0)) rfl rfl rfl rfl (by kernel_rfl) trivial (fun _ => rfl) ?_
    rintro v H' ⟨pc, rfl, rfl⟩
    refine ⟨rfl, ?_⟩
    refine JL_addnil 61 4 ?_
    refine JL_fit (K := blk pc 2 [.int .i64 (halfZ nr 0)] :: [blk p8 29 [.slice (some ⟨gf, 0, none⟩) (List.replicate N.arcs.length (0 : Int)).length N.arcs.length], .own (.slice (some ⟨gf, 0, none⟩) (List.replicate N.arcs.length (0 : Int)).length N.arcs.length) 2 1 (List.replicate N.arcs.length (0 : Int)).length (ints (List.replicate N.arcs.length 0)),
      blk p9 57 [.slice none ([] : List Turn).length 0], .own (.slice none ([] : List Turn).length 0) 61 4 ([] : List Turn).length (turns []), blk p2 27 (netC N A c), blk p3 5 [.int .u8 sg], .seg b o (arcs N.arcs)]) (by
        rw [List.length_replicate]
        exact Fit.picks [1, 3, 4, 2, 0, 6, 5, 7] (by decide) rfl) ?_
    refine JL_nil ?_
    refine W_block ?_
    refine W_rangeM (p := pc) (ty := 2) (n0 := halfZ nr 0) (nr := nr) (x := halfX nr) (gf := 82) (lb := [.pointer (some ⟨pc, 0, none⟩)]) (σ := SM)
      (fun s => [blk p8 29 [.slice s.Af s.f.length s.cf], .own (.slice s.Af s.f.length s.cf) 2 1 s.f.length (ints s.f), blk p9 57 [.slice s.At s.ts.length s.ct], .own (.slice s.At s.ts.length s.ct) 61 4 s.ts.length (turns s.ts), blk p2 27 (netC N A c), blk p3 5 [.int .u8 sg], .seg b o (arcs N.arcs)])
      (fun k s => Sc N nr k s.f s.ts) ⟨_, some ⟨gf, 0, none⟩, N.arcs.length, [], none, 0⟩ rfl (by kernel_rfl) (halves_gives pc nr (by omega)) (fun _ _ => rfl) rfl .nil ?_ ?_
    · rintro r D k ⟨f, Af, cf, ts, At, ct⟩ y rdy bsy hk hS
      simp only at hS ⊢
      refine JR_region rfl ?_
      refine JL_all [] rfl ⟨rfl, ?_⟩
      obtain ⟨_, hf, htl, _⟩ := hS.all hR
      have hfl := hf.len
      have hpos := halfZ_pos hk
      have hle := halfZ_le (nr := nr) (k := k) (by omega)
      refine JR_block (JR_seq (JR_region rfl ?_))
      refine JL_know (own_is 4 rfl) fun ⟨_, _, hAf, hlf⟩ => ?_
      obtain ⟨gf2, hAf⟩ := own_at hAf hlf
      refine JL_val [] (v := netV N A c) (OpV_blk 7 rfl rfl rfl rfl) rfl ?_
      refine JL_val [] (v := .slice Af f.length cf) (OpV_blk 3 rfl rfl rfl rfl) rfl ?_
      refine JL_run [] rfl ?_
      refine JL_val [] (v := .int .u8 sg) (OpV_blk 8 rfl rfl rfl rfl) rfl ?_
      refine JL_callR [] (fromG_fn N hN hR A c b o hA f hf Af cf gf2 0 (fun h => hAf (by simpa [ints] using h)) (halfZ nr k) hpos (by unfold inB; omega) sg hsg) rfl rfl rfl rfl (by kernel_rfl) ⟨⟨9, _, by simp, rfl, shows_seg _ _ _, seen_seg⟩, ⟨4, _, by simp, rfl, shows_ownS hAf, seen_ownS hAf⟩, trivial⟩ (fun _ => rfl) ?_
      rintro v H' ⟨f1, ph, wk, st, A1, c1, hdn, _, _, _, _, _, rfl, rfl⟩
      obtain ⟨hf1, _, _, _⟩ := hdn.keeps hR hpos hf
      have hf1l := hf1.len
      refine ⟨rfl, ?_⟩
      refine JL_run [] rfl ?_
      refine JL_alloc rfl rfl rfl (fun _ => rfl) fun p11 => ?_
      refine JL_store 0 rfl rfl rfl rfl rfl [] rfl ?_
      refine JL_all [] rfl ?_
      refine JR_seq (JR_region rfl ?_)
      refine JL_know (own_is 1 rfl) fun ⟨_, _, hA1, hl1⟩ => ?_
      obtain ⟨g1, hA1⟩ := own_at hA1 hl1
      refine JL_run [] rfl ?_
      refine JL_val [] (v := .slice A1 f1.length c1) (OpV_blk 0 rfl rfl rfl rfl) rfl ?_
      refine JL_store 5 rfl rfl rfl rfl rfl [] rfl ?_
      refine JL_nil ?_
      refine JR_seq (JR_region rfl ?_)
      refine JL_val [] (v := netV N A c) (OpV_blk 9 rfl rfl rfl rfl) rfl ?_
      refine JL_val [] (v := .slice A1 f1.length c1) (OpV_blk 5 rfl rfl rfl rfl) rfl ?_
      refine JL_callR [] (fvalue_fn N hN hR A c b o hA f1 A1 c1 g1 0 (fun h => hA1 (by simpa [ints] using h)) (IsFlow.inB hR hf1.toRanged) (by omega)) rfl rfl rfl rfl (by kernel_rfl) ⟨⟨11, _, by simp, rfl, shows_seg _ _ _, seen_seg⟩, ⟨1, _, by simp, rfl, shows_ownS hA1, seen_ownS hA1⟩, trivial⟩ (fun _ => rfl) ?_
      rintro v H' ⟨⟨rfl, _⟩ | ⟨_, h⟩, rfl⟩
      case inr => exact absurd hf1 h
      refine ⟨rfl, ?_⟩
      refine JL_all [] rfl ?_
      refine JR_region rfl ?_
      refine JL_val [] (v := .slice At ts.length ct) (OpV_blk 7 rfl rfl rfl rfl) rfl ?_
      refine JL_run [] rfl ?_
      refine JL_val [] (v := .int .i64 ph) (OpV_blk 0 rfl rfl rfl rfl) rfl ?_
      refine JL_run [] rfl ?_
      refine JL_val [] (v := .int .i64 wk) (OpV_blk 0 rfl rfl rfl rfl) rfl ?_
      refine JL_run [] rfl ?_
      refine JL_val [] (OpV_build rfl rfl rfl rfl rfl rfl) rfl ?_
      refine JL_lit rfl rfl rfl rfl rfl rfl rfl (fun _ => rfl) fun g5 => ?_
      refine JL_appendS (n := ts.length) (m := 1) (off := 0) (news := turns [⟨halfZ nr k, ph, wk, exZ (N.arcs.zip f1) N.snk⟩]) 9 0 rfl rfl rfl rfl rfl rfl (by decide) rfl rfl (shows_blk g5 _ _ (0, 0)) (fun _ => rfl) rfl rfl (by omega) (by omega) (fun _ _ => rfl) fun A2 c2 => ?_
      refine JL_store 8 rfl rfl rfl rfl rfl [] rfl ?_
      refine JL_nil ⟨⟨f1, A1, c1, ts ++ [⟨halfZ nr k, ph, wk, exZ (N.arcs.zip f1) N.snk⟩], A2, c2⟩, .step hS hk hdn, ?_⟩
      simp only [turns_app, List.length_append, List.length_cons, List.length_nil]
      exact Fit.picks [3, 4, 5, 6, 2, 8, 9, 10, 11, 12] (by decide) rfl
    · rintro D a w ⟨f, Af, cf, ts, At, ct⟩ y hS hA hH
      simp only at hS hH
      show Code.wp Try.prog _ _ a w
      refine W_ofM (fn := Try.f34) (E := [(9, .pointer (some ⟨p9, 0, none⟩)), (8, .pointer (some ⟨p8, 0, none⟩))]) (H := [.obj D dfr, blk pc 2 [.int .i64 y], blk p8 29 [.slice Af f.length cf], .own (.slice Af f.length cf) 2 1 f.length (ints f), blk p9 57 [.slice At ts.length ct], .own (.slice At ts.length ct) 61 4 ts.length (turns ts), blk p2 27 (netC N A c), blk p3 5 [.int .u8 sg], .seg b o (arcs N.arcs)]) (D := D) ?_ (hA.ents _ ⟨rfl, rfl, trivial⟩) hH
      refine J_seq ?_
      refine J_walk 5 [(0, true), (1, true), (2, true), (3, true), (4, true)] [2, 4] (by kernel_rfl) (by decide) rfl ?_
      refine JW_still [] rfl (OpV_blk (v := .slice Af f.length cf) 0 rfl rfl rfl rfl) rfl ?_
      refine JW_still [] rfl (OpV_blk (v := .slice At ts.length ct) 1 rfl rfl rfl rfl) rfl ?_
      refine JW_all [] rfl ?_
      refine JL_nil ?_
      refine J_ret ?_
      refine ⟨.inr rfl, [.own (.slice Af f.length cf) 2 1 f.length (ints f), .own (.slice At ts.length ct) 61 4 ts.length (turns ts)], [0, 3, 5], by decide, rfl, _, rfl, f, ts, Af, cf, At, ct, hS, rfl, rfl⟩
end Go.Proofs.Ytjbcgjahfalkaaa
