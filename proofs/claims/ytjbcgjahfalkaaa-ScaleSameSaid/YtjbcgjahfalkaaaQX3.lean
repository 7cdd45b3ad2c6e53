/- The engine and the words that all chapters share: several texts in one. -/
import Derived.Test.YtjbcgjahfalkaaaQX0
import Derived.Test.YtjbcgjahfalkaaaQX2
import Derived.Test.YtjbcgjahfalkaaaQB

/- ScaleSame: both engines tell the same turns and amounts. -/
set_option linter.unusedVariables false
set_option linter.unusedSimpArgs false
namespace Go.Proofs.Ytjbcgjahfalkaaa
open Go.RowKit
set_option maxHeartbeats 4000000 in
theorem scaleSame_fn (nodes : Int) (hn : inB nodes) (ends : Int) (he : inB ends) (A : Option Addr) (c b o : Nat) (l : List Arc) (hA : l ≠ [] → A = some ⟨b, o, none⟩) (hl : ∀ x ∈ l, inB x.fr ∧ inB x.to ∧ inB x.cap) (hs : l.length * 24 ≤ 140737488351232) :
    Fn 7 [.int .i64 nodes, .int .i64 ends, .slice A l.length c] [] [.seg b o (arcs l)] fun v _ => v = .bool true := by
  refine Fn_of Try.func7 rfl rfl fun w0 => ?_
  (repeat' (first | refine J_seq ?_ | refine J_skip ?_ | refine J_yes rfl ?_ | refine J_no rfl ?_))
  refine J_region ?_
  refine JL_all [] rfl ?_
  (repeat' (first | refine J_seq ?_ | refine J_skip ?_ | refine J_yes rfl ?_ | refine J_no rfl ?_))
  refine J_region ?_
  refine JL_callR [] (shown13_fn) rfl rfl rfl rfl (by kernel_rfl) trivial (fun _ => rfl) ?_
  rintro v H' ⟨rfl, rfl⟩
  refine ⟨rfl, ?_⟩
  refine JL_all [] rfl ?_
  (repeat' (first | refine J_seq ?_ | refine J_skip ?_ | refine J_yes rfl ?_ | refine J_no rfl ?_))
  refine J_region ?_
  refine JL_all [] rfl ?_
  (repeat' (first | refine J_seq ?_ | refine J_skip ?_ | refine J_yes rfl ?_ | refine J_no rfl ?_))
  refine J_region ?_
  refine JL_run [] rfl ?_
  refine JL_callR [] (made13_fn nodes ends hn he A c b o l hA hl (by omega)) rfl rfl rfl rfl (by kernel_rfl) ⟨⟨0, _, by simp, rfl, shows_seg _ _ _, seen_seg⟩, trivial⟩ (fun _ => rfl) ?_
  rintro v H' ⟨N, A1, cn, hR, hn9, h24, hcm, rfl, rfl⟩
  refine ⟨rfl, ?_⟩
  refine JL_alloc rfl rfl rfl (fun _ => rfl) fun bn => ?_
  refine JL_store 0 rfl rfl rfl rfl rfl [] rfl ?_
  refine JL_know (own_is 1 rfl) fun ⟨_, _, hA1, hla⟩ => ?_
  obtain ⟨g1, hA1⟩ := own_at hA1 hla
  have hA1' : N.arcs ≠ [] → A1 = some ⟨g1, 0, none⟩ := fun h => hA1 (fun h0 => h (List.length_eq_zero_iff.1 (by have := arcs_length N.arcs; rw [h0] at this; simp at this; omega)))
  refine JL_nil ?_
  have hF := hR.fits2
  have hz := zeroFlow N hR
  have hnn := hR.nodes
  obtain ⟨nr, hnr, hst, hn0, hnl, hh6⟩ := made_rooms hR hcm
  (repeat' (first | refine J_seq ?_ | refine J_skip ?_ | refine J_yes rfl ?_ | refine J_no rfl ?_))
  refine J_region ?_
  refine JL_val [] (v := netV N A1 cn) (OpV_blk 0 rfl rfl rfl rfl) rfl ?_
  refine JL_callR [] (smax_fn 112 (.inl rfl) N hF hR A1 cn g1 0 hA1' nr hnr hst) rfl rfl rfl rfl (by kernel_rfl) ⟨⟨1, _, by simp, rfl, shows_ownS hA1, seen_ownS hA1⟩, trivial⟩ (fun _ => rfl) ?_
  rintro v H' ⟨f, ts, Af, cf, At, ct, hS, rfl, rfl⟩
  obtain ⟨_, hf, htl, hval, hw0, hall, _⟩ := hS.all hR
  have hfl := hf.len
  refine ⟨rfl, ?_⟩
  refine JL_know (own_is 0 rfl) fun ⟨_, _, hAf, hlf⟩ => ?_
  obtain ⟨gf, hAf⟩ := own_at hAf hlf
  have hAf' : f ≠ [] → Af = some ⟨gf, 0, none⟩ := fun h => hAf (by simpa [ints] using h)
  refine JL_know (own_is 1 rfl) fun ⟨_, _, hAt, hlt⟩ => ?_
  obtain ⟨gt, hAt⟩ := own_at hAt hlt
  have hAt' : 0 < ts.length → At = some ⟨gt, 0, none⟩ := fun h => hAt (fun h0 => by have := turns_length ts; rw [h0] at this; simp at this; omega)
  refine JL_all [] rfl ?_
  (repeat' (first | refine J_seq ?_ | refine J_skip ?_ | refine J_yes rfl ?_ | refine J_no rfl ?_))
  refine J_region ?_
  refine JL_val [] (v := netV N A1 cn) (OpV_blk 2 rfl rfl rfl rfl) rfl ?_
  refine JL_callR [] (smax_fn 116 (.inr rfl) N hF hR A1 cn g1 0 hA1' nr hnr hst) rfl rfl rfl rfl (by kernel_rfl) ⟨⟨3, _, by simp, rfl, shows_ownS hA1, seen_ownS hA1⟩, trivial⟩ (fun _ => rfl) ?_
  rintro v H' ⟨f2, ts2, Ag, cg, Au, cu, hS2, rfl, rfl⟩
  obtain ⟨rfl, rfl⟩ := hS.uniq hR hS2
  refine ⟨rfl, ?_⟩
  refine JL_know (own_is 0 rfl) fun ⟨_, _, hAg, hlg⟩ => ?_
  obtain ⟨gg, hAg⟩ := own_at hAg hlg
  have hAg' : f ≠ [] → Ag = some ⟨gg, 0, none⟩ := fun h => hAg (by simpa [ints] using h)
  refine JL_know (own_is 1 rfl) fun ⟨_, _, hAu, hlu⟩ => ?_
  obtain ⟨gu, hAu⟩ := own_at hAu hlu
  have hAu' : 0 < ts.length → Au = some ⟨gu, 0, none⟩ := fun h => hAu (fun h0 => by have := turns_length ts; rw [h0] at this; simp at this; omega)
  refine JL_all [] rfl ?_
  (repeat' (first | refine J_seq ?_ | refine J_skip ?_ | refine J_yes rfl ?_ | refine J_no rfl ?_))
  refine J_region ?_
  refine JL_evO (gs := [999]) rfl ?_
  refine JL_evO (gs := [999]) rfl ?_
  refine JL_evO (gs := [999]) rfl ?_
  refine JL_set 42 (v' := .bool false) rfl (congrArg Value.bool (cdec_no (fun h => h rfl))) ?_
  refine JL_run [2] rfl ?_
  refine JL_set 46 (v' := .bool false) rfl (congrArg Value.bool (cdec_no (fun h => h rfl))) ?_
  refine JL_run [2, 6] rfl ?_
  refine JL_callR [2, 6] (same5_fn Af cf gf 0 f hAf' (by omega) Ag cg gg 0 f hAg') rfl rfl rfl rfl (by kernel_rfl) ⟨⟨2, _, by simp, rfl, shows_ownS (fun h => hAf h), seen_ownS (fun h => hAf h)⟩, ⟨0, _, by simp, rfl, shows_ownS (fun h => hAg h), seen_ownS (fun h => hAg h)⟩, trivial⟩ (fun _ => rfl) ?_
  rintro _ H' ⟨rfl, rfl⟩
  refine ⟨rfl, ?_⟩
  refine JL_set 49 (v' := .bool true) rfl (congrArg Value.bool (cdec_yes rfl)) ?_
  refine JL_run [2, 6, 12] rfl ?_
  refine JL_all [2, 6, 12] rfl ?_
  (repeat' (first | refine J_seq ?_ | refine J_skip ?_ | refine J_yes rfl ?_ | refine J_no rfl ?_))
  refine J_dec rfl (fun h => absurd rfl h) (fun _ => J_skip ?_)
  (repeat' (first | refine J_seq ?_ | refine J_skip ?_ | refine J_yes rfl ?_ | refine J_no rfl ?_))
  refine J_region ?_
  refine JL_all [] rfl ?_
  (repeat' (first | refine J_seq ?_ | refine J_skip ?_ | refine J_yes rfl ?_ | refine J_no rfl ?_))
  refine J_block ?_
  refine J_loopF (σ := Nat) (fun t => [(15, .int .i64 (t : Int)), (9, .slice Af f.length cf), (10, .slice At ts.length ct), (13, .slice Au ts.length cu), (8, .pointer (some ⟨bn, 0, none⟩))])
    (fun _ => [.own (.slice Au ts.length cu) 61 4 ts.length (turns ts), .own (.slice Af f.length cf) 2 1 f.length (ints f), .own (.slice At ts.length ct) 61 4 ts.length (turns ts), blk bn 27 (netC N A1 cn), .own (.slice A1 N.arcs.length cn) 42 3 N.arcs.length (arcs N.arcs)]) (fun t => t ≤ ts.length) (fun t => ts.length - t) 0 ⟨rfl, rfl, rfl, rfl, rfl, trivial⟩ (Fit.picks [1, 2, 3, 4, 5] (by decide) rfl) (Nat.zero_le _) ?_
  intro k hk
  (repeat' (first | refine J_seq ?_ | refine J_skip ?_ | refine J_yes rfl ?_ | refine J_no rfl ?_))
  refine J_region ?_
  refine JL_all [] rfl ?_
  refine J_dec rfl (fun hlt => J_skip ?_) (fun hge => J_exit ?_)
  · have hkl : k < ts.length := by omega
    obtain ⟨t, ht⟩ : ∃ t, ts[k]? = some t := ⟨ts[k], List.getElem?_eq_getElem hkl⟩
    obtain rfl := hAt' (by omega)
    obtain rfl := hAu' (by omega)
    refine J_seq (J_block ?_)
    (repeat' (first | refine J_seq ?_ | refine J_skip ?_ | refine J_yes rfl ?_ | refine J_no rfl ?_))
    refine J_walk 9 [(0, true), (1, true), (2, true), (3, true), (4, true), (5, true), (6, true), (7, true), (8, true)] [0, 2] (by kernel_rfl) (by decide) rfl ?_
    refine JW_run [] rfl ?_
    refine JW_still [] rfl (idxNz rfl rfl rfl rfl rfl hkl) rfl ?_
    refine JW_still [] rfl (OpV_own 1 rfl rfl rfl (readT_turn ht)) rfl ?_
    refine JW_run [] rfl ?_
    refine JW_still [] rfl (idxNz rfl rfl rfl rfl rfl hkl) rfl ?_
    refine JW_still [] rfl (OpV_own 0 rfl rfl rfl (readT_turn ht)) rfl ?_
    refine JW_still [] rfl (OpV_turn_same rfl rfl rfl) rfl ?_
    refine JW_nil ?_
    refine JL_nil ?_
    (repeat' (first | refine J_seq ?_ | refine J_skip ?_ | refine J_yes rfl ?_ | refine J_no rfl ?_))
    (repeat' (first | refine J_seq ?_ | refine J_skip ?_ | refine J_yes rfl ?_ | refine J_no rfl ?_))
    refine J_region ?_
    refine JL_all [] rfl ?_
    exact ⟨k + 1, ⟨congrArg some (congrArg (Value.int .i64) (w64 (n := (k : Int) + 1) (by omega))), rfl, rfl, rfl, rfl, trivial⟩, Fit.refl, hkl, by show ts.length - (k + 1) < ts.length - k; omega⟩
  · (repeat' (first | refine J_seq ?_ | refine J_skip ?_ | refine J_yes rfl ?_ | refine J_no rfl ?_))
    refine J_region ?_
    refine JL_val [] (v := netV N A1 cn) (OpV_blk 3 rfl rfl rfl rfl) rfl ?_
    refine JL_run [] rfl ?_
    refine JL_callR [] (fromG_fn N hF hR A1 cn g1 0 hA1' f hf Af cf gf 0 hAf' 1 (by decide) (by decide) 116 (.inr rfl)) rfl rfl rfl rfl (by kernel_rfl) ⟨⟨4, _, by simp, rfl, shows_ownS hA1, seen_ownS hA1⟩, ⟨1, _, by simp, rfl, shows_ownS (fun h => hAf h), seen_ownS (fun h => hAf h)⟩, trivial⟩ (fun _ => rfl) ?_
    rintro _ H' ⟨f3, pc, kc, sc, A3, c3, hdc, _, _, _, _, _, rfl, rfl⟩
    obtain ⟨rfl, rfl, he⟩ := hdc.still hR (fun lv hlv => hS.stop hR hn0 hlv)
    have he := he.symm
    subst he
    refine ⟨rfl, ?_⟩
    refine JL_know (own_is 0 rfl) fun ⟨_, _, hA3, hl3⟩ => ?_
    obtain ⟨g3, hA3⟩ := own_at hA3 hl3
    have hA3' : f ≠ [] → A3 = some ⟨g3, 0, none⟩ := fun h => hA3 (by simpa [ints] using h)
    refine JL_run [] rfl ?_
    refine JL_alloc rfl rfl rfl (fun _ => rfl) fun b16 => ?_
    refine JL_store 0 rfl rfl rfl rfl rfl [] rfl ?_
    refine JL_all [] rfl ?_
    (repeat' (first | refine J_seq ?_ | refine J_skip ?_ | refine J_yes rfl ?_ | refine J_no rfl ?_))
    refine J_region ?_
    refine JL_val [] (v := netV N A1 cn) (OpV_blk 5 rfl rfl rfl rfl) rfl ?_
    refine JL_callR [] (smaxErr_fn N hF hR A1 cn g1 0 hA1' 115 (by decide) (by decide)) rfl rfl rfl rfl (by kernel_rfl) ⟨⟨6, _, by simp, rfl, shows_ownS hA1, seen_ownS hA1⟩, trivial⟩ (fun _ => rfl) ?_
    rintro _ H' ⟨rfl, rfl⟩
    refine ⟨rfl, ?_⟩
    refine JL_all [] rfl ?_
    (repeat' (first | refine J_seq ?_ | refine J_skip ?_ | refine J_yes rfl ?_ | refine J_no rfl ?_))
    refine J_region ?_
    refine JL_evO (gs := [999]) rfl ?_
    refine JL_evO (gs := [999]) rfl ?_
    refine JL_evO (gs := [999]) rfl ?_
    refine JL_set 88 (v' := .bool true) rfl (congrArg Value.bool (cdec_yes rfl)) ?_
    refine JL_run [2] rfl ?_
    refine JL_val [2] (v := .int .i64 0) (OpV_blk 0 rfl rfl rfl rfl) rfl ?_
    refine JL_run [2] rfl ?_
    refine JL_set 93 (v' := .bool true) rfl (congrArg Value.bool (cdec_yes rfl)) ?_
    refine JL_run [2, 7] rfl ?_
    refine JL_val [2, 7] (v := .slice A3 f.length c3) (OpV_blk 0 rfl rfl rfl rfl) rfl ?_
    refine JL_run [2, 7] rfl ?_
    refine JL_callR [2, 7] (same5_fn A3 c3 g3 0 f hA3' (by omega) Af cf gf 0 f hAf') rfl rfl rfl rfl (by kernel_rfl) ⟨⟨1, _, by simp, rfl, shows_ownS (fun h => hA3 h), seen_ownS (fun h => hA3 h)⟩, ⟨3, _, by simp, rfl, shows_ownS (fun h => hAf h), seen_ownS (fun h => hAf h)⟩, trivial⟩ (fun _ => rfl) ?_
    rintro _ H' ⟨rfl, rfl⟩
    refine ⟨rfl, ?_⟩
    refine JL_set 97 (v' := .bool true) rfl (congrArg Value.bool (cdec_yes rfl)) ?_
    refine JL_run [2, 7] rfl ?_
    refine JL_all [2, 7, 13] rfl ?_
    exact J_ret ⟨_, rfl, congrArg Value.bool (cdec_yes rfl)⟩
end Go.Proofs.Ytjbcgjahfalkaaa

/- From a function's promise to a law's row. -/
set_option linter.unusedVariables false
set_option linter.unusedSimpArgs false
namespace Go.Proofs.Ytjbcgjahfalkaaa
open Go.RowKit
def SegsIn (w : World) : Heap → Prop
  | [] => True
  | .seg b o vs :: S => (Chunk.seg b o vs).holds w ∧ SegsIn w S
  | _ => False
theorem SegsIn.spec {w : World} : ∀ {S : Heap}, SegsIn w S → ∀ c ∈ S, c.holds w ∧ c.mine = none
  | [], _, c, hc => by cases hc
  | .seg b o vs :: S, h, c, hc => by
    rcases List.mem_cons.1 hc with rfl | hc
    · exact ⟨h.1, rfl⟩
    · exact SegsIn.spec h.2 c hc
  | .obj .. :: _, h, _, _ => h.elim
  | .own .. :: _, h, _, _ => h.elim
theorem SegsIn.has {w : World} {S : Heap} (h : SegsIn w S) : Has w [] w S := by
  refine ⟨rfl, rfl, rfl, Nat.le_refl _, fun _ _ _ => rfl, fun c hc => (h.spec c hc).1, fun c hc b hb => (by rw [(h.spec c hc).2] at hb; simp at hb), ?_⟩
  rw [List.pairwise_iff_getElem]
  intro i j hi hj _
  have h1 := (h.spec _ (List.getElem_mem hi)).2
  have h2 := (h.spec _ (List.getElem_mem hj)).2
  exact ⟨fun b hb => by rw [h1] at hb; simp at hb, fun b hb => by rw [h2] at hb; simp at hb⟩
theorem Fn.row {f : FuncId} {args : List Value} {S : Heap} (h : Fn f args [] S (fun v _ => v = .bool true)) (w : World) (hS : SegsIn w S) :
    Calls Try.prog f args.toArray w fun e w' => e = .returned (.bool true) ∧ Below w.heap.size w w' := by
  refine (h w hS.has).mono ?_
  rintro e w' ⟨v, H', he, hH, hv⟩
  rw [he, hv]
  exact ⟨rfl, ⟨hH.os, hH.tape, hH.output, hH.size, fun k hk => hH.keep k hk (by simp)⟩⟩
theorem inB_of {n : Int} (h : (Lit.int .i64 n).wf = true) : inB n := by
  simp [Lit.wf, IntKind.min, IntKind.max, IntKind.signed, IntKind.bits] at h
  exact h
end Go.Proofs.Ytjbcgjahfalkaaa
