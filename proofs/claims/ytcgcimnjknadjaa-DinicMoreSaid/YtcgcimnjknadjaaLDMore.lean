
/- DinicMore: more capacity on one arc, and arcs that make no difference. -/
import Derived.Test.YtcgcimnjknadjaaSh12N
import Derived.Test.YtcgcimnjknadjaaMade12
import Derived.Test.YtcgcimnjknadjaaTurnN
import Derived.Test.YtcgcimnjknadjaaMoreP
set_option linter.unusedVariables false
set_option linter.unusedSimpArgs false
namespace Go.Proofs.Ytcgcimnjknadjaa
open Go.RowKit
set_option maxHeartbeats 2000000 in
theorem dinicMore_fn (nodes : Int) (hn : inB nodes) (ends : Int) (he : inB ends) (A : Option Addr) (c b o : Nat) (l : List Arc) (hA : l ≠ [] → A = some ⟨b, o, none⟩) (hl : ∀ x ∈ l, inB x.fr ∧ inB x.to ∧ inB x.cap) (hs : l.length * 24 ≤ 140737488351232) (ra : Int) (hra : inB ra) (rb : Int) (hrb : inB rb) :
    Fn 12 [.int .i64 nodes, .int .i64 ends, .slice A l.length c, .int .i64 ra, .int .i64 rb] [] [.seg b o (arcs l)] fun v _ => v = .bool true := by
  refine Fn_of Try.func12 rfl rfl fun w0 => ?_
  (repeat' (first | refine J_seq ?_ | refine J_skip ?_ | refine J_yes rfl ?_ | refine J_no rfl ?_))
  refine J_region ?_
  refine JL_all [] rfl ?_
  (repeat' (first | refine J_seq ?_ | refine J_skip ?_ | refine J_yes rfl ?_ | refine J_no rfl ?_))
  refine J_region ?_
  refine JL_callR [] (shown12_fn) rfl rfl rfl rfl (by kernel_rfl) trivial (fun _ => rfl) ?_
  rintro v H' ⟨rfl, rfl⟩
  refine ⟨rfl, ?_⟩
  refine JL_all [] rfl ?_
  (repeat' (first | refine J_seq ?_ | refine J_skip ?_ | refine J_yes rfl ?_ | refine J_no rfl ?_))
  refine J_region ?_
  refine JL_all [] rfl ?_
  (repeat' (first | refine J_seq ?_ | refine J_skip ?_ | refine J_yes rfl ?_ | refine J_no rfl ?_))
  refine J_region ?_
  refine JL_run [] rfl ?_
  refine JL_callR [] (made12_fn nodes ends hn he A c b o l hA hl (by omega)) rfl rfl rfl rfl (by kernel_rfl) ⟨⟨0, _, by simp, rfl, shows_seg _ _ _, seen_seg⟩, trivial⟩ (fun _ => rfl) ?_
  rintro v H' ⟨N, A', c', hR, hn9, h24, hcm, rfl, rfl⟩
  refine ⟨rfl, ?_⟩
  refine JL_alloc rfl rfl rfl (fun _ => rfl) fun b12 => ?_
  refine JL_store 0 rfl rfl rfl rfl rfl [] rfl ?_
  refine JL_know (own_is 1 rfl) fun ⟨_, _, hA1, hl1⟩ => ?_
  obtain ⟨g1, hA1⟩ := own_at hA1 hl1
  have hA1' : N.arcs ≠ [] → A' = some ⟨g1, 0, none⟩ := fun h => hA1 (fun h0 => h (List.length_eq_zero_iff.1 (by have := arcs_length N.arcs; rw [h0] at this; simp at this; omega)))
  have hF := hR.fits2
  have hz := zeroFlow N hR
  have hnn := hR.nodes
  have hsr := hR.src
  have hsk := hR.snk
  refine JL_nil ?_
  (repeat' (first | refine J_seq ?_ | refine J_skip ?_ | refine J_yes rfl ?_ | refine J_no rfl ?_))
  refine J_region ?_
  refine JL_val [] (v := netV N A' c') (OpV_blk 0 rfl rfl rfl rfl) rfl ?_
  refine JL_callR [] (max_fn N hF hR A' c' g1 0 hA1') rfl rfl rfl rfl (by kernel_rfl) ⟨⟨1, _, by simp, rfl, shows_ownS hA1, seen_ownS hA1⟩, trivial⟩ (fun _ => rfl) ?_
  rintro v H' ⟨fa, pa, ka, Aa, ca, hda, _, rfl, rfl⟩
  obtain ⟨hfa, _, _, lva, hlva, hlta⟩ := hda.keeps hR (by decide) hz
  refine ⟨rfl, ?_⟩
  refine JL_run [] rfl ?_
  refine JL_alloc rfl rfl rfl (fun _ => rfl) fun b13 => ?_
  refine JL_store 0 rfl rfl rfl rfl rfl [] rfl ?_
  refine JL_all [] rfl ?_
  refine J_know (own_is 1 rfl) fun ⟨_, _, hAa, hla⟩ => ?_
  obtain ⟨ga, hAa⟩ := own_at hAa hla
  have hAa' : fa ≠ [] → Aa = some ⟨ga, 0, none⟩ := fun h => hAa (by simpa [ints] using h)
  have hfal := hfa.len
  (repeat' (first | refine J_seq ?_ | refine J_skip ?_ | refine J_yes rfl ?_ | refine J_no rfl ?_))
  refine J_region ?_
  refine JL_val [] (v := netV N A' c') (OpV_blk 2 rfl rfl rfl rfl) rfl ?_
  refine JL_run [] rfl ?_
  refine JL_val [] (v := .slice Aa fa.length ca) (OpV_blk 0 rfl rfl rfl rfl) rfl ?_
  refine JL_callR [] (fvalue_fn N hF hR A' c' g1 0 hA1' fa Aa ca ga 0 hAa' (IsFlow.inB hR hfa.toRanged) (by omega)) rfl rfl rfl rfl (by kernel_rfl) ⟨⟨3, _, by simp, rfl, shows_ownS hA1, seen_ownS hA1⟩, ⟨1, _, by simp, rfl, shows_ownS hAa, seen_ownS hAa⟩, trivial⟩ (fun _ => rfl) ?_
  rintro v H' ⟨⟨rfl, _⟩ | ⟨_, h⟩, rfl⟩
  case inr => exact absurd hfa h
  refine ⟨rfl, ?_⟩
  refine JL_all [] rfl ?_
  obtain ⟨v, hv⟩ : ∃ v, v = exZ (N.arcs.zip fa) N.snk := ⟨_, rfl⟩
  have hvb := value_bound hR hfa.toRanged N.snk
  rw [← hv] at hvb
  refine J_set 15 (v' := .int .i64 v) rfl (congrArg (Value.int .i64) hv.symm) ?_
  have hpk := pickZ_in (c := rb) (n := 9) (by decide)
  (repeat' (first | refine J_seq ?_ | refine J_skip ?_ | refine J_yes rfl ?_ | refine J_no rfl ?_))
  refine J_region ?_
  refine JL_run [] rfl ?_
  refine JL_callR [] (pick12_fn hrb (by decide : (0:Int) < 9)) rfl rfl rfl rfl (by kernel_rfl) trivial (fun _ => rfl) ?_
  rintro v H' ⟨rfl, rfl⟩
  refine ⟨rfl, ?_⟩
  refine JL_all [] rfl ?_
  obtain ⟨x, hx⟩ : ∃ x, x = 1 + pickZ rb 9 := ⟨_, rfl⟩
  refine J_set 17 (v' := .int .i64 x) rfl (congrArg (Value.int .i64) (by rw [hx]; exact w64 (by omega))) ?_
  have hx1 : 1 ≤ x ∧ x ≤ 9 := by omega
  (repeat' (first | refine J_seq ?_ | refine J_skip ?_ | refine J_yes rfl ?_ | refine J_no rfl ?_))
  refine J_region ?_
  refine JL_val [] (v := netV N A' c') (OpV_blk 2 rfl rfl rfl rfl) rfl ?_
  refine JL_callR [] (copy_fn N (by omega) A' c' g1 0 hA1') rfl rfl rfl rfl (by kernel_rfl) ⟨⟨3, _, by simp, rfl, shows_ownS hA1, seen_ownS hA1⟩, trivial⟩ (fun _ => rfl) ?_
  rintro _ H' ⟨A2, c2, rfl, rfl⟩
  refine ⟨rfl, ?_⟩
  refine JL_alloc rfl rfl rfl (fun _ => rfl) fun b18 => ?_
  refine JL_store 0 rfl rfl rfl rfl rfl [] rfl ?_
  refine JL_all [] rfl ?_
  refine J_fit (K := [blk b18 26 [.int .i64 N.nodes, .int .i64 N.src, .int .i64 N.snk, .slice A2 N.arcs.length c2], .own (.slice A2 N.arcs.length c2) 29 3 N.arcs.length (arcs N.arcs), blk b12 26 (netC N A' c')]) (Fit.picks [0, 1, 4] (by decide) rfl) ?_
  (repeat' (first | refine J_seq ?_ | refine J_skip ?_ | refine J_yes rfl ?_ | refine J_no rfl ?_))
  refine J_region ?_
  refine JL_evO (gs := [999]) rfl ?_
  refine JL_val [] (v := .slice A2 N.arcs.length c2) (OpV_blk 0 rfl rfl rfl rfl) rfl ?_
  refine JL_evO (gs := [999]) rfl ?_
  refine JL_val [] (OpV_build rfl rfl rfl rfl rfl rfl) rfl ?_
  refine JL_lit rfl rfl rfl rfl rfl rfl rfl (fun _ => rfl) fun g2 => ?_
  refine JL_appendS (n := N.arcs.length) (m := 1) (off := 0) (news := arcs [⟨1, 1, x⟩]) 2 0 rfl rfl rfl rfl rfl rfl (by decide) rfl rfl (shows_blk g2 _ _ (0, 0)) (fun _ => rfl) rfl rfl (by omega) (by omega) (fun _ _ => rfl) fun A3 c3 => ?_
  refine JL_evO (gs := [999]) rfl ?_
  refine JL_store 1 rfl rfl rfl rfl rfl [] rfl ?_
  refine JL_nil ?_
  refine J_fit (Fit.sub (List.sublist_cons_self _ _)) ?_
  (repeat' (first | refine J_seq ?_ | refine J_skip ?_ | refine J_yes rfl ?_ | refine J_no rfl ?_))
  refine J_region ?_
  refine JL_evO (gs := [999]) rfl ?_
  refine JL_val [] (v := .slice A3 (N.arcs.length + 1) c3) (OpV_blk 0 rfl rfl rfl rfl) rfl ?_
  refine JL_evO (gs := [999]) rfl ?_
  refine JL_val [] (v := .int .i64 N.nodes) (OpV_blk 2 rfl rfl rfl rfl) rfl ?_
  refine JL_evO (gs := [999]) rfl ?_
  refine JL_val [] (v := .int .i64 N.src) (OpV_blk 2 rfl rfl rfl rfl) rfl ?_
  refine JL_evO (gs := [999]) rfl ?_
  refine JL_val [] (OpV_build rfl rfl rfl rfl rfl rfl) rfl ?_
  refine JL_lit rfl rfl rfl rfl rfl rfl rfl (fun _ => rfl) fun g3 => ?_
  refine JL_appendS (n := N.arcs.length + 1) (m := 1) (off := 0) (news := arcs [⟨N.nodes, N.src, x⟩]) 2 0 rfl rfl rfl rfl rfl rfl (by decide) rfl rfl (shows_blk g3 _ _ (0, 0)) (fun _ => rfl) rfl rfl (by omega) (by omega) (fun _ _ => rfl) fun A4 c4 => ?_
  refine JL_evO (gs := [999]) rfl ?_
  refine JL_store 1 rfl rfl rfl rfl rfl [] rfl ?_
  refine JL_nil ?_
  refine J_fit (Fit.sub (List.sublist_cons_self _ _)) ?_
  (repeat' (first | refine J_seq ?_ | refine J_skip ?_ | refine J_yes rfl ?_ | refine J_no rfl ?_))
  refine J_region ?_
  refine JL_evO (gs := [999]) rfl ?_
  refine JL_val [] (v := .slice A4 (N.arcs.length + 1 + 1) c4) (OpV_blk 0 rfl rfl rfl rfl) rfl ?_
  refine JL_evO (gs := [999]) rfl ?_
  refine JL_val [] (v := .int .i64 N.snk) (OpV_blk 2 rfl rfl rfl rfl) rfl ?_
  refine JL_evO (gs := [999]) rfl ?_
  refine JL_val [] (OpV_build rfl rfl rfl rfl rfl rfl) rfl ?_
  refine JL_lit rfl rfl rfl rfl rfl rfl rfl (fun _ => rfl) fun g4 => ?_
  refine JL_appendS (n := N.arcs.length + 1 + 1) (m := 1) (off := 0) (news := arcs [⟨N.snk, 1, x⟩]) 2 0 rfl rfl rfl rfl rfl rfl (by decide) rfl rfl (shows_blk g4 _ _ (0, 0)) (fun _ => rfl) rfl rfl (by omega) (by omega) (fun _ _ => rfl) fun A5 c5 => ?_
  refine JL_evO (gs := [999]) rfl ?_
  refine JL_store 1 rfl rfl rfl rfl rfl [] rfl ?_
  refine JL_nil ?_
  obtain ⟨M, hM⟩ : ∃ M, M = addArcs N [⟨1, 1, x⟩, ⟨N.nodes, N.src, x⟩, ⟨N.snk, 1, x⟩] := ⟨_, rfl⟩
  have hMl : M.arcs.length = N.arcs.length + 1 + 1 + 1 := by rw [hM]; simp [addArcs]
  have hMa : arcs M.arcs = ((arcs N.arcs ++ arcs [⟨1, 1, x⟩]) ++ arcs [⟨N.nodes, N.src, x⟩]) ++ arcs [⟨N.snk, 1, x⟩] := by
    rw [hM, ← arcs_app, ← arcs_app, ← arcs_app]
    simp [addArcs]
  refine J_fit (K := [blk b18 26 (netC M A5 c5), .own (.slice A5 M.arcs.length c5) 29 3 M.arcs.length (arcs M.arcs)]) (by
    unfold netC
    rw [hMl, hMa, hM]
    exact Fit.picks [1, 2] (by decide) rfl) ?_
  have hMmem : ∀ a ∈ M.arcs, ((1 ≤ a.fr ∧ a.fr ≤ N.nodes) ∧ (1 ≤ a.to ∧ a.to ≤ N.nodes)) ∧ 0 ≤ a.cap ∧ a.cap ≤ 1000000 := by
    intro a ha
    rw [hM] at ha
    rcases List.mem_append.1 ha with ha | ha
    · have h1 := hR.arc a ha
      have h2 := hcm a ha
      exact ⟨⟨h1.1, h1.2.1⟩, h1.2.2, h2⟩
    · simp only [List.mem_cons, List.not_mem_nil, or_false] at ha
      rcases ha with rfl | rfl | rfl
      · exact ⟨⟨by show 1 ≤ (1 : Int) ∧ (1 : Int) ≤ _; omega, by show 1 ≤ (1 : Int) ∧ (1 : Int) ≤ _; omega⟩, by show 0 ≤ x ∧ x ≤ _; omega⟩
      · exact ⟨⟨by show 1 ≤ N.nodes ∧ N.nodes ≤ _; omega, by show 1 ≤ N.src ∧ N.src ≤ _; omega⟩, by show 0 ≤ x ∧ x ≤ _; omega⟩
      · exact ⟨⟨by show 1 ≤ N.snk ∧ N.snk ≤ _; omega, by show 1 ≤ (1 : Int) ∧ (1 : Int) ≤ _; omega⟩, by show 0 ≤ x ∧ x ≤ _; omega⟩
  have hMR : M.Right := right_of hR (by rw [hM]; rfl) (by rw [hM]; rfl) (by rw [hM]; rfl) (by omega) fun a ha => ⟨(hMmem a ha).1, by have := hMmem a ha; omega⟩
  have hMF := hMR.fits2
  refine J_know (own_is 1 rfl) fun ⟨_, _, hA5, hl5⟩ => ?_
  obtain ⟨g5, hA5⟩ := own_at hA5 hl5
  have hA5' : M.arcs ≠ [] → A5 = some ⟨g5, 0, none⟩ := fun h => hA5 (fun h0 => h (List.length_eq_zero_iff.1 (by have := arcs_length M.arcs; rw [h0] at this; simp at this; omega)))
  (repeat' (first | refine J_seq ?_ | refine J_skip ?_ | refine J_yes rfl ?_ | refine J_no rfl ?_))
  refine J_region ?_
  refine JL_val [] (v := netV M A5 c5) (OpV_blk 0 rfl rfl rfl rfl) rfl ?_
  refine JL_callR [] (max_fn M hMF hMR A5 c5 g5 0 hA5') rfl rfl rfl rfl (by kernel_rfl) ⟨⟨1, _, by simp, rfl, shows_ownS hA5, seen_ownS hA5⟩, trivial⟩ (fun _ => rfl) ?_
  rintro _ H' ⟨fb, pb, kb, Ab, cb, hdb, _, rfl, rfl⟩
  obtain ⟨hfb, _, _, lvb, hlvb, hltb⟩ := hdb.keeps hMR (by decide) (zeroFlow M hMR)
  refine ⟨rfl, ?_⟩
  refine JL_run [] rfl ?_
  refine JL_alloc rfl rfl rfl (fun _ => rfl) fun b19 => ?_
  refine JL_store 0 rfl rfl rfl rfl rfl [] rfl ?_
  refine JL_all [] rfl ?_
  refine J_know (own_is 1 rfl) fun ⟨_, _, hAb, hlb⟩ => ?_
  obtain ⟨gb, hAb⟩ := own_at hAb hlb
  have hAb' : fb ≠ [] → Ab = some ⟨gb, 0, none⟩ := fun h => hAb (by simpa [ints] using h)
  have hfbl := hfb.len
  (repeat' (first | refine J_seq ?_ | refine J_skip ?_ | refine J_yes rfl ?_ | refine J_no rfl ?_))
  refine J_region ?_
  refine JL_val [] (v := netV M A5 c5) (OpV_blk 2 rfl rfl rfl rfl) rfl ?_
  refine JL_run [] rfl ?_
  refine JL_val [] (v := .slice Ab fb.length cb) (OpV_blk 0 rfl rfl rfl rfl) rfl ?_
  refine JL_callR [] (fvalue_fn M hMF hMR A5 c5 g5 0 hA5' fb Ab cb gb 0 hAb' (IsFlow.inB hMR hfb.toRanged) (by omega)) rfl rfl rfl rfl (by kernel_rfl) ⟨⟨3, _, by simp, rfl, shows_ownS hA5, seen_ownS hA5⟩, ⟨1, _, by simp, rfl, shows_ownS hAb, seen_ownS hAb⟩, trivial⟩ (fun _ => rfl) ?_
  rintro _ H' ⟨⟨rfl, _⟩ | ⟨_, h⟩, rfl⟩
  case inr => exact absurd hfb h
  refine ⟨rfl, ?_⟩
  refine JL_all [] rfl ?_
  have hvw : exZ (M.arcs.zip fb) M.snk = v := by
    subst hM
    rw [hv]
    exact add_same hR hMR (fun a ha => by
      simp only [List.mem_cons, List.not_mem_nil, or_false] at ha
      rcases ha with rfl | rfl | rfl
      · exact ⟨by show 0 ≤ x; omega, .inl rfl⟩
      · exact ⟨by show 0 ≤ x; omega, .inr (.inl rfl)⟩
      · exact ⟨by show 0 ≤ x; omega, .inr (.inr rfl)⟩) hfa hlva hlta hfb hlvb hltb
  refine J_set 21 (v' := .int .i64 v) rfl (congrArg (Value.int .i64) hvw) ?_
  (repeat' (first | refine J_seq ?_ | refine J_skip ?_ | refine J_yes rfl ?_ | refine J_no rfl ?_))
  refine J_region ?_
  refine JL_evO (gs := [999]) rfl ?_
  refine JL_evO (gs := [999]) rfl ?_
  refine JL_evO (gs := [999]) rfl ?_
  refine JL_set 93 (v' := .bool false) rfl (congrArg Value.bool (cdec_no (fun h => h rfl))) ?_
  refine JL_run [2] rfl ?_
  refine JL_set 97 (v' := .bool false) rfl (congrArg Value.bool (cdec_no (fun h => h rfl))) ?_
  refine JL_all [2, 6] rfl ?_
  (repeat' (first | refine J_seq ?_ | refine J_skip ?_ | refine J_yes rfl ?_ | refine J_no rfl ?_))
  refine J_dec rfl (fun h => absurd rfl h) (fun _ => J_skip ?_)
  obtain rfl := hA5' (by intro h; rw [h] at hMl; simp at hMl)
  refine J_fit (K := [blk b18 26 (netC M (some ⟨g5, 0, none⟩) c5), .own (.slice (some ⟨g5, 0, none⟩) M.arcs.length c5) 29 3 M.arcs.length (arcs M.arcs)]) (Fit.picks [2, 3] (by decide) rfl) ?_
  have hpa := pickZ_in (c := ra) (n := (M.arcs.length : Int)) (by omega)
  obtain ⟨k, hk⟩ : ∃ k : Nat, pickZ ra (M.arcs.length : Int) = k := ⟨(pickZ ra (M.arcs.length : Int)).toNat, by omega⟩
  have hkl : k < M.arcs.length := by omega
  obtain ⟨a, ha⟩ : ∃ a, M.arcs[k]? = some a := ⟨M.arcs[k], List.getElem?_eq_getElem hkl⟩
  have ham := hMmem a (List.mem_of_getElem? ha)
  have hal : (arcs M.arcs).length = M.arcs.length * 3 := by have := arcs_length M.arcs; omega
  (repeat' (first | refine J_seq ?_ | refine J_skip ?_ | refine J_yes rfl ?_ | refine J_no rfl ?_))
  refine J_region ?_
  refine JL_evO (gs := [999]) rfl ?_
  refine JL_evO (gs := [999]) rfl ?_
  refine JL_val [] (v := .slice (some ⟨g5, 0, none⟩) M.arcs.length c5) (OpV_blk 0 rfl rfl rfl rfl) rfl ?_
  refine JL_evO (gs := [999]) rfl ?_
  refine JL_callR [] (pick12_fn hra (show (0 : Int) < (M.arcs.length : Int) by omega)) rfl rfl rfl rfl (by kernel_rfl) trivial (fun _ => rfl) ?_
  rintro v H' ⟨rfl, rfl⟩
  refine ⟨rfl, ?_⟩
  refine JL_all [] rfl ?_
  refine J_set 23 (v' := .int .i64 (k : Int)) rfl (congrArg (Value.int .i64) hk) ?_
  (repeat' (first | refine J_seq ?_ | refine J_skip ?_ | refine J_yes rfl ?_ | refine J_no rfl ?_))
  refine J_walk 13 [(0, true), (1, true), (2, true), (3, true), (4, true), (5, true), (6, true), (7, true), (8, true), (9, true), (10, true), (11, true), (12, true)] [0, 1] (by kernel_rfl) (by decide) rfl ?_
  refine JW_evO (gs := [999]) rfl rfl ?_
  refine JW_still [] rfl (OpV_blk (v := .slice (some ⟨g5, 0, none⟩) M.arcs.length c5) 0 rfl rfl rfl rfl) rfl ?_
  refine JW_evO (gs := [999]) rfl rfl ?_
  refine JW_evO (gs := [999]) rfl rfl ?_
  refine JW_still [] rfl (OpV_blk (v := .slice (some ⟨g5, 0, none⟩) M.arcs.length c5) 0 rfl rfl rfl rfl) rfl ?_
  refine JW_evO (gs := [999]) rfl rfl ?_
  refine JW_still [] rfl (idxNz rfl rfl rfl rfl rfl hkl) rfl ?_
  refine JW_evO (gs := [999]) rfl rfl ?_
  refine JW_still [] rfl (OpV_own (v := .int .i64 a.cap) 1 rfl rfl rfl (arcs_cap ha)) rfl ?_
  refine JW_evO (gs := [999]) rfl rfl ?_
  refine JW_evO (gs := [999]) rfl rfl ?_
  refine JW_set 117 (v' := .int .i64 (a.cap + x)) rfl (congrArg (Value.int .i64) (w64 (by omega))) ?_
  refine JW_still [] rfl (idxNz rfl rfl rfl rfl rfl hkl) rfl ?_
  refine JW_evO (gs := [999]) rfl rfl ?_
  refine JW_nil ?_
  refine JL_store_own 1 rfl rfl rfl rfl (put_one rfl rfl rfl (by rw [hal]; omega)) [] rfl ?_
  rw [arcs_more x _ _ _ ha]
  refine JL_nil ?_
  obtain ⟨M3, hM3⟩ : ∃ M3, M3 = moreArc M k x := ⟨_, rfl⟩
  have hM3l : M3.arcs.length = M.arcs.length := by rw [hM3]; simp [moreArc]
  refine J_fit (K := [blk b18 26 (netC M3 (some ⟨g5, 0, none⟩) c5), .own (.slice (some ⟨g5, 0, none⟩) M3.arcs.length c5) 29 3 M3.arcs.length (arcs M3.arcs)]) (by
    unfold netC
    rw [hM3l, hM3]
    exact Fit.refl) ?_
  have hM3R : M3.Right := right_of hR (by rw [hM3, hM]; rfl) (by rw [hM3, hM]; rfl) (by rw [hM3, hM]; rfl) (by omega) fun d hd => by
    rw [hM3] at hd
    rcases mem_more hd with hd | ⟨e, he, rfl⟩
    · have := hMmem d hd
      exact ⟨this.1, by omega⟩
    · have := hMmem e he
      exact ⟨this.1, by show 0 ≤ e.cap + x ∧ e.cap + x ≤ _; omega⟩
  have hM3F := hM3R.fits2
  refine J_know (own_is 1 rfl) fun ⟨_, _, hA6, hl6⟩ => ?_
  obtain ⟨g6, hA6⟩ := own_at hA6 hl6
  have hA6' : M3.arcs ≠ [] → (some ⟨g5, 0, none⟩ : Option Addr) = some ⟨g6, 0, none⟩ := fun h => hA6 (fun h0 => h (List.length_eq_zero_iff.1 (by have := arcs_length M3.arcs; rw [h0] at this; simp at this; omega)))
  (repeat' (first | refine J_seq ?_ | refine J_skip ?_ | refine J_yes rfl ?_ | refine J_no rfl ?_))
  refine J_region ?_
  refine JL_val [] (v := netV M3 (some ⟨g5, 0, none⟩) c5) (OpV_blk 0 rfl rfl rfl rfl) rfl ?_
  refine JL_callR [] (maxT_fn M3 hM3F hM3R (some ⟨g5, 0, none⟩) c5 g6 0 hA6') rfl rfl rfl rfl (by kernel_rfl) ⟨⟨1, _, by simp, rfl, shows_ownS hA6, seen_ownS hA6⟩, trivial⟩ (fun _ => rfl) ?_
  rintro _ H' ⟨fc, pc, kc, sc, Ac, cc, hdc, _, _, _, _, rfl, rfl⟩
  obtain ⟨hfc, _, _, lvc, hlvc, hltc⟩ := hdc.keeps hM3R (by decide) (zeroFlow M3 hM3R)
  refine ⟨rfl, ?_⟩
  refine JL_run [] rfl ?_
  refine JL_alloc rfl rfl rfl (fun _ => rfl) fun b24 => ?_
  refine JL_store 0 rfl rfl rfl rfl rfl [] rfl ?_
  refine JL_all [] rfl ?_
  refine J_know (own_is 1 rfl) fun ⟨_, _, hAc, hlc⟩ => ?_
  obtain ⟨gc, hAc⟩ := own_at hAc hlc
  have hAc' : fc ≠ [] → Ac = some ⟨gc, 0, none⟩ := fun h => hAc (by simpa [ints] using h)
  have hfcl := hfc.len
  (repeat' (first | refine J_seq ?_ | refine J_skip ?_ | refine J_yes rfl ?_ | refine J_no rfl ?_))
  refine J_region ?_
  refine JL_val [] (v := netV M3 (some ⟨g5, 0, none⟩) c5) (OpV_blk 2 rfl rfl rfl rfl) rfl ?_
  refine JL_run [] rfl ?_
  refine JL_val [] (v := .slice Ac fc.length cc) (OpV_blk 0 rfl rfl rfl rfl) rfl ?_
  refine JL_callR [] (fvalue_fn M3 hM3F hM3R (some ⟨g5, 0, none⟩) c5 g6 0 hA6' fc Ac cc gc 0 hAc' (IsFlow.inB hM3R hfc.toRanged) (by omega)) rfl rfl rfl rfl (by kernel_rfl) ⟨⟨3, _, by simp, rfl, shows_ownS hA6, seen_ownS hA6⟩, ⟨1, _, by simp, rfl, shows_ownS hAc, seen_ownS hAc⟩, trivial⟩ (fun _ => rfl) ?_
  rintro _ H' ⟨⟨rfl, _⟩ | ⟨_, h⟩, rfl⟩
  case inr => exact absurd hfc h
  refine ⟨rfl, ?_⟩
  refine JL_all [] rfl ?_
  obtain ⟨u, hu⟩ : ∃ u, u = exZ (M3.arcs.zip fc) M3.snk := ⟨_, rfl⟩
  have huv : v ≤ u ∧ u ≤ v + x := by
    subst hM3
    rw [hu, ← hvw]
    exact more_value hMR (by omega) hM3R hfb hlvb hltb hfc hlvc hltc
  refine J_set 26 (v' := .int .i64 u) rfl (congrArg (Value.int .i64) hu.symm) ?_
  (repeat' (first | refine J_seq ?_ | refine J_skip ?_ | refine J_yes rfl ?_ | refine J_no rfl ?_))
  refine J_region ?_
  refine JL_evO (gs := [999]) rfl ?_
  refine JL_evO (gs := [999]) rfl ?_
  refine JL_evO (gs := [999]) rfl ?_
  refine JL_set 134 (v' := .bool true) rfl (congrArg Value.bool (cdec_yes rfl)) ?_
  refine JL_run [2] rfl ?_
  refine JL_set 139 (v' := .bool true) rfl (congrArg Value.bool (cdec_yes huv.1)) ?_
  refine JL_evO (gs := [2, 7]) rfl ?_
  refine JL_evO (gs := [2, 7]) rfl ?_
  refine JL_evO (gs := [2, 7]) rfl ?_
  refine JL_evO (gs := [2, 7]) rfl ?_
  refine JL_set 143 (v' := .int .i64 (v + x)) rfl (congrArg (Value.int .i64) (w64 (by omega))) ?_
  refine JL_all [2, 7] rfl ?_
  exact J_ret ⟨_, rfl, congrArg Value.bool (cdec_yes huv.2)⟩
end Go.Proofs.Ytcgcimnjknadjaa
