
/- TreeRooms: from a flow on, and with any room that is asked for, what is told is a flow, worth more by what its walks lead. -/
import Derived.Test.YtcgcimnjknadjaaSh11N
import Derived.Test.YtcgcimnjknadjaaSame5
import Derived.Test.YtcgcimnjknadjaaRoutedN11
import Derived.Test.YtcgcimnjknadjaaRiseP
set_option linter.unusedVariables false
set_option linter.unusedSimpArgs false
namespace Go.Proofs.Ytcgcimnjknadjaa
open Go.RowKit
set_option maxHeartbeats 2000000 in
theorem treeRooms_fn (nodes : Int) (hn : inB nodes) (ends : Int) (he : inB ends) (A : Option Addr) (c b o : Nat) (l : List Arc) (hA : l ≠ [] → A = some ⟨b, o, none⟩) (hl : ∀ x ∈ l, inB x.fr ∧ inB x.to ∧ inB x.cap) (hs : l.length * 24 ≤ 140737488351232)
    (K : Option Addr) (ck bk ok : Nat) (ks : List Int) (hK : ks ≠ [] → K = some ⟨bk, ok, none⟩) (hks : ∀ x ∈ ks, inB x) (hkz : ks.length * 8 ≤ 140737488351232) (ra : Int) (hra : inB ra) (rb : Int) (hrb : inB rb) :
    Fn 4 [.int .i64 nodes, .int .i64 ends, .slice A l.length c, .slice K ks.length ck, .int .i64 ra, .int .i64 rb] [] [.seg b o (arcs l), .seg bk ok (ints ks)] fun v _ => v = .bool true := by
  refine Fn_of Try.func4 rfl rfl fun w0 => ?_
  (repeat' (first | refine J_seq ?_ | refine J_skip ?_ | refine J_yes rfl ?_ | refine J_no rfl ?_))
  refine J_region ?_
  refine JL_all [] rfl ?_
  (repeat' (first | refine J_seq ?_ | refine J_skip ?_ | refine J_yes rfl ?_ | refine J_no rfl ?_))
  refine J_region ?_
  refine JL_callR [] (shown11_fn) rfl rfl rfl rfl (by kernel_rfl) trivial (fun _ => rfl) ?_
  rintro v H' ⟨rfl, rfl⟩
  refine ⟨rfl, ?_⟩
  refine JL_all [] rfl ?_
  (repeat' (first | refine J_seq ?_ | refine J_skip ?_ | refine J_yes rfl ?_ | refine J_no rfl ?_))
  refine J_region ?_
  refine JL_all [] rfl ?_
  (repeat' (first | refine J_seq ?_ | refine J_skip ?_ | refine J_yes rfl ?_ | refine J_no rfl ?_))
  refine J_region ?_
  refine JL_run [] rfl ?_
  refine JL_callR [] (made11_fn nodes ends hn he A c b o l hA hl (by omega)) rfl rfl rfl rfl (by kernel_rfl) ⟨⟨0, _, by simp, rfl, shows_seg _ _ _, seen_seg⟩, trivial⟩ (fun _ => rfl) ?_
  rintro v H' ⟨N, A', c', hR, hn9, h24, _, rfl, rfl⟩
  refine ⟨rfl, ?_⟩
  refine JL_alloc rfl rfl rfl (fun _ => rfl) fun b12 => ?_
  refine JL_store 0 rfl rfl rfl rfl rfl [] rfl ?_
  refine JL_know (own_is 1 rfl) fun ⟨_, _, hA1, hl1⟩ => ?_
  obtain ⟨g1, hA1⟩ := own_at hA1 hl1
  have hA1' : N.arcs ≠ [] → A' = some ⟨g1, 0, none⟩ := fun h => hA1 (fun h0 => h (List.length_eq_zero_iff.1 (by have := arcs_length N.arcs; rw [h0] at this; simp at this; omega)))
  have hF := hR.fits2
  refine JL_nil ?_
  (repeat' (first | refine J_seq ?_ | refine J_skip ?_ | refine J_yes rfl ?_ | refine J_no rfl ?_))
  refine J_region ?_
  refine JL_val [] (v := netV N A' c') (OpV_blk 0 rfl rfl rfl rfl) rfl ?_
  refine JL_run [] rfl ?_
  refine JL_callR [] (routed_fn N hR A' c' g1 0 hA1' K ck bk ok ks hK hks hkz) rfl rfl rfl rfl (by kernel_rfl) ⟨⟨1, _, by simp, rfl, shows_ownS hA1, seen_ownS hA1⟩, ⟨3, _, by simp, rfl, shows_seg _ _ _, seen_seg⟩, trivial⟩ (fun _ => rfl) ?_
  rintro v H' ⟨f, gf, rfl, rfl, hf⟩
  refine ⟨rfl, ?_⟩
  refine JL_all [] rfl ?_
  have hfl := hf.len
  have hfin := IsFlow.inB hR hf.toRanged
  have hpa := pickZ_in (c := ra) (n := 12) (by decide)
  have hpb := pickZ_in (c := rb) (n := 12) (by decide)
  (repeat' (first | refine J_seq ?_ | refine J_skip ?_ | refine J_yes rfl ?_ | refine J_no rfl ?_))
  refine J_region ?_
  refine JL_run [] rfl ?_
  refine JL_callR [] (pick11_fn hra (by decide : (0:Int) < 12)) rfl rfl rfl rfl (by kernel_rfl) trivial (fun _ => rfl) ?_
  rintro v H' ⟨rfl, rfl⟩
  refine ⟨rfl, ?_⟩
  refine JL_run [] rfl ?_
  refine JL_callR [] (pick11_fn hrb (by decide : (0:Int) < 12)) rfl rfl rfl rfl (by kernel_rfl) trivial (fun _ => rfl) ?_
  rintro v H' ⟨rfl, rfl⟩
  refine ⟨rfl, ?_⟩
  refine JL_all [] rfl ?_
  obtain ⟨x, hx⟩ : ∃ x, x = 1 + if pickZ rb 12 > pickZ ra 12 then pickZ rb 12 else pickZ ra 12 := ⟨_, rfl⟩
  obtain ⟨y, hy⟩ : ∃ y, y = 1 + if pickZ rb 12 < pickZ ra 12 then pickZ rb 12 else pickZ ra 12 := ⟨_, rfl⟩
  have hx1 : 1 ≤ x ∧ x ≤ 12 := by rw [hx]; split <;> omega
  have hy1 : 1 ≤ y ∧ y ≤ 12 := by rw [hy]; split <;> omega
  have hxb : inB x := by unfold inB; omega
  have hyb : inB y := by unfold inB; omega
  refine J_set 16 (v' := .int .i64 x) rfl (congrArg (Value.int .i64) (by rw [← hx]; exact w64 (by omega))) ?_
  (repeat' (first | refine J_seq ?_ | refine J_skip ?_ | refine J_yes rfl ?_ | refine J_no rfl ?_))
  refine J_region ?_
  refine JL_run [] rfl ?_
  refine JL_callR [] (pick11_fn hra (by decide : (0:Int) < 12)) rfl rfl rfl rfl (by kernel_rfl) trivial (fun _ => rfl) ?_
  rintro v H' ⟨rfl, rfl⟩
  refine ⟨rfl, ?_⟩
  refine JL_run [] rfl ?_
  refine JL_callR [] (pick11_fn hrb (by decide : (0:Int) < 12)) rfl rfl rfl rfl (by kernel_rfl) trivial (fun _ => rfl) ?_
  rintro v H' ⟨rfl, rfl⟩
  refine ⟨rfl, ?_⟩
  refine JL_all [] rfl ?_
  refine J_set 17 (v' := .int .i64 y) rfl (congrArg (Value.int .i64) (by rw [← hy]; exact w64 (by omega))) ?_
  have TT := tblock_fn N hF hR A' c' g1 0 hA1' f (some ⟨gf, 0, none⟩) N.arcs.length gf 0 (fun _ => rfl) hfin (by omega) x hxb
  rw [hfl] at TT
  (repeat' (first | refine J_seq ?_ | refine J_skip ?_ | refine J_yes rfl ?_ | refine J_no rfl ?_))
  refine J_region ?_
  refine JL_val [] (v := netV N A' c') (OpV_blk 1 rfl rfl rfl rfl) rfl ?_
  refine JL_run [] rfl ?_
  refine JL_callR [] TT rfl rfl rfl rfl (by kernel_rfl) ⟨⟨2, _, by simp, rfl, shows_ownS hA1, seen_ownS hA1⟩, ⟨0, _, by simp, rfl, shows_own, .inr rfl⟩, trivial⟩ (fun _ => rfl) ?_
  rintro v H' (⟨_, _, f1, ws1, k1, Ao, co, hB1, _, _, hw1, rfl, rfl⟩ | ⟨h, _, _⟩ | ⟨_, h, _, _⟩)
  case inr.inl => exact absurd hf h
  case inr.inr => omega
  obtain ⟨hf1, hg1, hg2, _⟩ := hB1.gain hR hx1.1 hf
  have hf1l := hf1.len
  have hf1in := IsFlow.inB hR hf1.toRanged
  refine ⟨rfl, ?_⟩
  refine JL_know (own_is 0 rfl) fun ⟨_, _, hAo, hlo⟩ => ?_
  obtain ⟨go, hAo⟩ := own_at hAo hlo
  have hAo' : f1 ≠ [] → Ao = some ⟨go, 0, none⟩ := fun h => hAo (by simpa [ints] using h)
  refine JL_all [] rfl ?_
  have TT2 := tblock_fn N hF hR A' c' g1 0 hA1' f1 Ao co go 0 hAo' hf1in (by omega) y hyb
  rw [hf1l] at TT2
  (repeat' (first | refine J_seq ?_ | refine J_skip ?_ | refine J_yes rfl ?_ | refine J_no rfl ?_))
  refine J_region ?_
  refine JL_val [] (v := netV N A' c') (OpV_blk 2 rfl rfl rfl rfl) rfl ?_
  refine JL_run [] rfl ?_
  refine JL_callR [] TT2 rfl rfl rfl rfl (by kernel_rfl) ⟨⟨3, _, by simp, rfl, shows_ownS hA1, seen_ownS hA1⟩, ⟨0, _, by simp, rfl, shows_ownS hAo, seen_ownS hAo⟩, trivial⟩ (fun _ => rfl) ?_
  rintro v H' (⟨_, _, f2, ws2, k2, Ap, cp, hB2, _, _, hw2, rfl, rfl⟩ | ⟨h, _, _⟩ | ⟨_, h, _, _⟩)
  case inr.inl => exact absurd hf1 h
  case inr.inr => omega
  obtain ⟨hf2, hg3, hg4, _⟩ := hB2.gain hR hy1.1 hf1
  have hf2l := hf2.len
  have hf2in := IsFlow.inB hR hf2.toRanged
  refine ⟨rfl, ?_⟩
  refine JL_know (own_is 0 rfl) fun ⟨_, _, hAp, hlp⟩ => ?_
  obtain ⟨gp, hAp⟩ := own_at hAp hlp
  have hAp' : f2 ≠ [] → Ap = some ⟨gp, 0, none⟩ := fun h => hAp (by simpa [ints] using h)
  refine JL_all [] rfl ?_
  have TV := fvalue_fn N hF hR A' c' g1 0 hA1' f (some ⟨gf, 0, none⟩) N.arcs.length gf 0 (fun _ => rfl) hfin (by omega)
  have TV1 := fvalue_fn N hF hR A' c' g1 0 hA1' f1 Ao co go 0 hAo' hf1in (by omega)
  have TV2 := fvalue_fn N hF hR A' c' g1 0 hA1' f2 Ap cp gp 0 hAp' hf2in (by omega)
  rw [hfl] at TV
  rw [hf1l] at TV1
  rw [hf2l] at TV2
  have b0 := value_bound hR hf.toRanged N.snk
  have b1 := value_bound hR hf1.toRanged N.snk
  have b2 := value_bound hR hf2.toRanged N.snk
  (repeat' (first | refine J_seq ?_ | refine J_skip ?_ | refine J_yes rfl ?_ | refine J_no rfl ?_))
  refine J_region ?_
  refine JL_val [] (v := netV N A' c') (OpV_blk 3 rfl rfl rfl rfl) rfl ?_
  refine JL_run [] rfl ?_
  refine JL_callR [] TV rfl rfl rfl rfl (by kernel_rfl) ⟨⟨4, _, by simp, rfl, shows_ownS hA1, seen_ownS hA1⟩, ⟨2, _, by simp, rfl, shows_own, .inr rfl⟩, trivial⟩ (fun _ => rfl) ?_
  rintro v H' ⟨⟨rfl, _⟩ | ⟨_, h⟩, rfl⟩
  case inr => exact absurd hf h
  refine ⟨rfl, ?_⟩
  refine JL_all [] rfl ?_
  (repeat' (first | refine J_seq ?_ | refine J_skip ?_ | refine J_yes rfl ?_ | refine J_no rfl ?_))
  refine J_region ?_
  refine JL_val [] (v := netV N A' c') (OpV_blk 3 rfl rfl rfl rfl) rfl ?_
  refine JL_run [] rfl ?_
  refine JL_callR [] TV1 rfl rfl rfl rfl (by kernel_rfl) ⟨⟨4, _, by simp, rfl, shows_ownS hA1, seen_ownS hA1⟩, ⟨1, _, by simp, rfl, shows_ownS hAo, seen_ownS hAo⟩, trivial⟩ (fun _ => rfl) ?_
  rintro v H' ⟨⟨rfl, _⟩ | ⟨_, h⟩, rfl⟩
  case inr => exact absurd hf1 h
  refine ⟨rfl, ?_⟩
  refine JL_all [] rfl ?_
  (repeat' (first | refine J_seq ?_ | refine J_skip ?_ | refine J_yes rfl ?_ | refine J_no rfl ?_))
  refine J_region ?_
  refine JL_val [] (v := netV N A' c') (OpV_blk 3 rfl rfl rfl rfl) rfl ?_
  refine JL_run [] rfl ?_
  refine JL_callR [] TV2 rfl rfl rfl rfl (by kernel_rfl) ⟨⟨4, _, by simp, rfl, shows_ownS hA1, seen_ownS hA1⟩, ⟨0, _, by simp, rfl, shows_ownS hAp, seen_ownS hAp⟩, trivial⟩ (fun _ => rfl) ?_
  rintro v H' ⟨⟨rfl, _⟩ | ⟨_, h⟩, rfl⟩
  case inr => exact absurd hf2 h
  refine ⟨rfl, ?_⟩
  refine JL_all [] rfl ?_
  obtain ⟨u, hu⟩ : ∃ u, u = exZ (N.arcs.zip f) N.snk := ⟨_, rfl⟩
  obtain ⟨v, hv⟩ : ∃ v, v = exZ (N.arcs.zip f1) N.snk := ⟨_, rfl⟩
  obtain ⟨w, hw⟩ : ∃ w, w = exZ (N.arcs.zip f2) N.snk := ⟨_, rfl⟩
  rw [← hu] at b0 hg1 hg2
  rw [← hv] at b1 hg1 hg2 hg3 hg4
  rw [← hw] at b2 hg3 hg4
  have p1 : 0 ≤ x * (ws1.length : Int) ∧ x * (ws1.length : Int) ≤ 12 * 24 := ⟨Int.mul_nonneg (by omega) (by omega), Int.mul_le_mul hx1.2 (by omega) (by omega) (by omega)⟩
  have p2 : 0 ≤ y * (ws2.length : Int) ∧ y * (ws2.length : Int) ≤ 12 * 24 := ⟨Int.mul_nonneg (by omega) (by omega), Int.mul_le_mul hy1.2 (by omega) (by omega) (by omega)⟩
  refine J_set 26 (v' := .int .i64 u) rfl (congrArg (Value.int .i64) hu.symm) ?_
  refine J_set 28 (v' := .int .i64 v) rfl (congrArg (Value.int .i64) hv.symm) ?_
  refine J_set 30 (v' := .int .i64 w) rfl (congrArg (Value.int .i64) hw.symm) ?_
  (repeat' (first | refine J_seq ?_ | refine J_skip ?_ | refine J_yes rfl ?_ | refine J_no rfl ?_))
  refine J_region ?_
  refine JL_evO (gs := [999]) rfl ?_
  refine JL_evO (gs := [999]) rfl ?_
  refine JL_evO (gs := [999]) rfl ?_
  refine JL_set 92 (v' := .bool false) rfl (congrArg Value.bool (cdec_no (fun h => h rfl))) ?_
  refine JL_run [2] rfl ?_
  refine JL_set 96 (v' := .bool false) rfl (congrArg Value.bool (cdec_no (fun h => h rfl))) ?_
  refine JL_run [2, 6] rfl ?_
  refine JL_set 100 (v' := .bool false) rfl (congrArg Value.bool (cdec_no (fun h => h rfl))) ?_
  refine JL_all [2, 6, 10] rfl ?_
  (repeat' (first | refine J_seq ?_ | refine J_skip ?_ | refine J_yes rfl ?_ | refine J_no rfl ?_))
  refine J_dec rfl (fun h => absurd rfl h) (fun _ => J_skip ?_)
  (repeat' (first | refine J_seq ?_ | refine J_skip ?_ | refine J_yes rfl ?_ | refine J_no rfl ?_))
  refine J_region ?_
  refine JL_evO (gs := [999]) rfl ?_
  refine JL_evO (gs := [999]) rfl ?_
  refine JL_evO (gs := [999]) rfl ?_
  refine JL_set 106 (v' := .int .i64 (v - u)) rfl (congrArg (Value.int .i64) (w64 (by omega))) ?_
  refine JL_evO (gs := [999]) rfl ?_
  refine JL_evO (gs := [999]) rfl ?_
  refine JL_evO (gs := [999]) rfl ?_
  refine JL_set 109 (v' := .int .i64 (x * (ws1.length : Int))) rfl (congrArg (Value.int .i64) (w64 (by omega))) ?_
  refine JL_evO (gs := [999]) rfl ?_
  refine JL_evO (gs := [999]) rfl ?_
  refine JL_set 111 (v' := .bool true) rfl (congrArg Value.bool (cdec_yes hg1)) ?_
  have key : ∀ p q : Prop, (p ↔ q) → (cdec p == cdec q) = true := fun p q h => by rw [cdec_iff h]; exact beq_self_eq_true _
  refine JL_evO (gs := [7]) rfl ?_
  refine JL_evO (gs := [7]) rfl ?_
  refine JL_evO (gs := [7]) rfl ?_
  refine JL_set 114 (v' := .int .i64 (w - v)) rfl (congrArg (Value.int .i64) (w64 (by omega))) ?_
  refine JL_evO (gs := [7]) rfl ?_
  refine JL_evO (gs := [7]) rfl ?_
  refine JL_evO (gs := [7]) rfl ?_
  refine JL_set 117 (v' := .int .i64 (y * (ws2.length : Int))) rfl (congrArg (Value.int .i64) (w64 (by omega))) ?_
  refine JL_run [7] rfl ?_
  refine JL_set 120 (v' := .bool true) rfl (congrArg Value.bool (cdec_yes hg3)) ?_
  refine JL_run [7, 16] rfl ?_
  refine JL_set 128 (v' := .bool true) rfl (congrArg Value.bool (key _ _ ⟨fun h => hg2.1 (by omega), fun h => by have := hg2.2 h; omega⟩)) ?_
  refine JL_run [7, 16, 24] rfl ?_
  refine JL_set 136 (v' := .bool true) rfl (congrArg Value.bool (key _ _ ⟨fun h => hg4.1 (by omega), fun h => by have := hg4.2 h; omega⟩)) ?_
  refine JL_run [7, 16, 24, 32] rfl ?_
  refine JL_val [7, 16, 24, 32] (v := .slice A' N.arcs.length c') (OpV_blk 3 rfl rfl rfl rfl) rfl ?_
  refine JL_evO (gs := [7, 16, 24, 32]) rfl ?_
  refine JL_evO (gs := [7, 16, 24, 32]) rfl ?_
  refine JL_set 141 (v' := .int .i64 (2 * (N.arcs.length : Int))) rfl (congrArg (Value.int .i64) (w64 (by omega))) ?_
  refine JL_all [7, 16, 24, 32] rfl ?_
  exact J_ret ⟨_, rfl, congrArg Value.bool (cdec_yes (by omega))⟩
end Go.Proofs.Ytcgcimnjknadjaa
