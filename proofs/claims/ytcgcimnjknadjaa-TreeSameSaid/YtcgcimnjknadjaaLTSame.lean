
/- TreeSame: by trees, and step by step, the same flow blocks. -/
import Derived.Test.YtcgcimnjknadjaaSh11N
import Derived.Test.YtcgcimnjknadjaaSame5
import Derived.Test.YtcgcimnjknadjaaRoutedN11
import Derived.Test.YtcgcimnjknadjaaBlkN
set_option linter.unusedVariables false
set_option linter.unusedSimpArgs false
namespace Go.Proofs.Ytcgcimnjknadjaa
open Go.RowKit
set_option maxHeartbeats 1000000 in
theorem treeSame_fn (nodes : Int) (hn : inB nodes) (ends : Int) (he : inB ends) (A : Option Addr) (c b o : Nat) (l : List Arc) (hA : l ≠ [] → A = some ⟨b, o, none⟩) (hl : ∀ x ∈ l, inB x.fr ∧ inB x.to ∧ inB x.cap) (hs : l.length * 24 ≤ 140737488351232)
    (K : Option Addr) (ck bk ok : Nat) (ks : List Int) (hK : ks ≠ [] → K = some ⟨bk, ok, none⟩) (hks : ∀ x ∈ ks, inB x) (hkz : ks.length * 8 ≤ 140737488351232) (least : Int) (hleast : inB least) :
    Fn 8 [.int .i64 nodes, .int .i64 ends, .slice A l.length c, .slice K ks.length ck, .int .i64 least] [] [.seg b o (arcs l), .seg bk ok (ints ks)] fun v _ => v = .bool true := by
  refine Fn_of Try.func8 rfl rfl fun w0 => ?_
  (repeat' (first | refine J_seq ?_ | refine J_skip ?_ | refine J_yes rfl ?_ | refine J_no rfl ?_))
  refine J_region ?_
  refine JL_all [] rfl ?_
  (repeat' (first | refine J_seq ?_ | refine J_skip ?_ | refine J_yes rfl ?_ | refine J_no rfl ?_))
  refine J_region ?_
  refine JL_callR [] (shown11_fn) rfl rfl rfl rfl (by kernel_rfl) trivial (fun _ => rfl) ?_
  rintro v H' ⟨rfl, rfl⟩
  refine ⟨rfl, ?_⟩
  refine JL_all [] rfl ?_
  (repeat' (first | refine J_seq ?_ | refine J_skip ?_ | refine J_yes rfl ?_ | refine J_no rfl ?_))
  refine J_region ?_
  refine JL_all [] rfl ?_
  (repeat' (first | refine J_seq ?_ | refine J_skip ?_ | refine J_yes rfl ?_ | refine J_no rfl ?_))
  refine J_region ?_
  refine JL_run [] rfl ?_
  refine JL_callR [] (made11_fn nodes ends hn he A c b o l hA hl (by omega)) rfl rfl rfl rfl (by kernel_rfl) ⟨⟨0, _, by simp, rfl, shows_seg _ _ _, seen_seg⟩, trivial⟩ (fun _ => rfl) ?_
  rintro v H' ⟨N, A', c', hR, hn9, h24, _, rfl, rfl⟩
  refine ⟨rfl, ?_⟩
  refine JL_alloc rfl rfl rfl (fun _ => rfl) fun b12 => ?_
  refine JL_store 0 rfl rfl rfl rfl rfl [] rfl ?_
  refine JL_know (own_is 1 rfl) fun ⟨_, _, hA1, hl1⟩ => ?_
  obtain ⟨g1, hA1⟩ := own_at hA1 hl1
  have hA1' : N.arcs ≠ [] → A' = some ⟨g1, 0, none⟩ := fun h => hA1 (fun h0 => h (List.length_eq_zero_iff.1 (by have := arcs_length N.arcs; rw [h0] at this; simp at this; omega)))
  have hF := hR.fits2
  refine JL_nil ?_
  (repeat' (first | refine J_seq ?_ | refine J_skip ?_ | refine J_yes rfl ?_ | refine J_no rfl ?_))
  refine J_region ?_
  refine JL_val [] (v := netV N A' c') (OpV_blk 0 rfl rfl rfl rfl) rfl ?_
  refine JL_run [] rfl ?_
  refine JL_callR [] (routed_fn N hR A' c' g1 0 hA1' K ck bk ok ks hK hks hkz) rfl rfl rfl rfl (by kernel_rfl) ⟨⟨1, _, by simp, rfl, shows_ownS hA1, seen_ownS hA1⟩, ⟨3, _, by simp, rfl, shows_seg _ _ _, seen_seg⟩, trivial⟩ (fun _ => rfl) ?_
  rintro v H' ⟨f, gf, rfl, rfl, hf⟩
  refine ⟨rfl, ?_⟩
  refine JL_all [] rfl ?_
  have hfl := hf.len
  have hfin := IsFlow.inB hR hf.toRanged
  (repeat' (first | refine J_seq ?_ | refine J_skip ?_ | refine J_yes rfl ?_ | refine J_no rfl ?_))
  refine J_region ?_
  refine JL_run [] rfl ?_
  refine JL_callR [] (pick11_fn hleast (by decide : (0:Int) < 12)) rfl rfl rfl rfl (by kernel_rfl) trivial (fun _ => rfl) ?_
  rintro v H' ⟨rfl, rfl⟩
  refine ⟨rfl, ?_⟩
  have hpk := pickZ_in (c := least) (n := 12) (by decide)
  refine JL_all [] rfl ?_
  refine J_set 14 (v' := .int .i64 (1 + pickZ least 12)) rfl (congrArg (Value.int .i64) (w64 (by omega))) ?_
  obtain ⟨x, hx⟩ : ∃ x, x = 1 + pickZ least 12 := ⟨_, rfl⟩
  rw [← hx]
  have hxb : inB x := by unfold inB; omega
  have TT := tblock_fn N hF hR A' c' g1 0 hA1' f (some ⟨gf, 0, none⟩) N.arcs.length gf 0 (fun _ => rfl) hfin (by omega) x hxb
  have TP := block_fn N hF hR A' c' g1 0 hA1' f (some ⟨gf, 0, none⟩) N.arcs.length gf 0 (fun _ => rfl) hfin (by omega) x
  rw [hfl] at TT TP
  (repeat' (first | refine J_seq ?_ | refine J_skip ?_ | refine J_yes rfl ?_ | refine J_no rfl ?_))
  refine J_region ?_
  refine JL_val [] (v := netV N A' c') (OpV_blk 1 rfl rfl rfl rfl) rfl ?_
  refine JL_run [] rfl ?_
  refine JL_callR [] TT rfl rfl rfl rfl (by kernel_rfl) ⟨⟨2, _, by simp, rfl, shows_ownS hA1, seen_ownS hA1⟩, ⟨0, _, by simp, rfl, shows_own, .inr rfl⟩, trivial⟩ (fun _ => rfl) ?_
  rintro v H' (⟨_, _, f1, ws1, k1, Ao, co, hB1, _, _, hw4, rfl, rfl⟩ | ⟨h, _, _⟩ | ⟨_, h, _, _⟩)
  case inr.inl => exact absurd hf h
  case inr.inr => omega
  refine ⟨rfl, ?_⟩
  refine JL_all [] rfl ?_
  (repeat' (first | refine J_seq ?_ | refine J_skip ?_ | refine J_yes rfl ?_ | refine J_no rfl ?_))
  refine J_region ?_
  refine JL_val [] (v := netV N A' c') (OpV_blk 2 rfl rfl rfl rfl) rfl ?_
  refine JL_run [] rfl ?_
  refine JL_callR [] TP rfl rfl rfl rfl (by kernel_rfl) ⟨⟨3, _, by simp, rfl, shows_ownS hA1, seen_ownS hA1⟩, ⟨1, _, by simp, rfl, shows_own, .inr rfl⟩, trivial⟩ (fun _ => rfl) ?_
  rintro v H' (⟨_, _, f2, ws2, g2, Ak, ckk, xs, hB2, rfl, rfl⟩ | ⟨h, _, _⟩ | ⟨_, h, _, _⟩)
  case inr.inl => exact absurd hf h
  case inr.inr => omega
  obtain ⟨rfl, rfl⟩ := hB1.uniq hR hB2
  obtain ⟨_, _, hf1, _⟩ := hB1
  have hf1l := hf1.len
  have hf1in := IsFlow.inB hR hf1.toRanged
  refine ⟨rfl, ?_⟩
  refine JL_know (own_is 2 rfl) fun ⟨_, _, hAo, hlo⟩ => ?_
  obtain ⟨go, hAo⟩ := own_at hAo hlo
  have hAo' : f1 ≠ [] → Ao = some ⟨go, 0, none⟩ := fun h => hAo (by simpa [ints] using h)
  have TS := same5_fn Ao co go 0 f1 hAo' (by omega) (some ⟨g2, 0, none⟩) N.arcs.length g2 0 f1 (fun _ => rfl)
  have TC := fcheck_fn N hF hR A' c' g1 0 hA1' f1 Ao co go 0 hAo' hf1in (by omega)
  rw [hf1l] at TS TC
  refine JL_all [] rfl ?_
  (repeat' (first | refine J_seq ?_ | refine J_skip ?_ | refine J_yes rfl ?_ | refine J_no rfl ?_))
  refine J_region ?_
  refine JL_evO (gs := [999]) rfl ?_
  refine JL_evO (gs := [999]) rfl ?_
  refine JL_evO (gs := [999]) rfl ?_
  refine JL_set 54 (v' := .bool true) rfl (congrArg Value.bool (cdec_yes rfl)) ?_
  refine JL_run [2] rfl ?_
  refine JL_set 58 (v' := .bool true) rfl (congrArg Value.bool (cdec_yes rfl)) ?_
  refine JL_run [2, 6] rfl ?_
  refine JL_callR [2, 6] TS rfl rfl rfl rfl (by kernel_rfl) ⟨⟨2, _, by simp, rfl, shows_ownS hAo, seen_ownS hAo⟩, ⟨0, _, by simp, rfl, shows_own, .inr rfl⟩, trivial⟩ (fun _ => rfl) ?_
  rintro v H' ⟨rfl, rfl⟩
  refine ⟨rfl, ?_⟩
  refine JL_run [2, 6] rfl ?_
  refine JL_set 63 (v' := .bool true) rfl (congrArg Value.bool (cdec_yes rfl)) ?_
  refine JL_run [2, 6, 11] rfl ?_
  refine JL_set 69 (v' := .bool true) rfl (congrArg Value.bool (cdec_yes rfl)) ?_
  refine JL_val [2, 6, 11, 17] (v := netV N A' c') (OpV_blk 4 rfl rfl rfl rfl) rfl ?_
  refine JL_run [2, 6, 11, 17] rfl ?_
  refine JL_callR [2, 6, 11, 17] TC rfl rfl rfl rfl (by kernel_rfl) ⟨⟨5, _, by simp, rfl, shows_ownS hA1, seen_ownS hA1⟩, ⟨2, _, by simp, rfl, shows_ownS hAo, seen_ownS hAo⟩, trivial⟩ (fun _ => rfl) ?_
  rintro v H' ⟨rfl, rfl⟩
  refine ⟨rfl, ?_⟩
  refine JL_all [2, 6, 11, 17] rfl ?_
  exact J_ret ⟨_, rfl, congrArg Value.bool (cdec_yes (flowZ_zero.2 hf1))⟩
end Go.Proofs.Ytcgcimnjknadjaa
