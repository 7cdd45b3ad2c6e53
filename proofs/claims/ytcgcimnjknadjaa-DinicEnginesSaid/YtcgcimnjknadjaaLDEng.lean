
/- DinicEngines: both engines tell the same but for the steps. -/
import Derived.Test.YtcgcimnjknadjaaSh12N
import Derived.Test.YtcgcimnjknadjaaMostT
import Derived.Test.YtcgcimnjknadjaaRoutedN12
set_option linter.unusedVariables false
set_option linter.unusedSimpArgs false
namespace Go.Proofs.Ytcgcimnjknadjaa
open Go.RowKit
set_option maxHeartbeats 2000000 in
theorem dinicEngines_fn (nodes : Int) (hn : inB nodes) (ends : Int) (he : inB ends) (A : Option Addr) (c b o : Nat) (l : List Arc) (hA : l ≠ [] → A = some ⟨b, o, none⟩) (hl : ∀ x ∈ l, inB x.fr ∧ inB x.to ∧ inB x.cap) (hs : l.length * 24 ≤ 140737488351232)
    (K : Option Addr) (ck bk ok : Nat) (ks : List Int) (hK : ks ≠ [] → K = some ⟨bk, ok, none⟩) (hks : ∀ x ∈ ks, inB x) (hkz : ks.length * 8 ≤ 140737488351232) :
    Fn 13 [.int .i64 nodes, .int .i64 ends, .slice A l.length c, .slice K ks.length ck] [] [.seg b o (arcs l), .seg bk ok (ints ks)] fun v _ => v = .bool true := by
  refine Fn_of Try.func13 rfl rfl fun w0 => ?_
  (repeat' (first | refine J_seq ?_ | refine J_skip ?_ | refine J_yes rfl ?_ | refine J_no rfl ?_))
  refine J_region ?_
  refine JL_all [] rfl ?_
  (repeat' (first | refine J_seq ?_ | refine J_skip ?_ | refine J_yes rfl ?_ | refine J_no rfl ?_))
  refine J_region ?_
  refine JL_callR [] (shown12_fn) rfl rfl rfl rfl (by kernel_rfl) trivial (fun _ => rfl) ?_
  rintro v H' ⟨rfl, rfl⟩
  refine ⟨rfl, ?_⟩
  refine JL_all [] rfl ?_
  (repeat' (first | refine J_seq ?_ | refine J_skip ?_ | refine J_yes rfl ?_ | refine J_no rfl ?_))
  refine J_region ?_
  refine JL_all [] rfl ?_
  (repeat' (first | refine J_seq ?_ | refine J_skip ?_ | refine J_yes rfl ?_ | refine J_no rfl ?_))
  refine J_region ?_
  refine JL_run [] rfl ?_
  refine JL_callR [] (made12_fn nodes ends hn he A c b o l hA hl (by omega)) rfl rfl rfl rfl (by kernel_rfl) ⟨⟨0, _, by simp, rfl, shows_seg _ _ _, seen_seg⟩, trivial⟩ (fun _ => rfl) ?_
  rintro v H' ⟨N, A', c', hR, hn9, h24, _, rfl, rfl⟩
  refine ⟨rfl, ?_⟩
  refine JL_alloc rfl rfl rfl (fun _ => rfl) fun b10 => ?_
  refine JL_store 0 rfl rfl rfl rfl rfl [] rfl ?_
  refine JL_know (own_is 1 rfl) fun ⟨_, _, hA1, hl1⟩ => ?_
  obtain ⟨g1, hA1⟩ := own_at hA1 hl1
  have hA1' : N.arcs ≠ [] → A' = some ⟨g1, 0, none⟩ := fun h => hA1 (fun h0 => h (List.length_eq_zero_iff.1 (by have := arcs_length N.arcs; rw [h0] at this; simp at this; omega)))
  have hF := hR.fits2
  refine JL_nil ?_
  (repeat' (first | refine J_seq ?_ | refine J_skip ?_ | refine J_yes rfl ?_ | refine J_no rfl ?_))
  refine J_region ?_
  refine JL_val [] (v := netV N A' c') (OpV_blk 0 rfl rfl rfl rfl) rfl ?_
  refine JL_run [] rfl ?_
  refine JL_callR [] (routed_fn N hR A' c' g1 0 hA1' K ck bk ok ks hK hks hkz) rfl rfl rfl rfl (by kernel_rfl) ⟨⟨1, _, by simp, rfl, shows_ownS hA1, seen_ownS hA1⟩, ⟨3, _, by simp, rfl, shows_seg _ _ _, seen_seg⟩, trivial⟩ (fun _ => rfl) ?_
  rintro v H' ⟨f, gf, rfl, rfl, hf⟩
  refine ⟨rfl, ?_⟩
  refine JL_all [] rfl ?_
  have hfl := hf.len
  have hz := zeroFlow N hR
  (repeat' (first | refine J_seq ?_ | refine J_skip ?_ | refine J_yes rfl ?_ | refine J_no rfl ?_))
  refine J_region ?_
  refine JL_val [] (v := netV N A' c') (OpV_blk 1 rfl rfl rfl rfl) rfl ?_
  refine JL_callR [] (max_fn N hF hR A' c' g1 0 hA1') rfl rfl rfl rfl (by kernel_rfl) ⟨⟨2, _, by simp, rfl, shows_ownS hA1, seen_ownS hA1⟩, trivial⟩ (fun _ => rfl) ?_
  rintro v H' ⟨fa, pa, ka, Aa, ca, hda, _, rfl, rfl⟩
  obtain ⟨hfa, _, _, lva, hlva, hlta⟩ := hda.keeps hR (by decide) hz
  refine ⟨rfl, ?_⟩
  refine JL_run [] rfl ?_
  refine JL_alloc rfl rfl rfl (fun _ => rfl) fun b12 => ?_
  refine JL_store 0 rfl rfl rfl rfl rfl [] rfl ?_
  refine JL_all [] rfl ?_
  (repeat' (first | refine J_seq ?_ | refine J_skip ?_ | refine J_yes rfl ?_ | refine J_no rfl ?_))
  refine J_region ?_
  refine JL_val [] (v := netV N A' c') (OpV_blk 3 rfl rfl rfl rfl) rfl ?_
  refine JL_callR [] (maxT_fn N hF hR A' c' g1 0 hA1') rfl rfl rfl rfl (by kernel_rfl) ⟨⟨4, _, by simp, rfl, shows_ownS hA1, seen_ownS hA1⟩, trivial⟩ (fun _ => rfl) ?_
  rintro v H' ⟨fb, pb, kb, sb, Ab, cb, hdb, _, hpb, _, hsb, rfl, rfl⟩
  obtain ⟨e1, e2, e3⟩ := hdb.uniq hR (by decide) hda
  subst e1
  subst e2
  subst e3
  refine ⟨rfl, ?_⟩
  refine JL_run [] rfl ?_
  refine JL_alloc rfl rfl rfl (fun _ => rfl) fun b14 => ?_
  refine JL_store 0 rfl rfl rfl rfl rfl [] rfl ?_
  refine JL_all [] rfl ?_
  have TF := from_fn N hF hR A' c' g1 0 hA1' f hf (some ⟨gf, 0, none⟩) N.arcs.length gf 0 (fun _ => rfl) 1 (by decide)
  have TG := fromT_fn N hF hR A' c' g1 0 hA1' f hf (some ⟨gf, 0, none⟩) N.arcs.length gf 0 (fun _ => rfl) 1 (by decide) (by decide)
  rw [hfl] at TF TG
  (repeat' (first | refine J_seq ?_ | refine J_skip ?_ | refine J_yes rfl ?_ | refine J_no rfl ?_))
  refine J_region ?_
  refine JL_val [] (v := netV N A' c') (OpV_blk 5 rfl rfl rfl rfl) rfl ?_
  refine JL_run [] rfl ?_
  refine JL_callR [] TF rfl rfl rfl rfl (by kernel_rfl) ⟨⟨6, _, by simp, rfl, shows_ownS hA1, seen_ownS hA1⟩, ⟨4, _, by simp, rfl, shows_own, .inr rfl⟩, trivial⟩ (fun _ => rfl) ?_
  rintro v H' ⟨fc, pc, kc, Ac, cc, hdc, _, rfl, rfl⟩
  obtain ⟨hfc, _, _, lvc, hlvc, hltc⟩ := hdc.keeps hR (by decide) hf
  refine ⟨rfl, ?_⟩
  refine JL_run [] rfl ?_
  refine JL_alloc rfl rfl rfl (fun _ => rfl) fun b16 => ?_
  refine JL_store 0 rfl rfl rfl rfl rfl [] rfl ?_
  refine JL_all [] rfl ?_
  (repeat' (first | refine J_seq ?_ | refine J_skip ?_ | refine J_yes rfl ?_ | refine J_no rfl ?_))
  refine J_region ?_
  refine JL_val [] (v := netV N A' c') (OpV_blk 7 rfl rfl rfl rfl) rfl ?_
  refine JL_run [] rfl ?_
  refine JL_callR [] TG rfl rfl rfl rfl (by kernel_rfl) ⟨⟨8, _, by simp, rfl, shows_ownS hA1, seen_ownS hA1⟩, ⟨6, _, by simp, rfl, shows_own, .inr rfl⟩, trivial⟩ (fun _ => rfl) ?_
  rintro v H' ⟨fd, pd, kd, sd, Ad, cd, hdd, _, _, _, _, rfl, rfl⟩
  obtain ⟨e1, e2, e3⟩ := hdd.uniq hR (by decide) hdc
  subst e1
  subst e2
  subst e3
  refine ⟨rfl, ?_⟩
  refine JL_run [] rfl ?_
  refine JL_alloc rfl rfl rfl (fun _ => rfl) fun b18 => ?_
  refine JL_store 0 rfl rfl rfl rfl rfl [] rfl ?_
  refine JL_all [] rfl ?_
  refine J_fit (K := [blk b18 56 [.slice Ad fd.length cd, .int .i64 (pd : Int), .int .i64 (kd : Int), .int .i64 (sd : Int)], .own (.slice Ad fd.length cd) 2 1 fd.length (ints fd),
    blk b16 56 [.slice Ac fd.length cc, .int .i64 (pd : Int), .int .i64 (kd : Int), .int .i64 0], .own (.slice Ac fd.length cc) 2 1 fd.length (ints fd),
    blk b14 56 [.slice Ab fb.length cb, .int .i64 (pb : Int), .int .i64 (kb : Int), .int .i64 (sb : Int)], .own (.slice Ab fb.length cb) 2 1 fb.length (ints fb),
    blk b12 56 [.slice Aa fb.length ca, .int .i64 (pb : Int), .int .i64 (kb : Int), .int .i64 0], .own (.slice Aa fb.length ca) 2 1 fb.length (ints fb),
    blk b10 26 (netC N A' c'), .own (.slice A' N.arcs.length c') 29 3 N.arcs.length (arcs N.arcs)])
    (Fit.picks [0, 1, 2, 3, 4, 5, 6, 7, 9, 10] (by decide) rfl) ?_
  refine J_know (own_is 1 rfl) fun ⟨_, _, hAd, hld⟩ => ?_
  obtain ⟨gd, hAd⟩ := own_at hAd hld
  refine J_know (own_is 3 rfl) fun ⟨_, _, hAc, hlc⟩ => ?_
  obtain ⟨gc, hAc⟩ := own_at hAc hlc
  refine J_know (own_is 5 rfl) fun ⟨_, _, hAb, hlb⟩ => ?_
  obtain ⟨gb, hAb⟩ := own_at hAb hlb
  refine J_know (own_is 7 rfl) fun ⟨_, _, hAa, hla⟩ => ?_
  obtain ⟨ga, hAa⟩ := own_at hAa hla
  have hAd' : fd ≠ [] → Ad = some ⟨gd, 0, none⟩ := fun h => hAd (by simpa [ints] using h)
  have hAc' : fd ≠ [] → Ac = some ⟨gc, 0, none⟩ := fun h => hAc (by simpa [ints] using h)
  have hAb' : fb ≠ [] → Ab = some ⟨gb, 0, none⟩ := fun h => hAb (by simpa [ints] using h)
  have hAa' : fb ≠ [] → Aa = some ⟨ga, 0, none⟩ := fun h => hAa (by simpa [ints] using h)
  have hfbl := hfa.len
  have hfdl := hfc.len
  (repeat' (first | refine J_seq ?_ | refine J_skip ?_ | refine J_yes rfl ?_ | refine J_no rfl ?_))
  refine J_region ?_
  refine JL_evO (gs := [999]) rfl ?_
  refine JL_evO (gs := [999]) rfl ?_
  refine JL_evO (gs := [999]) rfl ?_
  refine JL_set 60 (v' := .bool false) rfl (congrArg Value.bool (cdec_no (fun h => h rfl))) ?_
  refine JL_run [2] rfl ?_
  refine JL_set 64 (v' := .bool false) rfl (congrArg Value.bool (cdec_no (fun h => h rfl))) ?_
  refine JL_run [2, 6] rfl ?_
  refine JL_set 68 (v' := .bool false) rfl (congrArg Value.bool (cdec_no (fun h => h rfl))) ?_
  refine JL_run [2, 6, 10] rfl ?_
  refine JL_set 72 (v' := .bool false) rfl (congrArg Value.bool (cdec_no (fun h => h rfl))) ?_
  refine JL_run [2, 6, 10, 14] rfl ?_
  refine JL_val [2, 6, 10, 14] (OpV_blk 6 rfl rfl rfl rfl) rfl ?_
  refine JL_run [2, 6, 10, 14] rfl ?_
  refine JL_val [2, 6, 10, 14] (OpV_blk 4 rfl rfl rfl rfl) rfl ?_
  refine JL_callR [2, 6, 10, 14] (same5_fn Aa ca ga 0 fb hAa' (by omega) Ab cb gb 0 fb hAb') rfl rfl rfl rfl (by kernel_rfl) ⟨⟨7, _, by simp, rfl, shows_ownS hAa, seen_ownS hAa⟩, ⟨5, _, by simp, rfl, shows_ownS hAb, seen_ownS hAb⟩, trivial⟩ (fun _ => rfl) ?_
  rintro v H' ⟨rfl, rfl⟩
  refine ⟨rfl, ?_⟩
  refine JL_run [2, 6, 10, 14] rfl ?_
  refine JL_set 80 (v' := .bool false) rfl (congrArg Value.bool (by rw [cdec_yes rfl]; rfl)) ?_
  refine JL_run [2, 6, 10, 14, 22] rfl ?_
  refine JL_val [2, 6, 10, 14, 22] (OpV_blk 6 rfl rfl rfl rfl) rfl ?_
  refine JL_run [2, 6, 10, 14, 22] rfl ?_
  refine JL_val [2, 6, 10, 14, 22] (OpV_blk 4 rfl rfl rfl rfl) rfl ?_
  refine JL_run [2, 6, 10, 14, 22] rfl ?_
  refine JL_set 87 (v' := .bool false) rfl (congrArg Value.bool (cdec_no (fun h => h rfl))) ?_
  refine JL_run [2, 6, 10, 14, 22, 29] rfl ?_
  refine JL_val [2, 6, 10, 14, 22, 29] (OpV_blk 6 rfl rfl rfl rfl) rfl ?_
  refine JL_run [2, 6, 10, 14, 22, 29] rfl ?_
  refine JL_val [2, 6, 10, 14, 22, 29] (OpV_blk 4 rfl rfl rfl rfl) rfl ?_
  refine JL_run [2, 6, 10, 14, 22, 29] rfl ?_
  refine JL_set 94 (v' := .bool false) rfl (congrArg Value.bool (cdec_no (fun h => h rfl))) ?_
  refine JL_run [2, 6, 10, 14, 22, 29, 36] rfl ?_
  refine JL_val [2, 6, 10, 14, 22, 29, 36] (OpV_blk 2 rfl rfl rfl rfl) rfl ?_
  refine JL_run [2, 6, 10, 14, 22, 29, 36] rfl ?_
  refine JL_val [2, 6, 10, 14, 22, 29, 36] (OpV_blk 0 rfl rfl rfl rfl) rfl ?_
  refine JL_callR [2, 6, 10, 14, 22, 29, 36] (same5_fn Ac cc gc 0 fd hAc' (by omega) Ad cd gd 0 fd hAd') rfl rfl rfl rfl (by kernel_rfl) ⟨⟨3, _, by simp, rfl, shows_ownS hAc, seen_ownS hAc⟩, ⟨1, _, by simp, rfl, shows_ownS hAd, seen_ownS hAd⟩, trivial⟩ (fun _ => rfl) ?_
  rintro v H' ⟨rfl, rfl⟩
  refine ⟨rfl, ?_⟩
  refine JL_run [2, 6, 10, 14, 22, 29, 36] rfl ?_
  refine JL_set 102 (v' := .bool false) rfl (congrArg Value.bool (by rw [cdec_yes rfl]; rfl)) ?_
  refine JL_run [2, 6, 10, 14, 22, 29, 36, 44] rfl ?_
  refine JL_val [2, 6, 10, 14, 22, 29, 36, 44] (OpV_blk 2 rfl rfl rfl rfl) rfl ?_
  refine JL_run [2, 6, 10, 14, 22, 29, 36, 44] rfl ?_
  refine JL_val [2, 6, 10, 14, 22, 29, 36, 44] (OpV_blk 0 rfl rfl rfl rfl) rfl ?_
  refine JL_all [2, 6, 10, 14, 22, 29, 36, 44] rfl ?_
  (repeat' (first | refine J_seq ?_ | refine J_skip ?_ | refine J_yes rfl ?_ | refine J_no rfl ?_))
  refine J_dec rfl (fun h => absurd rfl h) (fun _ => J_skip ?_)
  have hfbin := IsFlow.inB hR hfa.toRanged
  have hfdin := IsFlow.inB hR hfc.toRanged
  have TV1 := fvalue_fn N hF hR A' c' g1 0 hA1' fb Aa ca ga 0 hAa' hfbin (by omega)
  have TV2 := fvalue_fn N hF hR A' c' g1 0 hA1' fd Ac cc gc 0 hAc' hfdin (by omega)
  (repeat' (first | refine J_seq ?_ | refine J_skip ?_ | refine J_yes rfl ?_ | refine J_no rfl ?_))
  refine J_region ?_
  refine JL_val [] (v := netV N A' c') (OpV_blk 8 rfl rfl rfl rfl) rfl ?_
  refine JL_run [] rfl ?_
  refine JL_val [] (v := .slice Aa fb.length ca) (OpV_blk 6 rfl rfl rfl rfl) rfl ?_
  refine JL_callR [] TV1 rfl rfl rfl rfl (by kernel_rfl) ⟨⟨9, _, by simp, rfl, shows_ownS hA1, seen_ownS hA1⟩, ⟨7, _, by simp, rfl, shows_ownS hAa, seen_ownS hAa⟩, trivial⟩ (fun _ => rfl) ?_
  rintro v H' ⟨⟨rfl, _⟩ | ⟨_, h⟩, rfl⟩
  case inr => exact absurd hfa h
  refine ⟨rfl, ?_⟩
  refine JL_all [] rfl ?_
  (repeat' (first | refine J_seq ?_ | refine J_skip ?_ | refine J_yes rfl ?_ | refine J_no rfl ?_))
  refine J_region ?_
  refine JL_val [] (v := netV N A' c') (OpV_blk 8 rfl rfl rfl rfl) rfl ?_
  refine JL_run [] rfl ?_
  refine JL_val [] (v := .slice Ac fd.length cc) (OpV_blk 2 rfl rfl rfl rfl) rfl ?_
  refine JL_callR [] TV2 rfl rfl rfl rfl (by kernel_rfl) ⟨⟨9, _, by simp, rfl, shows_ownS hA1, seen_ownS hA1⟩, ⟨3, _, by simp, rfl, shows_ownS hAc, seen_ownS hAc⟩, trivial⟩ (fun _ => rfl) ?_
  rintro v H' ⟨⟨rfl, _⟩ | ⟨_, h⟩, rfl⟩
  case inr => exact absurd hfc h
  refine ⟨rfl, ?_⟩
  refine JL_all [] rfl ?_
  have TA := fromT_fn N hF hR A' c' g1 0 hA1' fd hfc Ac cc gc 0 hAc' 1 (by decide) (by decide)
  (repeat' (first | refine J_seq ?_ | refine J_skip ?_ | refine J_yes rfl ?_ | refine J_no rfl ?_))
  refine J_region ?_
  refine JL_val [] (v := netV N A' c') (OpV_blk 8 rfl rfl rfl rfl) rfl ?_
  refine JL_run [] rfl ?_
  refine JL_val [] (v := .slice Ac fd.length cc) (OpV_blk 2 rfl rfl rfl rfl) rfl ?_
  refine JL_callR [] TA rfl rfl rfl rfl (by kernel_rfl) ⟨⟨9, _, by simp, rfl, shows_ownS hA1, seen_ownS hA1⟩, ⟨3, _, by simp, rfl, shows_ownS hAc, seen_ownS hAc⟩, trivial⟩ (fun _ => rfl) ?_
  rintro v H' ⟨fe, qe, ke, se, Ae, ce, hde, _, _, _, hse, rfl, rfl⟩
  obtain ⟨e1, e2, _⟩ := hde.uniq hR (by decide) (.stop hlvc hltc)
  subst e1
  subst e2
  have hse0 : se = 0 := by simpa using hse
  subst hse0
  refine ⟨rfl, ?_⟩
  refine JL_run [] rfl ?_
  refine JL_alloc rfl rfl rfl (fun _ => rfl) fun b24 => ?_
  refine JL_store 0 rfl rfl rfl rfl rfl [] rfl ?_
  refine JL_all [] rfl ?_
  have v1 := great hR hfa hfc hlva hlta
  have v2 := great hR hfc hfa hlvc hltc
  refine J_fit (K := [blk b24 56 [.slice Ae fe.length ce, .int .i64 0, .int .i64 (ke : Int), .int .i64 0], .own (.slice Ae fe.length ce) 2 1 fe.length (ints fe),
    blk b16 56 [.slice Ac fe.length cc, .int .i64 (pd : Int), .int .i64 (kd : Int), .int .i64 0], .own (.slice Ac fe.length cc) 2 1 fe.length (ints fe),
    blk b14 56 [.slice Ab fb.length cb, .int .i64 (pb : Int), .int .i64 (kb : Int), .int .i64 (sb : Int)], blk b10 26 (netC N A' c')])
    (Fit.picks [0, 1, 4, 5, 6, 10] (by decide) rfl) ?_
  refine J_know (own_is 1 rfl) fun ⟨_, _, hAe, hle⟩ => ?_
  obtain ⟨ge, hAe⟩ := own_at hAe hle
  have hAe' : fe ≠ [] → Ae = some ⟨ge, 0, none⟩ := fun h => hAe (by simpa [ints] using h)
  have hmz := mostZ_le hR
  have hcm := cost_most hR (by omega)
  have hpb8 : (pb : Int) ≤ 8 := by omega
  have hpm : 0 ≤ (pb : Int) * mostZ N ∧ (pb : Int) * mostZ N ≤ 8 * 217800000000 := ⟨Int.mul_nonneg (by omega) hmz.1, Int.mul_le_mul hpb8 hmz.2 hmz.1 (by omega)⟩
  have hstep : (sb : Int) ≤ (pb : Int) * mostZ N := by
    have h1 : (sb : Int) ≤ ((costB N.nodes.toNat N.arcs.length * pb : Nat) : Int) := Int.ofNat_le.2 hsb
    rw [Int.natCast_mul] at h1
    have h2 : ((costB N.nodes.toNat N.arcs.length : Nat) : Int) * (pb : Int) ≤ mostZ N * (pb : Int) := Int.mul_le_mul_of_nonneg_right hcm (by omega)
    rw [Int.mul_comm (pb : Int)]
    omega
  (repeat' (first | refine J_seq ?_ | refine J_skip ?_ | refine J_yes rfl ?_ | refine J_no rfl ?_))
  refine J_walk 35 [(0, true), (1, true), (2, true), (3, true), (4, true), (5, true), (6, true), (7, true), (8, true), (9, false), (10, true), (11, true), (12, true), (13, true), (14, true), (15, true), (16, true), (17, true), (18, true), (19, true), (20, true), (21, true), (22, true), (23, true), (24, true), (25, true), (26, true), (27, false), (28, true), (29, true), (30, true), (31, true), (32, true), (33, true), (34, true)] [0, 2, 4, 5] (by kernel_rfl) (by decide) rfl ?_
  refine JW_evO (gs := [999]) rfl rfl ?_
  refine JW_evO (gs := [999]) rfl rfl ?_
  refine JW_evO (gs := [999]) rfl rfl ?_
  refine JW_evO (gs := [999]) rfl rfl ?_
  refine JW_set 133 (v' := .bool true) rfl (congrArg Value.bool (cdec_yes (Int.le_antisymm v2 v1))) ?_
  refine JW_evO (gs := [3]) rfl rfl ?_
  refine JW_still [3] rfl (OpV_blk 2 rfl rfl rfl rfl) rfl ?_
  refine JW_evO (gs := [3]) rfl rfl ?_
  refine JW_still [3] rfl (OpV_blk 2 rfl rfl rfl rfl) rfl ?_
  refine JW_still [3] rfl (OpV_blk (v := netV N A' c') 3 rfl rfl rfl rfl) rfl ?_
  refine JW_eff rfl ?_
  refine JL_callR [3] (tmost_fn N hR A' c') rfl rfl rfl rfl (by kernel_rfl) trivial (fun _ => rfl) ?_
  rintro v H' ⟨rfl, rfl⟩
  refine ⟨rfl, JL_nil ⟨⟨[0, 2, 4, 5], by decide, rfl⟩, ?_⟩⟩
  refine JW_evO (gs := [3]) rfl rfl ?_
  refine JW_set 140 (v' := .int .i64 ((pb : Int) * mostZ N)) rfl (congrArg (Value.int .i64) (w64 (by omega))) ?_
  refine JW_evO (gs := [3]) rfl rfl ?_
  refine JW_evO (gs := [3]) rfl rfl ?_
  refine JW_evO (gs := [3]) rfl rfl ?_
  refine JW_set 143 (v' := .bool true) rfl (congrArg Value.bool (cdec_yes hstep)) ?_
  refine JW_evO (gs := [3, 13]) rfl rfl ?_
  refine JW_evO (gs := [3, 13]) rfl rfl ?_
  refine JW_evO (gs := [3, 13]) rfl rfl ?_
  refine JW_evO (gs := [3, 13]) rfl rfl ?_
  refine JW_set 147 (v' := .bool true) rfl (congrArg Value.bool (cdec_yes rfl)) ?_
  refine JW_evO (gs := [3, 13, 17]) rfl rfl ?_
  refine JW_still [3, 13, 17] rfl (OpV_blk 0 rfl rfl rfl rfl) rfl ?_
  refine JW_evO (gs := [3, 13, 17]) rfl rfl ?_
  refine JW_evO (gs := [3, 13, 17]) rfl rfl ?_
  refine JW_evO (gs := [3, 13, 17]) rfl rfl ?_
  refine JW_set 152 (v' := .bool true) rfl (congrArg Value.bool (cdec_yes rfl)) ?_
  refine JW_evO (gs := [3, 13, 17, 22]) rfl rfl ?_
  refine JW_still [3, 13, 17, 22] rfl (OpV_blk 0 rfl rfl rfl rfl) rfl ?_
  refine JW_evO (gs := [3, 13, 17, 22]) rfl rfl ?_
  refine JW_still [3, 13, 17, 22] rfl (OpV_blk 1 rfl rfl rfl rfl) rfl ?_
  refine JW_eff rfl ?_
  refine JL_callR [3, 13, 17, 22] (same5_fn Ae ce ge 0 fe hAe' (by omega) Ac cc gc 0 fe hAc') rfl rfl rfl rfl (by kernel_rfl) ⟨⟨1, _, by simp, rfl, shows_ownS hAe, seen_ownS hAe⟩, ⟨3, _, by simp, rfl, shows_ownS hAc, seen_ownS hAc⟩, trivial⟩ (fun _ => rfl) ?_
  rintro v H' ⟨rfl, rfl⟩
  refine ⟨rfl, JL_nil ⟨⟨[0, 2, 4, 5], by decide, rfl⟩, ?_⟩⟩
  refine JW_evO (gs := [3, 13, 17, 22]) rfl rfl ?_
  refine JW_evO (gs := [3, 13, 17, 22]) rfl rfl ?_
  refine JW_set 159 (v' := .bool true) rfl (congrArg Value.bool (cdec_yes rfl)) ?_
  refine JW_evO (gs := [3, 13, 17, 22, 29]) rfl rfl ?_
  refine JW_still [3, 13, 17, 22, 29] rfl (OpV_blk 0 rfl rfl rfl rfl) rfl ?_
  refine JW_evO (gs := [3, 13, 17, 22, 29]) rfl rfl ?_
  refine JW_evO (gs := [3, 13, 17, 22, 29]) rfl rfl ?_
  refine JW_evO (gs := [3, 13, 17, 22, 29]) rfl rfl ?_
  refine JW_nil ?_
  refine JL_nil ?_
  (repeat' (first | refine J_seq ?_ | refine J_skip ?_ | refine J_yes rfl ?_ | refine J_no rfl ?_))
  exact J_ret ⟨_, rfl, congrArg Value.bool (cdec_yes rfl)⟩
end Go.Proofs.Ytcgcimnjknadjaa
