
/- DinicTells: what comes of phases, from a flow, and from nothing, by either engine, or what is wrong, is as the chapter says: of any network, any amounts, any least room, any engine. No condition. -/
import Derived.Test.YtfogkbmbmaganaaQX7
import Derived.Test.YtfogkbmbmaganaaQX5
set_option linter.unusedVariables false
set_option linter.unusedSimpArgs false
namespace Go.Proofs.Ytfogkbmbmaganaa
open Go.RowKit
theorem same12_fn (f f2 : List Int) (A A2 : Option Addr) (c c2 b o b2 o2 : Nat) (hA : f ≠ [] → A = some ⟨b, o, none⟩) (hA2 : f2 ≠ [] → A2 = some ⟨b2, o2, none⟩) (hl : f.length ≤ 100000) (p k p2 k2 : Nat) (s : Int) (hff : f = f2) (hp : p = p2) (hk : k = k2) :
    Fn 9 [runV A f.length c p k s, rrunV A2 f2.length c2 p2 k2] [] [.seg b o (ints f), .seg b2 o2 (ints f2)] fun v H' => v = .bool true ∧ H' = [] := by
  subst hff hp hk
  refine Fn_of Try.func9 rfl rfl fun w0 => ?_
  (repeat' (first | refine J_seq ?_ | refine J_skip ?_ | refine J_yes rfl ?_ | refine J_no rfl ?_))
  refine J_region ?_
  refine JL_box (cs := [.slice A f.length c, .int .i64 p, .int .i64 k, .int .i64 s]) rfl rfl rfl (fun _ => rfl) fun p1 => ?_
  refine JL_box (cs := [.slice A2 f.length c2, .int .i64 p, .int .i64 k]) rfl rfl rfl (fun _ => rfl) fun p2 => ?_
  refine JL_all [] rfl ?_
  (repeat' (first | refine J_seq ?_ | refine J_skip ?_ | refine J_yes rfl ?_ | refine J_no rfl ?_))
  refine J_region ?_
  refine JL_run [] rfl ?_
  refine JL_val [] (v := .slice A f.length c) (OpV_blk 1 rfl rfl rfl rfl) rfl ?_
  refine JL_run [] rfl ?_
  refine JL_val [] (v := .slice A2 f.length c2) (OpV_blk 0 rfl rfl rfl rfl) rfl ?_
  refine JL_run [] rfl ?_
  refine JL_callR [] (same5_fn A c b o f hA hl A2 c2 b2 o2 f hA2) rfl rfl rfl rfl (by kernel_rfl) ⟨⟨2, _, by simp, rfl, shows_seg _ _ _, seen_seg⟩, ⟨3, _, by simp, rfl, shows_seg _ _ _, seen_seg⟩, trivial⟩ (fun _ => rfl) ?_
  rintro v H' ⟨rfl, rfl⟩
  refine ⟨rfl, ?_⟩
  refine JL_run [] rfl ?_
  refine JL_set 10 (v' := .bool true) rfl (congrArg Value.bool (cdec_yes rfl)) ?_
  refine JL_run [5] rfl ?_
  refine JL_val [5] (v := .int .i64 p) (OpV_blk 1 rfl rfl rfl rfl) rfl ?_
  refine JL_run [5] rfl ?_
  refine JL_val [5] (v := .int .i64 p) (OpV_blk 0 rfl rfl rfl rfl) rfl ?_
  refine JL_run [5] rfl ?_
  refine JL_set 17 (v' := .bool true) rfl (congrArg Value.bool (cdec_yes rfl)) ?_
  refine JL_run [5, 12] rfl ?_
  refine JL_val [5, 12] (v := .int .i64 k) (OpV_blk 1 rfl rfl rfl rfl) rfl ?_
  refine JL_run [5, 12] rfl ?_
  refine JL_val [5, 12] (v := .int .i64 k) (OpV_blk 0 rfl rfl rfl rfl) rfl ?_
  refine JL_all [5, 12] rfl ?_
  exact J_drop [] (by decide) rfl (J_ret ⟨_, rfl, congrArg Value.bool (cdec_yes rfl), rfl⟩)
set_option maxHeartbeats 4000000 in
theorem dinicTells_fn (nd : Int) (hnd : inB nd) (sr : Int) (hsr : inB sr) (sk : Int) (hsk : inB sk) (A : Option Addr) (c b o : Nat) (l : List Arc) (hA : l ≠ [] → A = some ⟨b, o, none⟩) (hl : ∀ x ∈ l, inB x.fr ∧ inB x.to ∧ inB x.cap) (hs : l.length * 24 ≤ 140737488351232)
    (F : Option Addr) (cf bf of : Nat) (f : List Int) (hF : f ≠ [] → F = some ⟨bf, of, none⟩) (hf : ∀ x ∈ f, inB x) (hfl : f.length * 8 ≤ 140737488351232) (least : Int) (hlb : inB least) (sg : Int) :
    Fn 3 [.agg #[.int .i64 nd, .int .i64 sr, .int .i64 sk, .slice A l.length c], .slice F f.length cf, .int .i64 least, .int .u8 sg] [] [.seg b o (arcs l), .seg bf of (ints f)] fun v _ => v = .bool true := by
  obtain ⟨N, hN⟩ : ∃ N : Net, N = ⟨nd, sr, sk, l⟩ := ⟨_, rfl⟩
  have hFt : N.Fits := by rw [hN]; exact ⟨hnd, hsr, hsk, hs, hl⟩
  have hA' : N.arcs ≠ [] → A = some ⟨b, o, none⟩ := by rw [hN]; exact hA
  have key : Fn 3 [netV N A c, .slice F f.length cf, .int .i64 least, .int .u8 sg] [] [.seg b o (arcs N.arcs), .seg bf of (ints f)] fun v _ => v = .bool true := by
    clear hN hnd hsr hsk hs hl hA
    have hlen := hFt.len
    refine Fn_of Try.func3 rfl rfl fun w0 => ?_
    (repeat' (first | refine J_seq ?_ | refine J_skip ?_ | refine J_yes rfl ?_ | refine J_no rfl ?_))
    refine J_region ?_
    refine JL_box (cs := netC N A c) rfl rfl rfl (fun _ => rfl) fun p => ?_
    refine JL_all [] rfl ?_
    (repeat' (first | refine J_seq ?_ | refine J_skip ?_ | refine J_yes rfl ?_ | refine J_no rfl ?_))
    refine J_region ?_
    refine JL_callR [] (shown12_fn) rfl rfl rfl rfl (by kernel_rfl) trivial (fun _ => rfl) ?_
    rintro v H' ⟨rfl, rfl⟩
    refine ⟨rfl, ?_⟩
    refine JL_all [] rfl ?_
    (repeat' (first | refine J_seq ?_ | refine J_skip ?_ | refine J_yes rfl ?_ | refine J_no rfl ?_))
    refine J_region ?_
    refine JL_evO (gs := [999]) rfl ?_
    refine JL_evO (gs := [999]) rfl ?_
    refine JL_evO (gs := [999]) rfl ?_
    refine JL_set 21 (v' := .bool false) rfl rfl ?_
    refine JL_run [2] rfl ?_
    refine JL_val [2] (v := .slice A N.arcs.length c) (OpV_blk 0 rfl rfl rfl rfl) rfl ?_
    refine JL_evO (gs := [2]) rfl ?_
    refine JL_evO (gs := [2]) rfl ?_
    refine JL_evO (gs := [2]) rfl ?_
    refine JL_evO (gs := [2]) rfl ?_
    by_cases h60 : (60 : Int) < N.arcs.length
    · refine JL_set 27 (v' := .bool true) rfl (congrArg Value.bool (cdec_yes h60)) ?_
      refine JL_all [2, 8] rfl ?_
      (repeat' (first | refine J_seq ?_ | refine J_skip ?_ | refine J_yes rfl ?_ | refine J_no rfl ?_))
      (repeat' (first | refine J_seq ?_ | refine J_skip ?_ | refine J_yes rfl ?_ | refine J_no rfl ?_))
      refine J_region ?_
      refine JL_all [] rfl ?_
      exact J_ret ⟨_, rfl, rfl⟩
    refine JL_set 27 (v' := .bool false) rfl (congrArg Value.bool (cdec_no h60)) ?_
    refine JL_run [2, 8] rfl ?_
    refine JL_val [2, 8] (v := .int .i64 N.nodes) (OpV_blk 0 rfl rfl rfl rfl) rfl ?_
    refine JL_all [2, 8] rfl ?_
    (repeat' (first | refine J_seq ?_ | refine J_skip ?_ | refine J_yes rfl ?_ | refine J_no rfl ?_))
    refine J_dec rfl (fun _ => ?_) (fun h30 => J_skip ?_)
    · (repeat' (first | refine J_seq ?_ | refine J_skip ?_ | refine J_yes rfl ?_ | refine J_no rfl ?_))
      refine J_region ?_
      refine JL_all [] rfl ?_
      exact J_ret ⟨_, rfl, rfl⟩
    (repeat' (first | refine J_seq ?_ | refine J_skip ?_ | refine J_yes rfl ?_ | refine J_no rfl ?_))
    refine J_region ?_
    refine JL_val [] (v := netV N A c) (OpV_blk 0 rfl rfl rfl rfl) rfl ?_
    refine JL_run [] rfl ?_
    refine JL_callR [] (fromU_fn N hFt A c b o hA' f F cf bf of hF hf hfl least hlb sg) rfl rfl rfl rfl (by kernel_rfl) ⟨⟨1, _, by simp, rfl, shows_seg _ _ _, seen_seg⟩, ⟨2, _, by simp, rfl, shows_seg _ _ _, seen_seg⟩, trivial⟩ (fun _ => rfl) ?_
    rintro v H' ⟨e1, f1, p1, k1, s1, A1, c1, ho1, hs1, rfl, rfl⟩
    refine ⟨rfl, ?_⟩
    refine JL_run [] rfl ?_
    refine JL_alloc rfl rfl rfl (fun _ => rfl) fun q1 => ?_
    refine JL_store 0 rfl rfl rfl rfl rfl [] rfl ?_
    refine JL_all [] rfl ?_
    (repeat' (first | refine J_seq ?_ | refine J_skip ?_ | refine J_yes rfl ?_ | refine J_no rfl ?_))
    refine J_region ?_
    refine JL_val [] (v := netV N A c) (OpV_blk 2 rfl rfl rfl rfl) rfl ?_
    refine JL_run [] rfl ?_
    refine JL_callR [] (rfromU_fn N hFt A c b o hA' f F cf bf of hF hf hfl least sg) rfl rfl rfl rfl (by kernel_rfl) ⟨⟨3, _, by simp, rfl, shows_seg _ _ _, seen_seg⟩, ⟨4, _, by simp, rfl, shows_seg _ _ _, seen_seg⟩, trivial⟩ (fun _ => rfl) ?_
    rintro v H' ⟨e2, f2, p2, k2, A2, c2, ho2, rfl, rfl⟩
    refine ⟨rfl, ?_⟩
    refine JL_run [] rfl ?_
    refine JL_alloc rfl rfl rfl (fun _ => rfl) fun q2 => ?_
    refine JL_store 0 rfl rfl rfl rfl rfl [] rfl ?_
    refine JL_all [] rfl ?_
    obtain ⟨rfl, rfl, rfl, rfl⟩ := ho1.uniq ho2
    (repeat' (first | refine J_seq ?_ | refine J_skip ?_ | refine J_yes rfl ?_ | refine J_no rfl ?_))
    refine J_region ?_
    refine JL_val [] (v := netV N A c) (OpV_blk 4 rfl rfl rfl rfl) rfl ?_
    refine JL_run [] rfl ?_
    refine JL_callR [] (maxU_fn N hFt (by omega) A c b o hA' sg) rfl rfl rfl rfl (by kernel_rfl) ⟨⟨5, _, by simp, rfl, shows_seg _ _ _, seen_seg⟩, trivial⟩ (fun _ => rfl) ?_
    rintro v H' ⟨e3, f3, p3, k3, s3, A3, c3, ho3, hs3, rfl, rfl⟩
    refine ⟨rfl, ?_⟩
    refine JL_run [] rfl ?_
    refine JL_alloc rfl rfl rfl (fun _ => rfl) fun q3 => ?_
    refine JL_store 0 rfl rfl rfl rfl rfl [] rfl ?_
    refine JL_all [] rfl ?_
    (repeat' (first | refine J_seq ?_ | refine J_skip ?_ | refine J_yes rfl ?_ | refine J_no rfl ?_))
    refine J_region ?_
    refine JL_val [] (v := netV N A c) (OpV_blk 6 rfl rfl rfl rfl) rfl ?_
    refine JL_run [] rfl ?_
    refine JL_callR [] (rmaxU_fn N hFt (by omega) A c b o hA' sg) rfl rfl rfl rfl (by kernel_rfl) ⟨⟨7, _, by simp, rfl, shows_seg _ _ _, seen_seg⟩, trivial⟩ (fun _ => rfl) ?_
    rintro v H' ⟨e4, f4, p4, k4, A4, c4, ho4, rfl, rfl⟩
    refine ⟨rfl, ?_⟩
    refine JL_run [] rfl ?_
    refine JL_alloc rfl rfl rfl (fun _ => rfl) fun q4 => ?_
    refine JL_store 0 rfl rfl rfl rfl rfl [] rfl ?_
    refine JL_all [] rfl ?_
    obtain ⟨rfl, rfl, rfl, rfl⟩ := ho3.uniq ho4
    have hl1 := ho1.len
    have hl3 := ho3.len
    refine J_know (own_is 1 rfl) fun ⟨_, _, hA4, hl4'⟩ => ?_
    obtain ⟨g4, hA4⟩ := own_at hA4 hl4'
    refine J_know (own_is 3 rfl) fun ⟨_, _, hA3, hl3'⟩ => ?_
    obtain ⟨g3, hA3⟩ := own_at hA3 hl3'
    refine J_know (own_is 5 rfl) fun ⟨_, _, hA2, hl2'⟩ => ?_
    obtain ⟨g2, hA2⟩ := own_at hA2 hl2'
    refine J_know (own_is 7 rfl) fun ⟨_, _, hA1, hl1'⟩ => ?_
    obtain ⟨g1, hA1⟩ := own_at hA1 hl1'
    (repeat' (first | refine J_seq ?_ | refine J_skip ?_ | refine J_yes rfl ?_ | refine J_no rfl ?_))
    refine J_region ?_
    refine JL_val [] (v := runV A1 f1.length c1 p1 k1 s1) (OpV_blk 6 rfl rfl rfl rfl) rfl ?_
    refine JL_val [] (v := rrunV A2 f1.length c2 p1 k1) (OpV_blk 4 rfl rfl rfl rfl) rfl ?_
    refine JL_callR [] (same12_fn f1 f1 A1 A2 c1 c2 g1 0 g2 0 (ints_nat hA1) (ints_nat hA2) (by omega) p1 k1 p1 k1 s1 rfl rfl rfl) rfl rfl rfl rfl (by kernel_rfl) ⟨⟨7, _, by simp, rfl, shows_ownS hA1, seen_ownS hA1⟩, ⟨5, _, by simp, rfl, shows_ownS hA2, seen_ownS hA2⟩, trivial⟩ (fun _ => rfl) ?_
    rintro v H' ⟨rfl, rfl⟩
    refine ⟨rfl, ?_⟩
    refine JL_run [] rfl ?_
    refine JL_run [3] rfl ?_
    refine JL_set 69 (v' := .bool true) rfl (congrArg Value.bool (cdec_yes rfl)) ?_
    refine JL_run [3, 8] rfl ?_
    refine JL_val [3, 8] (v := runV A3 f3.length c3 p3 k3 s3) (OpV_blk 2 rfl rfl rfl rfl) rfl ?_
    refine JL_val [3, 8] (v := rrunV A4 f3.length c4 p3 k3) (OpV_blk 0 rfl rfl rfl rfl) rfl ?_
    refine JL_callR [3, 8] (same12_fn f3 f3 A3 A4 c3 c4 g3 0 g4 0 (ints_nat hA3) (ints_nat hA4) (by omega) p3 k3 p3 k3 s3 rfl rfl rfl) rfl rfl rfl rfl (by kernel_rfl) ⟨⟨3, _, by simp, rfl, shows_ownS hA3, seen_ownS hA3⟩, ⟨1, _, by simp, rfl, shows_ownS hA4, seen_ownS hA4⟩, trivial⟩ (fun _ => rfl) ?_
    rintro v H' ⟨rfl, rfl⟩
    refine ⟨rfl, ?_⟩
    refine JL_run [3, 8, 13] rfl ?_
    refine JL_set 79 (v' := .bool true) rfl (congrArg Value.bool (cdec_yes rfl)) ?_
    refine JL_run [3, 8, 13, 18] rfl ?_
    by_cases h116 : sg = 116
    · refine JL_set 82 (v' := .bool true) rfl (congrArg Value.bool (cdec_yes h116)) ?_
      refine JL_all [3, 8, 13, 18, 21, 25] rfl ?_
      exact J_ret ⟨_, rfl, rfl⟩
    · obtain rfl := hs1.resolve_left h116
      obtain rfl := hs3.resolve_left h116
      refine JL_set 82 (v' := .bool false) rfl (congrArg Value.bool (cdec_no h116)) ?_
      refine JL_run [3, 8, 13, 18, 21] rfl ?_
      refine JL_val [3, 8, 13, 18, 21] (v := .int .i64 ((0 : Nat) : Int)) (OpV_blk 6 rfl rfl rfl rfl) rfl ?_
      refine JL_run [3, 8, 13, 18, 21] rfl ?_
      refine JL_set 86 (v' := .bool true) rfl (congrArg Value.bool (cdec_yes rfl)) ?_
      refine JL_run [3, 8, 13, 18, 21, 25] rfl ?_
      refine JL_val [3, 8, 13, 18, 21, 25] (v := .int .i64 ((0 : Nat) : Int)) (OpV_blk 2 rfl rfl rfl rfl) rfl ?_
      refine JL_all [3, 8, 13, 18, 21, 25] rfl ?_
      exact J_ret ⟨_, rfl, congrArg Value.bool (cdec_yes rfl)⟩
  rw [hN] at key
  exact key
end Go.Proofs.Ytfogkbmbmaganaa
