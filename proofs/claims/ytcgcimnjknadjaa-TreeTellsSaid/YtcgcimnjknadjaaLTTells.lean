
/- TreeTells: what tree.Block tells is what the chapter says, of any network, any amounts, any least room. No condition. -/
import Derived.Test.YtcgcimnjknadjaaRefY
import Derived.Test.YtcgcimnjknadjaaRefE
import Derived.Test.YtcgcimnjknadjaaQX4
import Derived.Test.YtcgcimnjknadjaaQX6
import Derived.Test.YtcgcimnjknadjaaQX7
set_option linter.unusedVariables false
set_option linter.unusedSimpArgs false
namespace Go.Proofs.Ytcgcimnjknadjaa
open Go.RowKit
def rblk11R (N : Net) (f : List Int) (least : Int) (v : Value) (H' : Heap) : Prop :=
  (errZ N f least = 0 ∧ ∃ (f' : List Int) (ws : List (List Nat × Int)) (Ao : Option Addr) (co : Nat), BlkOf N least f ws f' ∧
    v = .tuple #[.slice Ao f.length co, .int .i64 (ws.length : Int), .int .i64 0] ∧ H' = [.own (.slice Ao f.length co) 2 1 f.length (ints f')]) ∨
  (errZ N f least ≠ 0 ∧ v = .tuple #[.slice none 0 0, .int .i64 0, .int .i64 (errZ N f least)] ∧ H' = [])
theorem rblk11_fn (N : Net) (hN : N.Fits) (A : Option Addr) (c b o : Nat) (hA : N.arcs ≠ [] → A = some ⟨b, o, none⟩) (f : List Int) (F : Option Addr) (cf bf of : Nat) (hF : f ≠ [] → F = some ⟨bf, of, none⟩) (hf : ∀ x ∈ f, inB x) (hfl : f.length * 8 ≤ 140737488351232) (least : Int) :
    Fn 23 [netV N A c, .slice F f.length cf, .int .i64 least] [] [.seg b o (arcs N.arcs), .seg bf of (ints f)] (rblk11R N f least) := by
  refine Fn_of Try.func23 rfl rfl fun w0 => ?_
  (repeat' (first | refine J_seq ?_ | refine J_skip ?_ | refine J_yes rfl ?_ | refine J_no rfl ?_))
  refine J_region ?_
  refine JL_box (cs := netC N A c) rfl rfl rfl (fun _ => rfl) fun p => ?_
  refine JL_all [] rfl ?_
  (repeat' (first | refine J_seq ?_ | refine J_skip ?_ | refine J_yes rfl ?_ | refine J_no rfl ?_))
  refine J_region ?_
  refine JL_val [] (v := netV N A c) (OpV_blk 0 rfl rfl rfl rfl) rfl ?_
  refine JL_run [] rfl ?_
  refine JL_callR [] (rblock_fn N hN A c b o hA f F cf bf of hF hf hfl least) rfl rfl rfl rfl (by kernel_rfl) ⟨⟨1, _, by simp, rfl, shows_seg _ _ _, seen_seg⟩, ⟨2, _, by simp, rfl, shows_seg _ _ _, seen_seg⟩, trivial⟩ (fun _ => rfl) ?_
  rintro v H' (⟨he0, f', ws, Ao, co, Ak, ck, hB, rfl, rfl⟩ | ⟨he, rfl, rfl⟩)
  · refine ⟨rfl, ?_⟩
    refine JL_all [] rfl ?_
    (repeat' (first | refine J_seq ?_ | refine J_skip ?_ | refine J_yes rfl ?_ | refine J_no rfl ?_))
    refine J_region ?_
    refine JL_all [] rfl ?_
    exact J_drop [0] (by decide) rfl (J_ret ⟨_, rfl, .inl ⟨he0, f', ws, Ao, co, hB, rfl, rfl⟩⟩)
  · refine ⟨rfl, ?_⟩
    refine JL_all [] rfl ?_
    (repeat' (first | refine J_seq ?_ | refine J_skip ?_ | refine J_yes rfl ?_ | refine J_no rfl ?_))
    refine J_region ?_
    refine JL_all [] rfl ?_
    exact J_drop [] (by decide) rfl (J_ret ⟨_, rfl, .inr ⟨he, rfl, rfl⟩⟩)
theorem rmost_fn (N : Net) (h1 : 2 ≤ N.nodes) (h2 : N.nodes ≤ 500) (h3 : N.arcs.length ≤ 2001) (A : Option Addr) (c : Nat) : Fn 25 [netV N A c] [] [] fun v H' => v = .int .i64 (mostZ N) ∧ H' = [] := by
  obtain ⟨k1, k2⟩ := levelZ_in h1 h2
  obtain ⟨m1, m2, m3, m4⟩ := mostZ_in h1 h2 h3
  refine Fn_of Try.func25 rfl rfl fun w0 => ?_
  (repeat' (first | refine J_seq ?_ | refine J_skip ?_ | refine J_yes rfl ?_ | refine J_no rfl ?_))
  refine J_region ?_
  refine JL_box (cs := netC N A c) rfl rfl rfl (fun _ => rfl) fun p => ?_
  refine JL_all [] rfl ?_
  (repeat' (first | refine J_seq ?_ | refine J_skip ?_ | refine J_yes rfl ?_ | refine J_no rfl ?_))
  refine J_region ?_
  refine JL_run [] rfl ?_
  refine JL_val [] (v := .int .i64 N.nodes) (OpV_blk 0 rfl rfl rfl rfl) rfl ?_
  refine JL_callR [] (rlog_fn N.nodes (by unfold inB; omega)) rfl rfl rfl rfl (by kernel_rfl) trivial (fun _ => rfl) ?_
  rintro v H' ⟨rfl, rfl⟩
  refine ⟨rfl, ?_⟩
  refine JL_evO (gs := [999]) rfl ?_
  refine JL_set 7 (v' := .int .i64 (levelZ N)) rfl (congrArg (Value.int .i64) (w64 (n := 2 + (logOf N.nodes : Nat)) (by unfold levelZ at k2; omega))) ?_
  refine JL_all [] rfl ?_
  (repeat' (first | refine J_seq ?_ | refine J_skip ?_ | refine J_yes rfl ?_ | refine J_no rfl ?_))
  refine J_region ?_
  refine JL_run [] rfl ?_
  refine JL_val [] (v := .int .i64 N.nodes) (OpV_blk 0 rfl rfl rfl rfl) rfl ?_
  refine JL_run [] rfl ?_
  refine JL_val [] (v := .slice A N.arcs.length c) (OpV_blk 0 rfl rfl rfl rfl) rfl ?_
  refine JL_all [] rfl ?_
  refine J_drop [] (by decide) rfl (J_ret ⟨_, rfl, congrArg (Value.int .i64) ?_, rfl⟩)
  rw [w64 (n := N.nodes + N.arcs.length) (by omega), w64 (n := 20000 * (N.nodes + N.arcs.length)) (by omega), w64 (n := 20000 * (N.nodes + N.arcs.length) * levelZ N) (by omega), w64 (by unfold mostZ at m3 m4; omega)]
  rfl
set_option maxHeartbeats 4000000 in
theorem treeTells_fn (nd : Int) (hnd : inB nd) (sr : Int) (hsr : inB sr) (sk : Int) (hsk : inB sk) (A : Option Addr) (c b o : Nat) (l : List Arc) (hA : l ≠ [] → A = some ⟨b, o, none⟩) (hl : ∀ x ∈ l, inB x.fr ∧ inB x.to ∧ inB x.cap) (hs : l.length * 24 ≤ 140737488351232)
    (F : Option Addr) (cf bf of : Nat) (f : List Int) (hF : f ≠ [] → F = some ⟨bf, of, none⟩) (hf : ∀ x ∈ f, inB x) (hfl : f.length * 8 ≤ 140737488351232) (least : Int) (hlb : inB least) :
    Fn 6 [.agg #[.int .i64 nd, .int .i64 sr, .int .i64 sk, .slice A l.length c], .slice F f.length cf, .int .i64 least] [] [.seg b o (arcs l), .seg bf of (ints f)] fun v _ => v = .bool true := by
  obtain ⟨N, hN⟩ : ∃ N : Net, N = ⟨nd, sr, sk, l⟩ := ⟨_, rfl⟩
  have hFt : N.Fits := by rw [hN]; exact ⟨hnd, hsr, hsk, hs, hl⟩
  have hA' : N.arcs ≠ [] → A = some ⟨b, o, none⟩ := by rw [hN]; exact hA
  have key : Fn 6 [netV N A c, .slice F f.length cf, .int .i64 least] [] [.seg b o (arcs N.arcs), .seg bf of (ints f)] fun v _ => v = .bool true := by
    clear hN hnd hsr hsk hs hl hA
    have hlen := hFt.len
    refine Fn_of Try.func6 rfl rfl fun w0 => ?_
    (repeat' (first | refine J_seq ?_ | refine J_skip ?_ | refine J_yes rfl ?_ | refine J_no rfl ?_))
    refine J_region ?_
    refine JL_box (cs := netC N A c) rfl rfl rfl (fun _ => rfl) fun p => ?_
    refine JL_all [] rfl ?_
    (repeat' (first | refine J_seq ?_ | refine J_skip ?_ | refine J_yes rfl ?_ | refine J_no rfl ?_))
    refine J_region ?_
    refine JL_callR [] (shown11_fn) rfl rfl rfl rfl (by kernel_rfl) trivial (fun _ => rfl) ?_
    rintro v H' ⟨rfl, rfl⟩
    refine ⟨rfl, ?_⟩
    refine JL_all [] rfl ?_
    (repeat' (first | refine J_seq ?_ | refine J_skip ?_ | refine J_yes rfl ?_ | refine J_no rfl ?_))
    refine J_region ?_
    refine JL_evO (gs := [999]) rfl ?_
    refine JL_evO (gs := [999]) rfl ?_
    refine JL_evO (gs := [999]) rfl ?_
    refine JL_set 18 (v' := .bool false) rfl rfl ?_
    refine JL_run [2] rfl ?_
    refine JL_val [2] (v := .slice A N.arcs.length c) (OpV_blk 0 rfl rfl rfl rfl) rfl ?_
    refine JL_evO (gs := [2]) rfl ?_
    refine JL_evO (gs := [2]) rfl ?_
    refine JL_evO (gs := [2]) rfl ?_
    refine JL_evO (gs := [2]) rfl ?_
    by_cases h100 : (100 : Int) < N.arcs.length
    · refine JL_set 24 (v' := .bool true) rfl (congrArg Value.bool (cdec_yes h100)) ?_
      refine JL_all [2, 8] rfl ?_
      (repeat' (first | refine J_seq ?_ | refine J_skip ?_ | refine J_yes rfl ?_ | refine J_no rfl ?_))
      (repeat' (first | refine J_seq ?_ | refine J_skip ?_ | refine J_yes rfl ?_ | refine J_no rfl ?_))
      refine J_region ?_
      refine JL_all [] rfl ?_
      exact J_ret ⟨_, rfl, rfl⟩
    refine JL_set 24 (v' := .bool false) rfl (congrArg Value.bool (cdec_no h100)) ?_
    refine JL_run [2, 8] rfl ?_
    refine JL_val [2, 8] (v := .int .i64 N.nodes) (OpV_blk 0 rfl rfl rfl rfl) rfl ?_
    refine JL_all [2, 8] rfl ?_
    (repeat' (first | refine J_seq ?_ | refine J_skip ?_ | refine J_yes rfl ?_ | refine J_no rfl ?_))
    refine J_dec rfl (fun _ => ?_) (fun h40 => J_skip ?_)
    · (repeat' (first | refine J_seq ?_ | refine J_skip ?_ | refine J_yes rfl ?_ | refine J_no rfl ?_))
      refine J_region ?_
      refine JL_all [] rfl ?_
      exact J_ret ⟨_, rfl, rfl⟩
    (repeat' (first | refine J_seq ?_ | refine J_skip ?_ | refine J_yes rfl ?_ | refine J_no rfl ?_))
    refine J_region ?_
    refine JL_val [] (v := netV N A c) (OpV_blk 0 rfl rfl rfl rfl) rfl ?_
    refine JL_run [] rfl ?_
    refine JL_callR [] (tblockX_fn N hFt A c b o hA' f F cf bf of hF hf hfl least hlb) rfl rfl rfl rfl (by kernel_rfl) ⟨⟨1, _, by simp, rfl, shows_seg _ _ _, seen_seg⟩, ⟨2, _, by simp, rfl, shows_seg _ _ _, seen_seg⟩, trivial⟩ (fun _ => rfl) ?_
    rintro v H' (⟨he0, f1, ws1, k1, A1, c1, hB1, rfl, rfl⟩ | ⟨he, rfl, rfl⟩)
    · obtain ⟨hR, hW, hle⟩ := errZ_zero.1 he0
      have hnn := hR.nodes
      have hln := hR.len
      refine ⟨rfl, ?_⟩
      refine JL_all [] rfl ?_
      (repeat' (first | refine J_seq ?_ | refine J_skip ?_ | refine J_yes rfl ?_ | refine J_no rfl ?_))
      refine J_region ?_
      refine JL_val [] (v := netV N A c) (OpV_blk 1 rfl rfl rfl rfl) rfl ?_
      refine JL_run [] rfl ?_
      refine JL_callR [] (rblk11_fn N hFt A c b o hA' f F cf bf of hF hf hfl least) rfl rfl rfl rfl (by kernel_rfl) ⟨⟨2, _, by simp, rfl, shows_seg _ _ _, seen_seg⟩, ⟨3, _, by simp, rfl, shows_seg _ _ _, seen_seg⟩, trivial⟩ (fun _ => rfl) ?_
      rintro v H' (⟨_, f2, ws2, A2, c2, hB2, rfl, rfl⟩ | ⟨he, _, _⟩)
      case inr => exact absurd he0 he
      refine ⟨rfl, ?_⟩
      refine JL_all [] rfl ?_
      obtain ⟨rfl, rfl⟩ := hB1.uniq hR hB2
      have hlen1 : f1.length = f.length := by obtain ⟨_, _, h5, _⟩ := id hB1; have := h5.len; have := hW.len; omega
      have hfw := hW.len
      refine J_know (own_is 0 rfl) fun ⟨_, _, hA2, hl2⟩ => ?_
      obtain ⟨g2, hA2⟩ := own_at hA2 hl2
      refine J_know (own_is 1 rfl) fun ⟨_, _, hA1, hl1⟩ => ?_
      obtain ⟨g1, hA1⟩ := own_at hA1 hl1
      have T := same5_fn A1 c1 g1 0 f1 (ints_nat hA1) (by omega) A2 c2 g2 0 f1 (ints_nat hA2)
      rw [hlen1] at T
      (repeat' (first | refine J_seq ?_ | refine J_skip ?_ | refine J_yes rfl ?_ | refine J_no rfl ?_))
      refine J_region ?_
      refine JL_run [] rfl ?_
      refine JL_callR [] T rfl rfl rfl rfl (by kernel_rfl) ⟨⟨1, _, by simp, rfl, shows_ownS hA1, seen_ownS hA1⟩, ⟨0, _, by simp, rfl, shows_ownS hA2, seen_ownS hA2⟩, trivial⟩ (fun _ => rfl) ?_
      rintro v H' ⟨rfl, rfl⟩
      refine ⟨rfl, ?_⟩
      refine JL_evO (gs := [999]) rfl ?_
      refine JL_evO (gs := [999]) rfl ?_
      refine JL_set 51 (v' := .bool false) rfl (congrArg Value.bool (by rw [cdec_yes rfl]; rfl)) ?_
      refine JL_run [4] rfl ?_
      refine JL_set 56 (v' := .bool false) rfl (congrArg Value.bool (cdec_no (fun h => h rfl))) ?_
      refine JL_run [4, 9] rfl ?_
      refine JL_set 61 (v' := .bool false) rfl (congrArg Value.bool (cdec_no (fun h => h rfl))) ?_
      refine JL_run [4, 9, 14] rfl ?_
      refine JL_set 64 (v' := .bool false) rfl (congrArg Value.bool (cdec_no (fun h => h rfl))) ?_
      refine JL_all [4, 9, 14, 17] rfl ?_
      (repeat' (first | refine J_seq ?_ | refine J_skip ?_ | refine J_yes rfl ?_ | refine J_no rfl ?_))
      refine J_walk 10 [(0, true), (1, true), (2, true), (3, true), (5, true), (4, false), (6, false), (7, true), (8, true), (9, true)] [2] (by kernel_rfl) (by decide) rfl ?_
      refine JW_evO (gs := []) rfl rfl ?_
      refine JW_evO (gs := []) rfl rfl ?_
      refine JW_evO (gs := []) rfl rfl ?_
      refine JW_set 71 (v' := .bool false) rfl (congrArg Value.bool (cdec_no (fun h => h rfl))) ?_
      refine JW_still [2] rfl (OpV_blk (v := netV N A c) 0 rfl rfl rfl rfl) rfl ?_
      refine JW_still [2] rfl (OpV_blk (v := netV N A c) 0 rfl rfl rfl rfl) rfl ?_
      refine JW_eff rfl ?_
      refine JL_callR [2] (most_fn N hnn.1 hnn.2 (by omega) A c) rfl rfl rfl rfl (by kernel_rfl) trivial (fun _ => rfl) ?_
      rintro _ H' ⟨rfl, rfl⟩
      refine ⟨rfl, JL_nil ⟨⟨[2], by decide, rfl⟩, ?_⟩⟩
      refine JW_eff rfl ?_
      refine JL_callR [2] (rmost_fn N hnn.1 hnn.2 (by omega) A c) rfl rfl rfl rfl (by kernel_rfl) trivial (fun _ => rfl) ?_
      rintro _ H' ⟨rfl, rfl⟩
      refine ⟨rfl, JL_nil ⟨⟨[2], by decide, rfl⟩, ?_⟩⟩
      refine JW_all [2] rfl ?_
      refine JL_nil ?_
      exact J_ret ⟨_, rfl, congrArg Value.bool (cdec_yes rfl)⟩
    · refine ⟨rfl, ?_⟩
      refine JL_all [] rfl ?_
      (repeat' (first | refine J_seq ?_ | refine J_skip ?_ | refine J_yes rfl ?_ | refine J_no rfl ?_))
      refine J_region ?_
      refine JL_val [] (v := netV N A c) (OpV_blk 0 rfl rfl rfl rfl) rfl ?_
      refine JL_run [] rfl ?_
      refine JL_callR [] (rblk11_fn N hFt A c b o hA' f F cf bf of hF hf hfl least) rfl rfl rfl rfl (by kernel_rfl) ⟨⟨1, _, by simp, rfl, shows_seg _ _ _, seen_seg⟩, ⟨2, _, by simp, rfl, shows_seg _ _ _, seen_seg⟩, trivial⟩ (fun _ => rfl) ?_
      rintro v H' (⟨he0, _⟩ | ⟨_, rfl, rfl⟩)
      case inl => exact absurd he0 he
      refine ⟨rfl, ?_⟩
      refine JL_all [] rfl ?_
      (repeat' (first | refine J_seq ?_ | refine J_skip ?_ | refine J_yes rfl ?_ | refine J_no rfl ?_))
      refine J_region ?_
      refine JL_run [] rfl ?_
      refine JL_callR [] (same5_fn none 0 0 0 [] (fun h => absurd rfl h) (by decide) none 0 0 0 [] (fun h => absurd rfl h)) rfl rfl rfl rfl (by kernel_rfl) ⟨⟨0, _, by simp, rfl, shows_nil, .inl rfl⟩, ⟨0, _, by simp, rfl, shows_nil, .inl rfl⟩, trivial⟩ (fun _ => rfl) ?_
      rintro v H' ⟨rfl, rfl⟩
      refine ⟨rfl, ?_⟩
      refine JL_evO (gs := [999]) rfl ?_
      refine JL_evO (gs := [999]) rfl ?_
      refine JL_set 51 (v' := .bool false) rfl (congrArg Value.bool (by rw [cdec_yes rfl]; rfl)) ?_
      refine JL_run [4] rfl ?_
      refine JL_set 56 (v' := .bool false) rfl (congrArg Value.bool (cdec_no (fun h => h rfl))) ?_
      refine JL_run [4, 9] rfl ?_
      refine JL_set 61 (v' := .bool false) rfl (congrArg Value.bool (cdec_no (fun h => h rfl))) ?_
      refine JL_run [4, 9, 14] rfl ?_
      refine JL_set 64 (v' := .bool true) rfl (congrArg Value.bool (cdec_yes he)) ?_
      refine JL_all [4, 9, 14, 17] rfl ?_
      (repeat' (first | refine J_seq ?_ | refine J_skip ?_ | refine J_yes rfl ?_ | refine J_no rfl ?_))
      refine J_dec rfl (fun h => absurd rfl h) (fun _ => J_skip ?_)
      (repeat' (first | refine J_seq ?_ | refine J_skip ?_ | refine J_yes rfl ?_ | refine J_no rfl ?_))
      refine J_walk 10 [(0, true), (1, true), (2, true), (3, true), (5, true), (4, false), (6, false), (7, true), (8, true), (9, true)] [0] (by kernel_rfl) (by decide) rfl ?_
      refine JW_evO (gs := []) rfl rfl ?_
      refine JW_evO (gs := []) rfl rfl ?_
      refine JW_evO (gs := []) rfl rfl ?_
      refine JW_set 71 (v' := .bool true) rfl (congrArg Value.bool (cdec_yes he)) ?_
      refine JW_run [2] rfl ?_
      refine JW_eff rfl ?_
      refine JL_evO (gs := [2]) rfl ?_
      refine JL_nil ⟨⟨[0], by decide, rfl⟩, ?_⟩
      refine JW_eff rfl ?_
      refine JL_evO (gs := [2]) rfl ?_
      refine JL_nil ⟨⟨[0], by decide, rfl⟩, ?_⟩
      refine JW_all [2] rfl ?_
      refine JL_nil ?_
      exact J_ret ⟨_, rfl, rfl⟩
  rw [hN] at key
  exact key
end Go.Proofs.Ytcgcimnjknadjaa
