/- The engine and the words that all chapters share: several texts in one. -/
import Derived.Test.YtfogkbmbmaganaaGreatRefO
import Derived.Test.YtfogkbmbmaganaaGreatQC
import Derived.Test.YtfogkbmbmaganaaGreatQB

/- The references' words: flows checked, and their room. -/
set_option linter.unusedVariables false
set_option linter.unusedSimpArgs false
namespace Go.Proofs.YtfogkbmbmaganaaGreat
open Go.RowKit
theorem wrong_range {N : Net} {f : List Int} (h : rangeZ N f ≠ 0) : wrongZ N f = rangeZ N f := by
  unfold wrongZ rangeZ at *
  by_cases hc : checkZ N ≠ 0
  · rw [if_pos hc, if_pos hc]
  · rw [if_neg hc] at h
    rw [if_neg hc, if_neg hc]
    unfold flowZ
    rw [if_pos h]
theorem range_zero {N : Net} {f : List Int} (h : rangeZ N f = 0) : N.Right ∧ Ranged N f ∧ wrongZ N f = flowZ N f := by
  unfold rangeZ at h
  by_cases hc : checkZ N ≠ 0
  · rw [if_pos hc] at h; exact absurd h hc
  · rw [if_neg hc] at h
    refine ⟨checkZ_zero (Classical.not_not.1 hc), withinZ_zero.1 h, ?_⟩
    unfold wrongZ; rw [if_neg hc]
theorem wrong_zero {N : Net} {f : List Int} : wrongZ N f = 0 ↔ N.Right ∧ IsFlow N f := by
  constructor
  · intro h
    unfold wrongZ at h
    by_cases hc : checkZ N ≠ 0
    · rw [if_pos hc] at h; exact absurd h hc
    · rw [if_neg hc] at h
      exact ⟨checkZ_zero (Classical.not_not.1 hc), flowZ_zero.1 h⟩
  · rintro ⟨hR, hf⟩
    unfold wrongZ
    rw [if_neg (fun h => h hR.check)]
    exact flowZ_zero.2 hf
set_option maxHeartbeats 1000000 in
theorem rflow_fn (N : Net) (hN : N.Fits) (A : Option Addr) (c b o : Nat) (hA : N.arcs ≠ [] → A = some ⟨b, o, none⟩) (f : List Int) (F : Option Addr) (cf bf of : Nat) (hF : f ≠ [] → F = some ⟨bf, of, none⟩) (hf : ∀ x ∈ f, inB x) (hfl : f.length * 8 ≤ 140737488351232) :
    Fn 48 [netV N A c, .slice F f.length cf] [] [.seg b o (arcs N.arcs), .seg bf of (ints f)] fun v H' => v = .int .i64 (wrongZ N f) ∧ H' = [] := by
  refine Fn_of Tryz.func48 rfl rfl fun w0 => ?_
  (repeat' (first | refine J_seq ?_ | refine J_skip ?_ | refine J_yes rfl ?_ | refine J_no rfl ?_))
  refine J_region ?_
  refine JL_box (cs := netC N A c) rfl rfl rfl (fun _ => rfl) fun p => ?_
  refine JL_all [] rfl ?_
  (repeat' (first | refine J_seq ?_ | refine J_skip ?_ | refine J_yes rfl ?_ | refine J_no rfl ?_))
  refine J_region ?_
  refine JL_val [] (v := netV N A c) (OpV_blk 0 rfl rfl rfl rfl) rfl ?_
  refine JL_run [] rfl ?_
  refine JL_callR [] (rwithin_fn N hN A c b o hA f F cf bf of hF hf hfl) rfl rfl rfl rfl (by kernel_rfl) ⟨⟨1, _, by simp, rfl, shows_seg _ _ _, seen_seg⟩, ⟨2, _, by simp, rfl, shows_seg _ _ _, seen_seg⟩, trivial⟩ (fun _ => rfl) ?_
  rintro v H' ⟨rfl, rfl⟩
  refine ⟨rfl, ?_⟩
  refine JL_all [] rfl ?_
  (repeat' (first | refine J_seq ?_ | refine J_skip ?_ | refine J_yes rfl ?_ | refine J_no rfl ?_))
  refine J_region ?_
  refine JL_all [] rfl ?_
  refine J_dec rfl (fun h => ?_) (fun hz => J_skip ?_)
  · (repeat' (first | refine J_seq ?_ | refine J_skip ?_ | refine J_yes rfl ?_ | refine J_no rfl ?_))
    refine J_region ?_
    refine JL_all [] rfl ?_
    refine J_drop [] (by decide) rfl (J_ret ⟨_, rfl, ?_, rfl⟩)
    rw [wrong_range h]; rfl
  obtain ⟨hR, hr, hw⟩ := range_zero (Classical.not_not.1 hz)
  rw [hw]
  have hnn := hR.nodes
  obtain ⟨n, hn⟩ : ∃ n : Nat, N.nodes = n := ⟨N.nodes.toNat, by omega⟩
  (repeat' (first | refine J_seq ?_ | refine J_skip ?_ | refine J_yes rfl ?_ | refine J_no rfl ?_))
  refine J_region ?_
  refine JL_all [] rfl ?_
  (repeat' (first | refine J_seq ?_ | refine J_skip ?_ | refine J_yes rfl ?_ | refine J_no rfl ?_))
  refine J_block ?_
  refine J_loopF (σ := Nat) (fun k => [(6, .int .i64 ((k + 1 : Nat) : Int)), (1, .slice F f.length cf), (2, .pointer (some ⟨p, 0, none⟩))])
    (fun k => [blk p 24 (netC N A c), .seg b o (arcs N.arcs), .seg bf of (ints f)]) (fun k => k ≤ n ∧ ∀ v : Int, 1 ≤ v ∧ v ≤ k → v ≠ N.src → v ≠ N.snk → exZ (N.arcs.zip f) v = 0) (fun k => n - k)
    0 ⟨rfl, rfl, rfl, trivial⟩ Fit.refl ⟨Nat.zero_le _, fun v hv => by omega⟩ ?_
  rintro k ⟨hk, hall⟩
  (repeat' (first | refine J_seq ?_ | refine J_skip ?_ | refine J_yes rfl ?_ | refine J_no rfl ?_))
  refine J_region ?_
  refine JL_run [] rfl ?_
  refine JL_val [] (v := .int .i64 N.nodes) (OpV_blk 0 rfl rfl rfl rfl) rfl ?_
  refine JL_all [] rfl ?_
  (repeat' (first | refine J_seq ?_ | refine J_skip ?_ | refine J_yes rfl ?_ | refine J_no rfl ?_))
  refine J_dec rfl (fun hlt => J_skip ?_) (fun hge => J_exit ?_)
  · have hkn : k < n := by omega
    refine J_seq (J_block ?_)
    refine J_cut [(35, .bool (cdec (((k + 1 : Nat) : Int) ≠ N.src ∧ ((k + 1 : Nat) : Int) ≠ N.snk ∧ exZ (N.arcs.zip f) ((k + 1 : Nat) : Int) ≠ 0))), (6, .int .i64 ((k + 1 : Nat) : Int)), (1, .slice F f.length cf), (2, .pointer (some ⟨p, 0, none⟩))] [blk p 24 (netC N A c), .seg b o (arcs N.arcs), .seg bf of (ints f)] ?_ ?_
    · (repeat' (first | refine J_seq ?_ | refine J_skip ?_ | refine J_yes rfl ?_ | refine J_no rfl ?_))
      refine J_region ?_
      refine JL_run [] rfl ?_
      refine JL_val [] (v := .int .i64 N.src) (OpV_blk 0 rfl rfl rfl rfl) rfl ?_
      refine JL_evO (gs := [999]) rfl ?_
      refine JL_evO (gs := [999]) rfl ?_
      by_cases h1 : ((k + 1 : Nat) : Int) ≠ N.src
      case neg =>
        refine JL_set 23 (v' := .bool false) rfl (congrArg Value.bool (cdec_no h1)) ?_
        refine JL_all [4, 10] rfl ?_
        exact ⟨[0, 1, 2], ⟨congrArg some (congrArg Value.bool (cdec_no (fun h => h1 h.1)).symm), rfl, rfl, rfl, trivial⟩, by decide, rfl⟩
      refine JL_set 23 (v' := .bool true) rfl (congrArg Value.bool (cdec_yes h1)) ?_
      refine JL_run [4] rfl ?_
      refine JL_val [4] (v := .int .i64 N.snk) (OpV_blk 0 rfl rfl rfl rfl) rfl ?_
      refine JL_run [4] rfl ?_
      by_cases h2 : ((k + 1 : Nat) : Int) ≠ N.snk
      case neg =>
        refine JL_set 29 (v' := .bool false) rfl (congrArg Value.bool (cdec_no h2)) ?_
        refine JL_all [4, 10] rfl ?_
        exact ⟨[0, 1, 2], ⟨congrArg some (congrArg Value.bool (cdec_no (fun h => h2 h.2.1)).symm), rfl, rfl, rfl, trivial⟩, by decide, rfl⟩
      refine JL_set 29 (v' := .bool true) rfl (congrArg Value.bool (cdec_yes h2)) ?_
      refine JL_run [4, 10] rfl ?_
      refine JL_val [4, 10] (v := netV N A c) (OpV_blk 0 rfl rfl rfl rfl) rfl ?_
      refine JL_run [4, 10] rfl ?_
      refine JL_callR [4, 10] (rexcess_fn N hR A c b o hA f hr F cf bf of hF ((k + 1 : Nat) : Int)) rfl rfl rfl rfl (by kernel_rfl) ⟨⟨1, _, by simp, rfl, shows_seg _ _ _, seen_seg⟩, ⟨2, _, by simp, rfl, shows_seg _ _ _, seen_seg⟩, trivial⟩ (fun _ => rfl) ?_
      rintro v H' ⟨rfl, rfl⟩
      refine ⟨rfl, ?_⟩
      refine JL_all [4, 10] rfl ?_
      exact ⟨[0, 1, 2], ⟨congrArg some (congrArg Value.bool (cdec_iff ⟨fun h => ⟨h1, h2, h⟩, fun h => h.2.2⟩)), rfl, rfl, rfl, trivial⟩, by decide, rfl⟩
    · refine J_dec rfl (fun h1 => ?_) (fun h1 => J_skip ?_)
      · (repeat' (first | refine J_seq ?_ | refine J_skip ?_ | refine J_yes rfl ?_ | refine J_no rfl ?_))
        refine J_region ?_
        refine JL_all [] rfl ?_
        refine J_drop [] (by decide) rfl (J_ret ⟨_, rfl, ?_, rfl⟩)
        rw [flowZ_no hr (fun h => h1.2.2 (h _ ⟨by omega, by omega⟩ h1.1 h1.2.1))]; rfl
      (repeat' (first | refine J_seq ?_ | refine J_skip ?_ | refine J_yes rfl ?_ | refine J_no rfl ?_))
      refine J_region ?_
      refine JL_all [] rfl ?_
      refine ⟨k + 1, ⟨?_, rfl, rfl, trivial⟩, Fit.refl, ⟨by omega, fun v hv h2 h3 => ?_⟩, by omega⟩
      · show some (Value.int .i64 (IntKind.i64.wrap (((k + 1 : Nat) : Int) + 1))) = _
        rw [w64 (by omega)]; rfl
      · by_cases e : v = ((k + 1 : Nat) : Int)
        · subst e
          exact Classical.byContradiction fun h => h1 ⟨h2, h3, h⟩
        · exact hall v (by omega) h2 h3
  · obtain rfl : k = n := by omega
    (repeat' (first | refine J_seq ?_ | refine J_skip ?_ | refine J_yes rfl ?_ | refine J_no rfl ?_))
    refine J_region ?_
    refine JL_all [] rfl ?_
    refine J_drop [] (by decide) rfl (J_ret ⟨_, rfl, ?_, rfl⟩)
    rw [flowZ_yes hr (fun v hv h2 h3 => hall v (by omega) h2 h3)]; rfl
end Go.Proofs.YtfogkbmbmaganaaGreat


/- The references' words: room, and the ends of tracks. -/
set_option linter.unusedVariables false
set_option linter.unusedSimpArgs false
namespace Go.Proofs.YtfogkbmbmaganaaGreat
open Go.RowKit
def rroomR (N : Net) (f : List Int) (v : Value) (H' : Heap) : Prop :=
  (N.Right ∧ IsFlow N f ∧ ∃ A' c', v = .tuple #[.slice A' (2 * N.arcs.length) c', .int .i64 0] ∧ H' = [.own (.slice A' (2 * N.arcs.length) c') 2 1 (2 * N.arcs.length) (ints (roomL (N.arcs.zip f)))]) ∨
  (wrongZ N f ≠ 0 ∧ v = .tuple #[.slice none 0 0, .int .i64 (wrongZ N f)] ∧ H' = [])
set_option maxHeartbeats 1000000 in
theorem rroom_fn (N : Net) (hN : N.Fits) (A : Option Addr) (c b o : Nat) (hA : N.arcs ≠ [] → A = some ⟨b, o, none⟩) (f : List Int) (F : Option Addr) (cf bf of : Nat) (hF : f ≠ [] → F = some ⟨bf, of, none⟩) (hf : ∀ x ∈ f, inB x) (hfl : f.length * 8 ≤ 140737488351232) :
    Fn 84 [netV N A c, .slice F f.length cf] [] [.seg b o (arcs N.arcs), .seg bf of (ints f)] (rroomR N f) := by
  refine Fn_of Tryz.func84 rfl rfl fun w0 => ?_
  (repeat' (first | refine J_seq ?_ | refine J_skip ?_ | refine J_yes rfl ?_ | refine J_no rfl ?_))
  refine J_region ?_
  refine JL_box (cs := netC N A c) rfl rfl rfl (fun _ => rfl) fun p => ?_
  refine JL_all [] rfl ?_
  (repeat' (first | refine J_seq ?_ | refine J_skip ?_ | refine J_yes rfl ?_ | refine J_no rfl ?_))
  refine J_region ?_
  refine JL_val [] (v := netV N A c) (OpV_blk 0 rfl rfl rfl rfl) rfl ?_
  refine JL_run [] rfl ?_
  refine JL_callR [] (rflow_fn N hN A c b o hA f F cf bf of hF hf hfl) rfl rfl rfl rfl (by kernel_rfl) ⟨⟨1, _, by simp, rfl, shows_seg _ _ _, seen_seg⟩, ⟨2, _, by simp, rfl, shows_seg _ _ _, seen_seg⟩, trivial⟩ (fun _ => rfl) ?_
  rintro v H' ⟨rfl, rfl⟩
  refine ⟨rfl, ?_⟩
  refine JL_all [] rfl ?_
  (repeat' (first | refine J_seq ?_ | refine J_skip ?_ | refine J_yes rfl ?_ | refine J_no rfl ?_))
  refine J_region ?_
  refine JL_all [] rfl ?_
  refine J_dec rfl (fun h => ?_) (fun hz => J_skip ?_)
  · (repeat' (first | refine J_seq ?_ | refine J_skip ?_ | refine J_yes rfl ?_ | refine J_no rfl ?_))
    refine J_region ?_
    refine JL_all [] rfl ?_
    exact J_drop [] (by decide) rfl (J_ret ⟨_, rfl, .inr ⟨h, rfl, rfl⟩⟩)
  obtain ⟨hR, hW⟩ := wrong_zero.1 (Classical.not_not.1 hz)
  have hlen := hW.len
  have hl2 := hR.len
  (repeat' (first | refine J_seq ?_ | refine J_skip ?_ | refine J_yes rfl ?_ | refine J_no rfl ?_))
  refine J_region ?_
  refine JL_all [] rfl ?_
  (repeat' (first | refine J_seq ?_ | refine J_skip ?_ | refine J_yes rfl ?_ | refine J_no rfl ?_))
  refine J_region ?_
  refine JL_all [] rfl ?_
  (repeat' (first | refine J_seq ?_ | refine J_skip ?_ | refine J_yes rfl ?_ | refine J_no rfl ?_))
  refine J_block ?_
  refine J_addnil 2 1 ?_
  refine J_loop (σ := Nat × Option Addr × Nat) (fun s => [(8, .int .i64 (s.1 : Int)), (7, .slice s.2.1 (2 * s.1) s.2.2), (1, .slice F f.length cf), (2, .pointer (some ⟨p, 0, none⟩))])
    (fun s => [.own (.slice s.2.1 (2 * s.1) s.2.2) 2 1 (2 * s.1) (ints (roomL ((N.arcs.zip f).take s.1))), blk p 24 (netC N A c), .seg b o (arcs N.arcs), .seg bf of (ints f)]) (fun s => s.1 ≤ f.length) (fun s => f.length - s.1)
    (0, none, 0) [0, 1, 2, 3] ⟨rfl, rfl, rfl, rfl, trivial⟩ (by decide) rfl (Nat.zero_le _) ?_
  rintro ⟨k, A1, c1⟩ hk
  simp only at hk ⊢
  (repeat' (first | refine J_seq ?_ | refine J_skip ?_ | refine J_yes rfl ?_ | refine J_no rfl ?_))
  refine J_region ?_
  refine JL_all [] rfl ?_
  (repeat' (first | refine J_seq ?_ | refine J_skip ?_ | refine J_yes rfl ?_ | refine J_no rfl ?_))
  refine J_dec rfl (fun hlt => J_skip ?_) (fun hge => J_exit ?_)
  · have hlt : k < f.length := by omega
    obtain rfl := hF (by rintro rfl; simp at hlt)
    obtain rfl := hA (by intro h; have h0 : N.arcs.length = 0 := by rw [h]; rfl
                         omega)
    obtain ⟨x, hx⟩ : ∃ x, f[k]? = some x := ⟨f[k], List.getElem?_eq_getElem hlt⟩
    obtain ⟨a, ha⟩ : ∃ a, N.arcs[k]? = some a := ⟨N.arcs[k], List.getElem?_eq_getElem (by omega)⟩
    obtain ⟨_, _, hcap⟩ := arcs_get ha
    have hz : (N.arcs.zip f)[k]? = some (a, x) := zip_some ha hx
    have hxr := hW.all _ (List.mem_of_getElem? hz)
    simp only at hxr
    have hrl := roomL_length ((N.arcs.zip f).take k)
    have hrs := roomL_succ hz
    have hcb := (hN.arc a (List.mem_of_getElem? ha)).2.2
    unfold inB at hcb
    refine J_seq (J_block ?_)
    (repeat' (first | refine J_seq ?_ | refine J_skip ?_ | refine J_yes rfl ?_ | refine J_no rfl ?_))
    refine J_walk 15 [(0, true), (1, true), (2, true), (3, true), (4, true), (5, true), (6, true), (7, true), (8, true), (9, true), (10, true), (11, true), (12, false), (13, false), (14, true)] [1, 2, 3] (by kernel_rfl) (by decide) rfl ?_
    refine JW_run [] rfl ?_
    refine JW_still [] rfl (OpV_blk (v := .slice (some ⟨b, o, none⟩) N.arcs.length c) 0 rfl rfl rfl rfl) rfl ?_
    refine JW_run [] rfl ?_
    refine JW_still [] rfl (idxN rfl rfl rfl rfl rfl (show k < N.arcs.length by omega)) rfl ?_
    refine JW_run [] rfl ?_
    refine JW_still [] rfl (ldseg 1 rfl rfl rfl rfl hcap) rfl ?_
    refine JW_run [] rfl ?_
    refine JW_still [] rfl (idx1 rfl rfl rfl rfl rfl hlt) rfl ?_
    refine JW_still [] rfl (ldseg 2 rfl rfl rfl rfl (readT_int hx)) rfl ?_
    refine JW_run [] rfl ?_
    refine JW_set 32 (v' := .int .i64 (a.cap - x)) rfl (congrArg (Value.int .i64) (w64 (by omega))) ?_
    refine JW_eff rfl ?_
    refine JL_lit rfl rfl rfl rfl rfl rfl rfl (fun _ => rfl) fun g => ?_
    refine JL_nil ⟨⟨[2, 3, 4], by decide, rfl⟩, ?_⟩
    refine JW_eff rfl ?_
    refine JL_appendS (n := 2 * k) (off := 0) (m := 1) (news := ints [a.cap - x]) 1 0 rfl rfl rfl rfl rfl rfl (by decide) rfl rfl (shows_blk g _ _ (0, 0)) (fun _ => rfl) rfl rfl (by omega) (by omega) (fun _ _ => rfl) fun A2 c2 => ?_
    refine JL_nil ⟨⟨[2, 3, 4], by decide, rfl⟩, ?_⟩
    refine JW_all [] rfl ?_
    refine JL_nil ?_
    (repeat' (first | refine J_seq ?_ | refine J_skip ?_ | refine J_yes rfl ?_ | refine J_no rfl ?_))
    refine J_region ?_
    refine JL_run [] rfl ?_
    refine JL_val [] (idx1 rfl rfl rfl rfl rfl hlt) rfl ?_
    refine JL_val [] (ldseg 4 rfl rfl rfl rfl (readT_int hx)) rfl ?_
    refine JL_lit rfl rfl rfl rfl rfl rfl rfl (fun _ => rfl) fun g2 => ?_
    refine JL_appendS (n := 2 * k + 1) (off := 0) (m := 1) (news := ints [x]) 2 0 rfl rfl rfl rfl rfl rfl (by decide) rfl rfl (shows_blk g2 _ _ (0, 0)) (fun _ => rfl) rfl rfl (by omega) (by omega) (fun _ _ => rfl) fun A3 c3 => ?_
    refine JL_all [] rfl ?_
    (repeat' (first | refine J_seq ?_ | refine J_skip ?_ | refine J_yes rfl ?_ | refine J_no rfl ?_))
    refine J_region ?_
    refine JL_all [] rfl ?_
    refine ⟨(k + 1, A3, c3), [2, 3, 4, 5], ⟨?_, rfl, rfl, rfl, trivial⟩, by decide, ?_, by simp only; omega, by simp only; omega⟩
    · show some (Value.int .i64 (IntKind.i64.wrap ((k : Int) + 1))) = _
      rw [w64 (by omega)]; rfl
    · show some [Chunk.own _ _ _ _ (ints (roomL ((N.arcs.zip f).take k)) ++ ints [a.cap - x] ++ ints [x]), _, _, _] = some [Chunk.own _ _ _ _ (ints (roomL ((N.arcs.zip f).take (k + 1)))), _, _, _]
      rw [hrs]
      simp [ints]
      rfl
  · obtain rfl : k = f.length := by omega
    rw [List.take_of_length_le (by rw [List.length_zip]; omega), hlen]
    (repeat' (first | refine J_seq ?_ | refine J_skip ?_ | refine J_yes rfl ?_ | refine J_no rfl ?_))
    refine J_region ?_
    refine JL_all [] rfl ?_
    exact J_drop [0] (by decide) rfl (J_ret ⟨_, rfl, .inl ⟨hR, hW, A1, c1, rfl, rfl⟩⟩)
set_option maxHeartbeats 1000000 in
theorem rends_fn (N : Net) (A : Option Addr) (c b o : Nat) (hA : N.arcs ≠ [] → A = some ⟨b, o, none⟩) (hl : N.arcs.length ≤ 2000) (r : Nat) (hr : r < 2 * N.arcs.length) :
    Fn 94 [netV N A c, .int .i64 r] [] [.seg b o (arcs N.arcs)] fun v H' => v = two (endsZ N r) ∧ H' = [] := by
  obtain rfl := hA (by intro h; rw [h] at hr; simp at hr)
  obtain ⟨a, ha⟩ : ∃ a, N.arcs[r / 2]? = some a := ⟨N.arcs[r / 2]'(by omega), List.getElem?_eq_getElem (by omega)⟩
  have he : endsZ N r = endsOf a r := by unfold endsZ; rw [ha]
  have hq : IntKind.i64.wrap ((r : Int).tdiv 2) = ((r / 2 : Nat) : Int) := by rw [w64 (by rw [Int.tdiv_eq_ediv_of_nonneg (by omega)]; omega), Int.tdiv_eq_ediv_of_nonneg (by omega)]; omega
  have hm : (r : Int).tmod 2 = ((r % 2 : Nat) : Int) := by rw [Int.tmod_eq_emod_of_nonneg (by omega)]; omega
  rw [he]
  refine Fn_of Tryz.func94 rfl rfl fun w0 => ?_
  (repeat' (first | refine J_seq ?_ | refine J_skip ?_ | refine J_yes rfl ?_ | refine J_no rfl ?_))
  refine J_region ?_
  refine JL_box (cs := netC N (some ⟨b, o, none⟩) c) rfl rfl rfl (fun _ => rfl) fun p => ?_
  refine JL_all [] rfl ?_
  (repeat' (first | refine J_seq ?_ | refine J_skip ?_ | refine J_yes rfl ?_ | refine J_no rfl ?_))
  refine J_region ?_
  refine JL_evO (gs := [999]) rfl ?_
  refine JL_evO (gs := [999]) rfl ?_
  refine JL_evO (gs := [999]) rfl ?_
  refine JL_set 9 (v' := .bool false) rfl (congrArg Value.bool (cdec_no (by omega))) ?_
  refine JL_run [2] rfl ?_
  refine JL_val [2] (v := .slice (some ⟨b, o, none⟩) N.arcs.length c) (OpV_blk 0 rfl rfl rfl rfl) rfl ?_
  refine JL_evO (gs := [2]) rfl ?_
  refine JL_evO (gs := [2]) rfl ?_
  refine JL_set 14 (v' := .int .i64 ((2 * N.arcs.length : Nat) : Int)) rfl (congrArg (Value.int .i64) ((w64 (by omega)).trans (by omega))) ?_
  refine JL_all [2] rfl ?_
  refine J_dec rfl (fun h => absurd h (by omega)) (fun _ => J_skip ?_)
  (repeat' (first | refine J_seq ?_ | refine J_skip ?_ | refine J_yes rfl ?_ | refine J_no rfl ?_))
  refine J_region ?_
  refine JL_run [] rfl ?_
  refine JL_val [] (v := .slice (some ⟨b, o, none⟩) N.arcs.length c) (OpV_blk 0 rfl rfl rfl rfl) rfl ?_
  refine JL_evO (gs := [999]) rfl ?_
  refine JL_val [] (OpV_quo (b := 2) rfl rfl rfl (by decide)) rfl ?_
  refine JL_set 20 (v' := .int .i64 ((r / 2 : Nat) : Int)) rfl (congrArg (Value.int .i64) hq) ?_
  refine JL_val [] (idxN rfl rfl rfl rfl rfl (by omega)) rfl ?_
  refine JL_val [] (ldseg 1 rfl rfl rfl rfl (readT_arc ha)) rfl ?_
  refine JL_alloc rfl rfl rfl (fun _ => rfl) fun q => ?_
  refine JL_store 0 rfl rfl rfl rfl rfl [] rfl ?_
  refine JL_nil ?_
  (repeat' (first | refine J_seq ?_ | refine J_skip ?_ | refine J_yes rfl ?_ | refine J_no rfl ?_))
  refine J_region ?_
  refine JL_evO (gs := [999]) rfl ?_
  refine JL_evO (gs := [999]) rfl ?_
  refine JL_set 24 (v' := .int .i64 ((r % 2 : Nat) : Int)) rfl (congrArg (Value.int .i64) hm) ?_
  refine JL_all [] rfl ?_
  (repeat' (first | refine J_seq ?_ | refine J_skip ?_ | refine J_yes rfl ?_ | refine J_no rfl ?_))
  refine J_dec rfl (fun h => ?_) (fun h => J_skip ?_)
  · have e : endsOf a r = (a.to, a.fr) := by unfold endsOf; rw [if_pos (by omega)]
    rw [e]
    (repeat' (first | refine J_seq ?_ | refine J_skip ?_ | refine J_yes rfl ?_ | refine J_no rfl ?_))
    refine J_walk 6 [(0, true), (1, true), (2, true), (3, true), (4, true), (5, true)] [0] (by kernel_rfl) (by decide) rfl ?_
    refine JW_run [] rfl ?_
    refine JW_still [] rfl (OpV_blk (v := .int .i64 a.to) 0 rfl rfl rfl rfl) rfl ?_
    refine JW_run [] rfl ?_
    refine JW_still [] rfl (OpV_blk (v := .int .i64 a.fr) 0 rfl rfl rfl rfl) rfl ?_
    refine JW_all [] rfl ?_
    refine JL_nil ?_
    exact J_drop [] (by decide) rfl (J_ret ⟨_, rfl, rfl, rfl⟩)
  · have e : endsOf a r = (a.fr, a.to) := by unfold endsOf; rw [if_neg (by omega)]
    rw [e]
    (repeat' (first | refine J_seq ?_ | refine J_skip ?_ | refine J_yes rfl ?_ | refine J_no rfl ?_))
    refine J_walk 6 [(0, true), (1, true), (2, true), (3, true), (4, true), (5, true)] [0] (by kernel_rfl) (by decide) rfl ?_
    refine JW_run [] rfl ?_
    refine JW_still [] rfl (OpV_blk (v := .int .i64 a.fr) 0 rfl rfl rfl rfl) rfl ?_
    refine JW_run [] rfl ?_
    refine JW_still [] rfl (OpV_blk (v := .int .i64 a.to) 0 rfl rfl rfl rfl) rfl ?_
    refine JW_all [] rfl ?_
    refine JL_nil ?_
    exact J_drop [] (by decide) rfl (J_ret ⟨_, rfl, rfl, rfl⟩)
end Go.Proofs.YtfogkbmbmaganaaGreat
