
/- The references' words: levels, tracks that lead on, how deep the sink lies. -/
import Derived.Test.YtfogkbmbmaganaaGreatRefR
import Derived.Test.YtfogkbmbmaganaaGreatQX21
set_option linter.unusedVariables false
set_option linter.unusedSimpArgs false
namespace Go.Proofs.YtfogkbmbmaganaaGreat
open Go.RowKit
def rlevR (N : Net) (f : List Int) (least : Int) (v : Value) (H' : Heap) : Prop :=
  (errZ N f least = 0 ∧ ∃ (n g : Nat) (lv : List Int), N.nodes = n ∧ IsLev N (roomL (N.arcs.zip f)) least lv ∧ v = .tuple #[.slice (some ⟨g, 0, none⟩) (n + 1) (n + 1), .int .i64 0] ∧ H' = [.own (.slice (some ⟨g, 0, none⟩) (n + 1) (n + 1)) 3 1 (n + 1) (ints lv)]) ∨
  (errZ N f least ≠ 0 ∧ v = .tuple #[.slice none 0 0, .int .i64 (errZ N f least)] ∧ H' = [])
set_option maxHeartbeats 2000000 in
theorem rlevels_fn (N : Net) (hN : N.Fits) (A : Option Addr) (c b o : Nat) (hA : N.arcs ≠ [] → A = some ⟨b, o, none⟩) (f : List Int) (F : Option Addr) (cf bf of : Nat) (hF : f ≠ [] → F = some ⟨bf, of, none⟩) (hf : ∀ x ∈ f, inB x) (hfl : f.length * 8 ≤ 140737488351232) (least : Int) :
    Fn 81 [netV N A c, .slice F f.length cf, .int .i64 least] [] [.seg b o (arcs N.arcs), .seg bf of (ints f)] (rlevR N f least) := by
  refine Fn_of Tryz.func81 rfl rfl fun w0 => ?_
  (repeat' (first | refine J_seq ?_ | refine J_skip ?_ | refine J_yes rfl ?_ | refine J_no rfl ?_))
  refine J_region ?_
  refine JL_box (cs := netC N A c) rfl rfl rfl (fun _ => rfl) fun p => ?_
  refine JL_all [] rfl ?_
  (repeat' (first | refine J_seq ?_ | refine J_skip ?_ | refine J_yes rfl ?_ | refine J_no rfl ?_))
  refine J_region ?_
  refine JL_val [] (v := netV N A c) (OpV_blk 0 rfl rfl rfl rfl) rfl ?_
  refine JL_run [] rfl ?_
  refine JL_callR [] (rreach_fn N hN A c b o hA f F cf bf of hF hf hfl least) rfl rfl rfl rfl (by kernel_rfl) ⟨⟨1, _, by simp, rfl, shows_seg _ _ _, seen_seg⟩, ⟨2, _, by simp, rfl, shows_seg _ _ _, seen_seg⟩, trivial⟩ (fun _ => rfl) ?_
  rintro v H' (⟨he0, _, _, _, rfl, rfl⟩ | ⟨he, rfl, rfl⟩)
  case inr =>
    refine ⟨rfl, ?_⟩
    refine JL_all [] rfl ?_
    (repeat' (first | refine J_seq ?_ | refine J_skip ?_ | refine J_yes rfl ?_ | refine J_no rfl ?_))
    refine J_region ?_
    refine JL_all [] rfl ?_
    refine J_dec rfl (fun h => ?_) (fun h => absurd he h)
    (repeat' (first | refine J_seq ?_ | refine J_skip ?_ | refine J_yes rfl ?_ | refine J_no rfl ?_))
    refine J_region ?_
    refine JL_all [] rfl ?_
    exact J_drop [] (by decide) rfl (J_ret ⟨_, rfl, .inr ⟨he, rfl, rfl⟩⟩)
  obtain ⟨hR, hW, hle⟩ := errZ_zero.1 he0
  refine ⟨rfl, ?_⟩
  refine JL_all [] rfl ?_
  (repeat' (first | refine J_seq ?_ | refine J_skip ?_ | refine J_yes rfl ?_ | refine J_no rfl ?_))
  refine J_region ?_
  refine JL_all [] rfl ?_
  refine J_dec rfl (fun h => absurd rfl h) (fun _ => J_skip ?_)
  (repeat' (first | refine J_seq ?_ | refine J_skip ?_ | refine J_yes rfl ?_ | refine J_no rfl ?_))
  refine J_region ?_
  refine JL_val [] (v := netV N A c) (OpV_blk 1 rfl rfl rfl rfl) rfl ?_
  refine JL_run [] rfl ?_
  refine JL_callR [] (rroom_fn N hN A c b o hA f F cf bf of hF hf hfl) rfl rfl rfl rfl (by kernel_rfl) ⟨⟨2, _, by simp, rfl, shows_seg _ _ _, seen_seg⟩, ⟨3, _, by simp, rfl, shows_seg _ _ _, seen_seg⟩, trivial⟩ (fun _ => rfl) ?_
  rintro v H' (⟨_, _, A1, c1, rfl, rfl⟩ | ⟨hw, rfl, rfl⟩)
  case inr => exact absurd (wrong_zero.2 ⟨hR, hW⟩) hw
  refine ⟨rfl, ?_⟩
  refine JL_all [] rfl ?_
  have hnn := hR.nodes
  have hsr := hR.src
  have hl2 := hR.len
  obtain ⟨n, hn⟩ : ∃ n : Nat, N.nodes = n := ⟨N.nodes.toNat, by omega⟩
  obtain ⟨s0, hs0⟩ : ∃ s0 : Nat, N.src = s0 := ⟨N.src.toNat, by omega⟩
  have hn' : N.nodes.toNat = n := by omega
  have hs' : N.src.toNat = s0 := by omega
  obtain ⟨rm, hrm⟩ : ∃ rm, rm = roomL (N.arcs.zip f) := ⟨_, rfl⟩
  have hrl : rm.length = 2 * N.arcs.length := by rw [hrm, roomL_length, List.length_zip, hW.len, Nat.min_self]
  rw [← hrm]
  refine J_know (own_is 0 rfl) fun ⟨_, _, hA1, hla⟩ => ?_
  obtain ⟨gr, hA1⟩ := own_at hA1 hla
  (repeat' (first | refine J_seq ?_ | refine J_skip ?_ | refine J_yes rfl ?_ | refine J_no rfl ?_))
  refine J_region ?_
  refine JL_run [] rfl ?_
  refine JL_val [] (v := .int .i64 N.nodes) (OpV_blk 2 rfl rfl rfl rfl) rfl ?_
  refine JL_evO (gs := [999]) rfl ?_
  refine JL_set 36 (v' := .int .i64 ((n + 1 : Nat) : Int)) rfl (congrArg (Value.int .i64) ((w64 (n := N.nodes + 1) (by omega)).trans (by omega))) ?_
  refine JL_make (n := n + 1) (c := n + 1) rfl rfl rfl rfl rfl rfl (by omega) (by omega) (by omega) (fun _ => rfl) fun g => ?_
  refine JL_all [] rfl ?_
  rw [show made [Value.int .i64 0] ((n + 1) * 1) = ints (List.replicate (n + 1) 0) by rw [made_one, Nat.mul_one]; simp [ints]]
  (repeat' (first | refine J_seq ?_ | refine J_skip ?_ | refine J_yes rfl ?_ | refine J_no rfl ?_))
  refine J_region ?_
  refine JL_all [] rfl ?_
  (repeat' (first | refine J_seq ?_ | refine J_skip ?_ | refine J_yes rfl ?_ | refine J_no rfl ?_))
  refine J_block ?_
  refine J_loopF (σ := Nat) (fun k => [(13, .int .i64 (k : Int)), (12, .slice (some ⟨g, 0, none⟩) (n + 1) (n + 1)), (10, .slice A1 (2 * N.arcs.length) c1), (3, .pointer (some ⟨p, 0, none⟩)), (2, .int .i64 least)])
    (fun k => [.own (.slice (some ⟨g, 0, none⟩) (n + 1) (n + 1)) 3 1 (n + 1) (ints (List.replicate k (-1) ++ List.replicate (n + 1 - k) 0)), .own (.slice A1 (2 * N.arcs.length) c1) 2 1 (2 * N.arcs.length) (ints rm), blk p 24 (netC N A c), .seg b o (arcs N.arcs), .seg bf of (ints f)])
    (fun k => k ≤ n + 1) (fun k => n + 1 - k) 0 ⟨rfl, rfl, rfl, rfl, rfl, trivial⟩ (Fit.picks [0, 1, 3, 4, 5] (by decide) rfl) (Nat.zero_le _) ?_
  intro k hk
  (repeat' (first | refine J_seq ?_ | refine J_skip ?_ | refine J_yes rfl ?_ | refine J_no rfl ?_))
  refine J_region ?_
  refine JL_all [] rfl ?_
  (repeat' (first | refine J_seq ?_ | refine J_skip ?_ | refine J_yes rfl ?_ | refine J_no rfl ?_))
  refine J_dec rfl (fun hlt => J_skip ?_) (fun hge => J_exit ?_)
  · have hlt : k < n + 1 := by omega
    refine J_seq (J_block ?_)
    (repeat' (first | refine J_seq ?_ | refine J_skip ?_ | refine J_yes rfl ?_ | refine J_no rfl ?_))
    refine J_region ?_
    refine JL_run [] rfl ?_
    refine JL_val [] (idx1z rfl rfl rfl rfl rfl hlt) rfl ?_
    refine JL_store_own 0 rfl rfl rfl rfl (put_ints rfl (by simp; omega)) [] rfl ?_
    refine JL_nil ?_
    (repeat' (first | refine J_seq ?_ | refine J_skip ?_ | refine J_yes rfl ?_ | refine J_no rfl ?_))
    refine J_region ?_
    refine JL_all [] rfl ?_
    refine ⟨k + 1, ⟨congrArg some (congrArg (Value.int .i64) (w64 (n := (k : Int) + 1) (by omega))), rfl, rfl, rfl, rfl, trivial⟩, ?_, hlt, by omega⟩
    rw [show List.replicate (k + 1) (-1 : Int) ++ List.replicate (n + 1 - (k + 1)) 0 = (List.replicate k (-1) ++ List.replicate (n + 1 - k) 0).set k (-1) by
      rw [List.set_append_right _ _ (by simp), List.length_replicate, Nat.sub_self, show n + 1 - k = (n + 1 - (k + 1)) + 1 by omega, List.replicate_succ (n := n + 1 - (k + 1)), List.set_cons_zero, List.replicate_succ' (n := k), List.append_assoc]
      rfl]
    exact Fit.refl
  obtain rfl : k = n + 1 := by omega
  rw [Nat.sub_self, List.replicate_zero, List.append_nil]
  (repeat' (first | refine J_seq ?_ | refine J_skip ?_ | refine J_yes rfl ?_ | refine J_no rfl ?_))
  refine J_region ?_
  refine JL_run [] rfl ?_
  refine JL_val [] (v := .int .i64 N.src) (OpV_blk 2 rfl rfl rfl rfl) rfl ?_
  refine JL_set 49 (v' := .int .i64 (s0 : Int)) rfl (congrArg (Value.int .i64) hs0) ?_
  refine JL_val [] (idx1z rfl rfl rfl rfl rfl (show s0 < n + 1 by omega)) rfl ?_
  refine JL_store_own 0 rfl rfl rfl rfl (put_ints rfl (by simp; omega)) [] rfl ?_
  refine JL_nil ?_
  have hRV := RV.init (rm := rm) (least := least) hR
  rw [hn', hs'] at hRV
  (repeat' (first | refine J_seq ?_ | refine J_skip ?_ | refine J_yes rfl ?_ | refine J_no rfl ?_))
  refine J_region ?_
  refine JL_all [] rfl ?_
  (repeat' (first | refine J_seq ?_ | refine J_skip ?_ | refine J_yes rfl ?_ | refine J_no rfl ?_))
  refine J_block ?_
  refine J_loopF (σ := Nat × List Int) (fun s => [(14, .int .i64 (s.1 : Int)), (12, .slice (some ⟨g, 0, none⟩) (n + 1) (n + 1)), (10, .slice A1 (2 * N.arcs.length) c1), (3, .pointer (some ⟨p, 0, none⟩)), (2, .int .i64 least)])
    (fun s => [.own (.slice (some ⟨g, 0, none⟩) (n + 1) (n + 1)) 3 1 (n + 1) (ints s.2), .own (.slice A1 (2 * N.arcs.length) c1) 2 1 (2 * N.arcs.length) (ints rm), blk p 24 (netC N A c), .seg b o (arcs N.arcs), .seg bf of (ints f)])
    (fun s => s.1 ≤ n ∧ RV N rm least s.1 0 s.2) (fun s => n - s.1) (0, _) ⟨rfl, rfl, rfl, rfl, rfl, trivial⟩ Fit.refl ⟨Nat.zero_le _, hRV⟩ ?_
  rintro ⟨k, lv⟩ ⟨hk, hV⟩
  simp only at hk hV ⊢
  (repeat' (first | refine J_seq ?_ | refine J_skip ?_ | refine J_yes rfl ?_ | refine J_no rfl ?_))
  refine J_region ?_
  refine JL_run [] rfl ?_
  refine JL_val [] (v := .int .i64 N.nodes) (OpV_blk 2 rfl rfl rfl rfl) rfl ?_
  refine JL_all [] rfl ?_
  (repeat' (first | refine J_seq ?_ | refine J_skip ?_ | refine J_yes rfl ?_ | refine J_no rfl ?_))
  refine J_dec rfl (fun hlt => J_skip ?_) (fun hge => J_exit ?_)
  case _ =>
    refine J_seq (J_block ?_)
    (repeat' (first | refine J_seq ?_ | refine J_skip ?_ | refine J_yes rfl ?_ | refine J_no rfl ?_))
    refine J_region ?_
    refine JL_all [] rfl ?_
    (repeat' (first | refine J_seq ?_ | refine J_skip ?_ | refine J_yes rfl ?_ | refine J_no rfl ?_))
    refine J_block ?_
    refine J_loopF (σ := Nat × List Int) (fun s => [(15, .int .i64 (s.1 : Int)), (14, .int .i64 (k : Int)), (12, .slice (some ⟨g, 0, none⟩) (n + 1) (n + 1)), (10, .slice A1 (2 * N.arcs.length) c1), (3, .pointer (some ⟨p, 0, none⟩)), (2, .int .i64 least)])
      (fun s => [.own (.slice (some ⟨g, 0, none⟩) (n + 1) (n + 1)) 3 1 (n + 1) (ints s.2), .own (.slice A1 (2 * N.arcs.length) c1) 2 1 (2 * N.arcs.length) (ints rm), blk p 24 (netC N A c), .seg b o (arcs N.arcs), .seg bf of (ints f)])
      (fun s => s.1 ≤ 2 * N.arcs.length ∧ RV N rm least k s.1 s.2) (fun s => 2 * N.arcs.length - s.1) (0, lv) ⟨rfl, rfl, rfl, rfl, rfl, rfl, trivial⟩ Fit.refl ⟨Nat.zero_le _, hV⟩ ?_
    rintro ⟨j, lw⟩ ⟨hj, hU⟩
    simp only at hj hU ⊢
    (repeat' (first | refine J_seq ?_ | refine J_skip ?_ | refine J_yes rfl ?_ | refine J_no rfl ?_))
    refine J_region ?_
    refine JL_all [] rfl ?_
    (repeat' (first | refine J_seq ?_ | refine J_skip ?_ | refine J_yes rfl ?_ | refine J_no rfl ?_))
    refine J_dec rfl (fun hlt2 => J_skip ?_) (fun hge => J_exit ?_)
    · have hjl : j < 2 * N.arcs.length := by omega
      obtain ⟨e1, f1, f2⟩ := frN_eq hR hjl
      obtain ⟨e2, t1, t2⟩ := toN_eq hR hjl
      have hE : endsZ N j = ((frN N j : Int), (toN N j : Int)) := Prod.ext e1 e2
      have T := rends_fn N A c b o hA hl2 j hjl
      rw [hE] at T
      have hlw := hU.len
      obtain ⟨x, hx⟩ : ∃ x, rm[j]? = some x := ⟨rm[j]'(by omega), List.getElem?_eq_getElem (by omega)⟩
      have hxd : rm.getD j 0 = x := by rw [List.getD_eq_getElem?_getD, hx]; rfl
      have hl1 := lvZ_at (lv := lw) (v := frN N j) (by omega)
      have hl3 := lvZ_at (lv := lw) (v := toN N j) (by omega)
      obtain rfl := hA1 (by
        intro h0
        have h5 : (ints rm).length = 0 := by rw [h0]; rfl
        rw [ints_length] at h5
        omega)
      have hq : IntKind.i64.wrap ((j : Int) + 1) = ((j + 1 : Nat) : Int) := w64 (by omega)
      refine J_seq (J_block ?_)
      (repeat' (first | refine J_seq ?_ | refine J_skip ?_ | refine J_yes rfl ?_ | refine J_no rfl ?_))
      refine J_region ?_
      refine JL_val [] (v := netV N A c) (OpV_blk 2 rfl rfl rfl rfl) rfl ?_
      refine JL_run [] rfl ?_
      refine JL_callR [] T rfl rfl rfl rfl (by kernel_rfl) ⟨⟨3, _, by simp, rfl, shows_seg _ _ _, seen_seg⟩, trivial⟩ (fun _ => rfl) ?_
      rintro v H' ⟨rfl, rfl⟩
      refine ⟨rfl, ?_⟩
      refine JL_all [] rfl ?_
      refine J_cut [(89, .bool (cdec (least ≤ x ∧ lvZ lw (frN N j) = k ∧ lvZ lw (toN N j) < 0))), (17, .int .i64 (toN N j : Int)), (15, .int .i64 (j : Int)), (14, .int .i64 (k : Int)), (12, .slice (some ⟨g, 0, none⟩) (n + 1) (n + 1)), (10, .slice (some ⟨gr, 0, none⟩) (2 * N.arcs.length) c1), (3, .pointer (some ⟨p, 0, none⟩)), (2, .int .i64 least)]
        [.own (.slice (some ⟨g, 0, none⟩) (n + 1) (n + 1)) 3 1 (n + 1) (ints lw), .own (.slice (some ⟨gr, 0, none⟩) (2 * N.arcs.length) c1) 2 1 (2 * N.arcs.length) (ints rm), blk p 24 (netC N A c), .seg b o (arcs N.arcs), .seg bf of (ints f)] ?_ ?_
      · (repeat' (first | refine J_seq ?_ | refine J_skip ?_ | refine J_yes rfl ?_ | refine J_no rfl ?_))
        refine J_region ?_
        refine JL_run [] rfl ?_
        refine JL_val [] (idx1z rfl rfl rfl rfl rfl hjl) rfl ?_
        refine JL_val [] (OpV_own 1 rfl rfl rfl (readT_int hx)) rfl ?_
        refine JL_evO (gs := [999]) rfl ?_
        refine JL_evO (gs := [999]) rfl ?_
        refine JL_evO (gs := [999]) rfl ?_
        by_cases h1 : least ≤ x
        case neg =>
          refine JL_set 75 (v' := .bool false) rfl (congrArg Value.bool (cdec_no h1)) ?_
          refine JL_all [6, 14] rfl ?_
          exact ⟨[0, 1, 2, 3, 4], ⟨congrArg some (congrArg Value.bool (cdec_no (fun h => h1 h.1)).symm), rfl, rfl, rfl, rfl, rfl, rfl, rfl, trivial⟩, by decide, rfl⟩
        refine JL_set 75 (v' := .bool true) rfl (congrArg Value.bool (cdec_yes h1)) ?_
        refine JL_run [6] rfl ?_
        refine JL_val [6] (idx1z rfl rfl rfl rfl rfl (show frN N j < n + 1 by omega)) rfl ?_
        refine JL_val [6] (OpV_own 0 rfl rfl rfl (readT_int' hl1)) rfl ?_
        refine JL_run [6] rfl ?_
        by_cases h2 : lvZ lw (frN N j) = k
        case neg =>
          refine JL_set 83 (v' := .bool false) rfl (congrArg Value.bool (cdec_no h2)) ?_
          refine JL_all [6, 14] rfl ?_
          exact ⟨[0, 1, 2, 3, 4], ⟨congrArg some (congrArg Value.bool (cdec_no (fun h => h2 h.2.1)).symm), rfl, rfl, rfl, rfl, rfl, rfl, rfl, trivial⟩, by decide, rfl⟩
        refine JL_set 83 (v' := .bool true) rfl (congrArg Value.bool (cdec_yes h2)) ?_
        refine JL_run [6, 14] rfl ?_
        refine JL_val [6, 14] (idx1z rfl rfl rfl rfl rfl (show toN N j < n + 1 by omega)) rfl ?_
        refine JL_val [6, 14] (OpV_own 0 rfl rfl rfl (readT_int' hl3)) rfl ?_
        refine JL_all [6, 14] rfl ?_
        exact ⟨[0, 1, 2, 3, 4], ⟨congrArg some (congrArg Value.bool (cdec_iff ⟨fun h => ⟨h1, h2, h⟩, fun h => h.2.2⟩)), rfl, rfl, rfl, rfl, rfl, rfl, rfl, trivial⟩, by decide, rfl⟩
      · refine J_dec rfl (fun h1 => ?_) (fun h1 => J_skip ?_)
        · (repeat' (first | refine J_seq ?_ | refine J_skip ?_ | refine J_yes rfl ?_ | refine J_no rfl ?_))
          refine J_region ?_
          refine JL_run [] rfl ?_
          refine JL_set 93 (v' := .int .i64 ((k : Int) + 1)) rfl (congrArg (Value.int .i64) (w64 (by omega))) ?_
          refine JL_val [] (idx1z rfl rfl rfl rfl rfl (show toN N j < n + 1 by omega)) rfl ?_
          refine JL_store_own 0 rfl rfl rfl rfl (put_ints rfl (by omega)) [] rfl ?_
          refine JL_nil ?_
          (repeat' (first | refine J_seq ?_ | refine J_skip ?_ | refine J_yes rfl ?_ | refine J_no rfl ?_))
          refine J_region ?_
          refine JL_all [] rfl ?_
          exact ⟨(j + 1, lw.set (toN N j) ((k : Int) + 1)), ⟨congrArg some (congrArg (Value.int .i64) hq), rfl, rfl, rfl, rfl, rfl, trivial⟩, Fit.refl, ⟨hjl, hU.put hR hjl (by omega) h1.2.1 h1.2.2⟩, by simp only; omega⟩
        · (repeat' (first | refine J_seq ?_ | refine J_skip ?_ | refine J_yes rfl ?_ | refine J_no rfl ?_))
          refine J_region ?_
          refine JL_all [] rfl ?_
          exact ⟨(j + 1, lw), ⟨congrArg some (congrArg (Value.int .i64) hq), rfl, rfl, rfl, rfl, rfl, trivial⟩, Fit.refl, ⟨hjl, hU.keep (by rw [hxd]; exact h1)⟩, by simp only; omega⟩
    · obtain rfl : j = 2 * N.arcs.length := by omega
      (repeat' (first | refine J_seq ?_ | refine J_skip ?_ | refine J_yes rfl ?_ | refine J_no rfl ?_))
      refine J_region ?_
      refine JL_all [] rfl ?_
      exact ⟨(k + 1, lw), ⟨congrArg some (congrArg (Value.int .i64) (w64 (n := (k : Int) + 1) (by omega))), rfl, rfl, rfl, rfl, trivial⟩, Fit.refl, ⟨by omega, hU.round⟩, by simp only; omega⟩
  obtain rfl : k = n := by omega
  (repeat' (first | refine J_seq ?_ | refine J_skip ?_ | refine J_yes rfl ?_ | refine J_no rfl ?_))
  refine J_region ?_
  refine JL_all [] rfl ?_
  refine J_fit (K := [.own (.slice (some ⟨g, 0, none⟩) (k + 1) (k + 1)) 3 1 (k + 1) (ints lv)]) (Fit.picks [0] (by decide) rfl) ?_
  refine J_drop [0] (by decide) rfl (J_ret ⟨_, rfl, .inl ⟨he0, k, g, lv, hn, ?_, rfl, rfl⟩⟩)
  rw [← hrm]
  rw [← hn'] at hV
  exact hV.lev hR
end Go.Proofs.YtfogkbmbmaganaaGreat
