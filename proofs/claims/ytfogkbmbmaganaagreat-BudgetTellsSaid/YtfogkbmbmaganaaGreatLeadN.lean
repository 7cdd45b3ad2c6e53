
/- The tracks that lead one level on, and how deep the sink is. -/
import Derived.Test.YtfogkbmbmaganaaGreatLevelN
set_option linter.unusedVariables false
set_option linter.unusedSimpArgs false
namespace Go.Proofs.YtfogkbmbmaganaaGreat
open Go.RowKit
def leadR (N : Net) (f : List Int) (least : Int) (v : Value) (H' : Heap) : Prop :=
  (IsFlow N f ∧ 1 ≤ least ∧ ∃ (lv : List Int) (A' : Option Addr) (c' : Nat), IsLev N (roomL (N.arcs.zip f)) least lv ∧ v = .tuple #[.slice A' (leadsL N (roomL (N.arcs.zip f)) least lv (2 * N.arcs.length)).length c', .int .i64 0] ∧
    H' = [.own (.slice A' (leadsL N (roomL (N.arcs.zip f)) least lv (2 * N.arcs.length)).length c') 3 1 (leadsL N (roomL (N.arcs.zip f)) least lv (2 * N.arcs.length)).length (ints ((leadsL N (roomL (N.arcs.zip f)) least lv (2 * N.arcs.length)).map fun (i : Nat) => (i : Int)))]) ∨
  (¬ IsFlow N f ∧ v = .tuple #[.slice none 0 0, .int .i64 (flowZ N f)] ∧ H' = []) ∨ (IsFlow N f ∧ least < 1 ∧ v = .tuple #[.slice none 0 0, .int .i64 3] ∧ H' = [])
def deepR (N : Net) (f : List Int) (least : Int) (v : Value) (H' : Heap) : Prop :=
  (IsFlow N f ∧ 1 ≤ least ∧ ∃ (lv : List Int), IsLev N (roomL (N.arcs.zip f)) least lv ∧ v = two (lvZ lv N.snk.toNat, 0) ∧ H' = []) ∨
  (¬ IsFlow N f ∧ v = two (0, flowZ N f) ∧ H' = []) ∨ (IsFlow N f ∧ least < 1 ∧ v = two (0, 3) ∧ H' = [])
theorem leadsL_succ {N : Net} {rm : List Int} {least : Int} {lv : List Int} (k : Nat) : leadsL N rm least lv (k + 1) = leadsL N rm least lv k ++ (if least ≤ rm.getD k 0 ∧ lvZ lv (frN N k) ≠ -1 ∧ lvZ lv (toN N k) = lvZ lv (frN N k) + 1 then [k] else []) := by
  unfold leadsL
  rw [List.range_succ, List.filter_append]
  congr 1
  by_cases h : least ≤ rm.getD k 0 ∧ lvZ lv (frN N k) ≠ -1 ∧ lvZ lv (toN N k) = lvZ lv (frN N k) + 1
  · rw [if_pos h, List.filter_cons, if_pos (decide_eq_true h)]; rfl
  · rw [if_neg h, List.filter_cons, if_neg (by simpa using h)]; rfl
theorem leadsL_length (N : Net) (rm : List Int) (least : Int) (lv : List Int) (k : Nat) : (leadsL N rm least lv k).length ≤ k := by
  unfold leadsL
  exact Nat.le_trans (List.length_filter_le _ _) (by simp)
theorem deep_fn (N : Net) (hN : N.Fits) (hR : N.Right) (A : Option Addr) (c b o : Nat) (hA : N.arcs ≠ [] → A = some ⟨b, o, none⟩) (f : List Int) (F : Option Addr) (cf bf of : Nat) (hF : f ≠ [] → F = some ⟨bf, of, none⟩) (hf : ∀ x ∈ f, inB x) (hfl : f.length * 8 ≤ 140737488351232) (least : Int) :
    Fn 65 [netV N A c, .slice F f.length cf, .int .i64 least] [] [.seg b o (arcs N.arcs), .seg bf of (ints f)] (deepR N f least) := by
  have hnn := hR.nodes
  have hsk := hR.snk
  obtain ⟨n, hn⟩ : ∃ n : Nat, N.nodes = n := ⟨N.nodes.toNat, by omega⟩
  refine Fn_of Tryz.func65 rfl rfl fun w0 => ?_
  (repeat' (first | refine J_seq ?_ | refine J_skip ?_ | refine J_yes rfl ?_ | refine J_no rfl ?_))
  refine J_region ?_
  refine JL_box (cs := netC N A c) rfl rfl rfl (fun _ => rfl) fun p => ?_
  refine JL_all [] rfl ?_
  (repeat' (first | refine J_seq ?_ | refine J_skip ?_ | refine J_yes rfl ?_ | refine J_no rfl ?_))
  refine J_region ?_
  refine JL_val [] (v := netV N A c) (OpV_blk 0 rfl rfl rfl rfl) rfl ?_
  refine JL_run [] rfl ?_
  refine JL_callR [] (levels_fn N hN hR A c b o hA f F cf bf of hF hf hfl least n hn) rfl rfl rfl rfl (by kernel_rfl) ⟨⟨1, _, by simp, rfl, shows_seg _ _ _, seen_seg⟩, ⟨2, _, by simp, rfl, shows_seg _ _ _, seen_seg⟩, trivial⟩ (fun _ => rfl) ?_
  rintro v H' (⟨hW, hle, lv, g, hlv, rfl, rfl⟩ | ⟨hW, rfl, rfl⟩ | ⟨hW, hle, rfl, rfl⟩)
  case inr.inl =>
    refine ⟨rfl, ?_⟩
    refine JL_all [] rfl ?_
    (repeat' (first | refine J_seq ?_ | refine J_skip ?_ | refine J_yes rfl ?_ | refine J_no rfl ?_))
    refine J_region ?_
    refine JL_all [] rfl ?_
    refine J_dec rfl (fun h => ?_) (fun h => absurd (flowZ_zero.1 (Classical.not_not.1 h)) hW)
    (repeat' (first | refine J_seq ?_ | refine J_skip ?_ | refine J_yes rfl ?_ | refine J_no rfl ?_))
    refine J_region ?_
    refine JL_all [] rfl ?_
    refine J_drop [] (by decide) rfl (J_ret ⟨_, rfl, .inr (.inl ⟨hW, rfl, rfl⟩)⟩)
  case inr.inr =>
    refine ⟨rfl, ?_⟩
    refine JL_all [] rfl ?_
    (repeat' (first | refine J_seq ?_ | refine J_skip ?_ | refine J_yes rfl ?_ | refine J_no rfl ?_))
    refine J_region ?_
    refine JL_all [] rfl ?_
    refine J_dec rfl (fun h => ?_) (fun h => absurd h (by decide))
    (repeat' (first | refine J_seq ?_ | refine J_skip ?_ | refine J_yes rfl ?_ | refine J_no rfl ?_))
    refine J_region ?_
    refine JL_all [] rfl ?_
    refine J_drop [] (by decide) rfl (J_ret ⟨_, rfl, .inr (.inr ⟨hW, hle, rfl, rfl⟩)⟩)
  refine ⟨rfl, ?_⟩
  refine JL_all [] rfl ?_
  (repeat' (first | refine J_seq ?_ | refine J_skip ?_ | refine J_yes rfl ?_ | refine J_no rfl ?_))
  refine J_region ?_
  refine JL_all [] rfl ?_
  refine J_dec rfl (fun h => absurd rfl h) (fun _ => J_skip ?_)
  have hll := hlv.len
  (repeat' (first | refine J_seq ?_ | refine J_skip ?_ | refine J_yes rfl ?_ | refine J_no rfl ?_))
  refine J_region ?_
  refine JL_run [] rfl ?_
  (first | refine JL_val [] (OpV_blk 0 rfl rfl rfl rfl) rfl ?_ | refine JL_val [] (OpV_blk 1 rfl rfl rfl rfl) rfl ?_ | refine JL_val [] (OpV_blk 2 rfl rfl rfl rfl) rfl ?_ | refine JL_val [] (OpV_blk 3 rfl rfl rfl rfl) rfl ?_ | refine JL_val [] (OpV_blk 4 rfl rfl rfl rfl) rfl ?_ | refine JL_val [] (OpV_blk 5 rfl rfl rfl rfl) rfl ?_ | refine JL_val [] (OpV_blk 6 rfl rfl rfl rfl) rfl ?_ | refine JL_val [] (OpV_blk 7 rfl rfl rfl rfl) rfl ?_)
  refine JL_set 22 (v' := .int .i64 ((N.snk.toNat : Nat) : Int)) rfl (congrArg (Value.int .i64) (by omega)) ?_
  refine JL_val [] (idx1z rfl rfl rfl rfl rfl (by omega)) rfl ?_
  refine JL_val [] (OpV_own 0 rfl rfl rfl (readT_int' (lvZ_at (by omega)))) rfl ?_
  refine JL_all [] rfl ?_
  refine J_drop [] (by decide) rfl (J_ret ⟨_, rfl, .inl ⟨hW, hle, lv, hlv, rfl, rfl⟩⟩)
set_option maxHeartbeats 1000000 in
theorem leads_fn (N : Net) (hN : N.Fits) (hR : N.Right) (A : Option Addr) (c b o : Nat) (hA : N.arcs ≠ [] → A = some ⟨b, o, none⟩) (f : List Int) (F : Option Addr) (cf bf of : Nat) (hF : f ≠ [] → F = some ⟨bf, of, none⟩) (hf : ∀ x ∈ f, inB x) (hfl : f.length * 8 ≤ 140737488351232) (least : Int) :
    Fn 115 [netV N A c, .slice F f.length cf, .int .i64 least] [] [.seg b o (arcs N.arcs), .seg bf of (ints f)] (leadR N f least) := by
  have hnn := hR.nodes
  have hsk := hR.snk
  have hl2 := hR.len
  obtain ⟨n, hn⟩ : ∃ n : Nat, N.nodes = n := ⟨N.nodes.toNat, by omega⟩
  refine Fn_of Tryz.func115 rfl rfl fun w0 => ?_
  (repeat' (first | refine J_seq ?_ | refine J_skip ?_ | refine J_yes rfl ?_ | refine J_no rfl ?_))
  refine J_region ?_
  refine JL_box (cs := netC N A c) rfl rfl rfl (fun _ => rfl) fun p => ?_
  refine JL_all [] rfl ?_
  (repeat' (first | refine J_seq ?_ | refine J_skip ?_ | refine J_yes rfl ?_ | refine J_no rfl ?_))
  refine J_region ?_
  refine JL_val [] (v := netV N A c) (OpV_blk 0 rfl rfl rfl rfl) rfl ?_
  refine JL_run [] rfl ?_
  refine JL_callR [] (levels_fn N hN hR A c b o hA f F cf bf of hF hf hfl least n hn) rfl rfl rfl rfl (by kernel_rfl) ⟨⟨1, _, by simp, rfl, shows_seg _ _ _, seen_seg⟩, ⟨2, _, by simp, rfl, shows_seg _ _ _, seen_seg⟩, trivial⟩ (fun _ => rfl) ?_
  rintro v H' (⟨hW, hle, lv, g, hlv, rfl, rfl⟩ | ⟨hW, rfl, rfl⟩ | ⟨hW, hle, rfl, rfl⟩)
  case inr.inl =>
    refine ⟨rfl, ?_⟩
    refine JL_all [] rfl ?_
    (repeat' (first | refine J_seq ?_ | refine J_skip ?_ | refine J_yes rfl ?_ | refine J_no rfl ?_))
    refine J_region ?_
    refine JL_all [] rfl ?_
    refine J_dec rfl (fun h => ?_) (fun h => absurd (flowZ_zero.1 (Classical.not_not.1 h)) hW)
    (repeat' (first | refine J_seq ?_ | refine J_skip ?_ | refine J_yes rfl ?_ | refine J_no rfl ?_))
    refine J_region ?_
    refine JL_all [] rfl ?_
    refine J_drop [] (by decide) rfl (J_ret ⟨_, rfl, .inr (.inl ⟨hW, rfl, rfl⟩)⟩)
  case inr.inr =>
    refine ⟨rfl, ?_⟩
    refine JL_all [] rfl ?_
    (repeat' (first | refine J_seq ?_ | refine J_skip ?_ | refine J_yes rfl ?_ | refine J_no rfl ?_))
    refine J_region ?_
    refine JL_all [] rfl ?_
    refine J_dec rfl (fun h => ?_) (fun h => absurd h (by decide))
    (repeat' (first | refine J_seq ?_ | refine J_skip ?_ | refine J_yes rfl ?_ | refine J_no rfl ?_))
    refine J_region ?_
    refine JL_all [] rfl ?_
    refine J_drop [] (by decide) rfl (J_ret ⟨_, rfl, .inr (.inr ⟨hW, hle, rfl, rfl⟩)⟩)
  refine ⟨rfl, ?_⟩
  refine JL_all [] rfl ?_
  (repeat' (first | refine J_seq ?_ | refine J_skip ?_ | refine J_yes rfl ?_ | refine J_no rfl ?_))
  refine J_region ?_
  refine JL_all [] rfl ?_
  refine J_dec rfl (fun h => absurd rfl h) (fun _ => J_skip ?_)
  have hll := hlv.len
  (repeat' (first | refine J_seq ?_ | refine J_skip ?_ | refine J_yes rfl ?_ | refine J_no rfl ?_))
  refine J_region ?_
  refine JL_val [] (v := netV N A c) (OpV_blk 1 rfl rfl rfl rfl) rfl ?_
  refine JL_run [] rfl ?_
  refine JL_callR [] (room_fn N hN hR A c b o hA f F cf bf of hF hf hfl) rfl rfl rfl rfl (by kernel_rfl) ⟨⟨2, _, by simp, rfl, shows_seg _ _ _, seen_seg⟩, ⟨3, _, by simp, rfl, shows_seg _ _ _, seen_seg⟩, trivial⟩ (fun _ => rfl) ?_
  rintro v H' (⟨_, A1, c1, rfl, rfl⟩ | ⟨h, _, _⟩)
  case inr => exact absurd hW h
  refine ⟨rfl, ?_⟩
  refine JL_all [] rfl ?_
  unfold leadR
  obtain ⟨rm, hrm⟩ : ∃ rm, rm = roomL (N.arcs.zip f) := ⟨_, rfl⟩
  have hrl : rm.length = 2 * N.arcs.length := by rw [hrm, roomL_length, List.length_zip, hW.len, Nat.min_self]
  rw [← hrm] at hlv ⊢
  (repeat' (first | refine J_seq ?_ | refine J_skip ?_ | refine J_yes rfl ?_ | refine J_no rfl ?_))
  refine J_region ?_
  refine JL_all [] rfl ?_
  (repeat' (first | refine J_seq ?_ | refine J_skip ?_ | refine J_yes rfl ?_ | refine J_no rfl ?_))
  refine J_region ?_
  refine JL_all [] rfl ?_
  refine J_addnil 3 1 ?_
  refine J_block ?_
  refine J_loop (σ := Nat × Option Addr × Nat) (fun s => [(35, .int .i64 s.1), (34, .int .i64 ((2 * N.arcs.length : Nat) : Int)), (33, .slice A1 (2 * N.arcs.length) c1), (12, .slice s.2.1 (leadsL N rm least lv s.1).length s.2.2), (8, .slice (some ⟨g, 0, none⟩) (n + 1) (n + 1)), (3, .pointer (some ⟨p, 0, none⟩)), (2, .int .i64 least)])
    (fun s => [.own (.slice s.2.1 (leadsL N rm least lv s.1).length s.2.2) 3 1 (leadsL N rm least lv s.1).length (ints ((leadsL N rm least lv s.1).map fun (i : Nat) => (i : Int))), .own (.slice A1 (2 * N.arcs.length) c1) 2 1 (2 * N.arcs.length) (ints rm), .own (.slice (some ⟨g, 0, none⟩) (n + 1) (n + 1)) 3 1 (n + 1) (ints lv), blk p 24 (netC N A c), .seg b o (arcs N.arcs)])
    (fun s => s.1 ≤ 2 * N.arcs.length) (fun s => 2 * N.arcs.length - s.1) (0, none, 0) [0, 1, 2, 3, 4] ⟨rfl, rfl, rfl, rfl, rfl, rfl, rfl, trivial⟩ (by decide) rfl (Nat.zero_le _) ?_
  rintro ⟨k, A2, c2⟩ hk
  simp only at hk ⊢
  have hkl := leadsL_length N rm least lv k
  refine J_know (own_is 1 rfl) fun ⟨_, _, hA1, _⟩ => ?_
  (repeat' (first | refine J_seq ?_ | refine J_skip ?_ | refine J_yes rfl ?_ | refine J_no rfl ?_))
  refine J_region ?_
  refine JL_all [] rfl ?_
  refine J_seq (J_dec rfl (fun hlt => J_skip ?_) (fun hge => J_exit ?_))
  · have hlt : k < 2 * N.arcs.length := by omega
    obtain ⟨g1, rfl⟩ := hA1 (by omega)
    obtain ⟨te, htn1, htn2⟩ := toN_eq hR hlt
    obtain ⟨fe, hfn1, hfn2⟩ := frN_eq hR hlt
    obtain ⟨x, hxr⟩ : ∃ x, rm[k]? = some x := ⟨rm[k]'(by omega), List.getElem?_eq_getElem (by omega)⟩
    have hxd : rm.getD k 0 = x := by rw [List.getD_eq_getElem?_getD, hxr]; rfl
    have hws := leadsL_succ (N := N) (rm := rm) (least := least) (lv := lv) k
    obtain ⟨t, ht⟩ : ∃ t, toN N k = t := ⟨_, rfl⟩
    obtain ⟨u, hu⟩ : ∃ u, frN N k = u := ⟨_, rfl⟩
    rw [ht] at te htn1 htn2 hws
    rw [hu] at fe hfn1 hfn2 hws
    have hru := hlv.rng u
    have hnext : IntKind.i64.wrap ((k : Int) + 1) = ((k + 1 : Nat) : Int) := w64 (by omega)
    refine J_seq (J_block ?_)
    (repeat' (first | refine J_seq ?_ | refine J_skip ?_ | refine J_yes rfl ?_ | refine J_no rfl ?_))
    refine J_region ?_
    refine JL_run [] rfl ?_
    refine JL_val [] (idx1z rfl rfl rfl rfl rfl hlt) rfl ?_
    refine JL_val [] (OpV_own 1 rfl rfl rfl (readT_int hxr)) rfl ?_
    refine JL_all [] rfl ?_
    (repeat' (first | refine J_seq ?_ | refine J_skip ?_ | refine J_yes rfl ?_ | refine J_no rfl ?_))
    refine J_region ?_
    refine JL_val [] (v := netV N A c) (OpV_blk 3 rfl rfl rfl rfl) rfl ?_
    refine JL_run [] rfl ?_
    refine JL_callR [] (ends_fn N A c b o hA hl2 k hlt) rfl rfl rfl rfl (by kernel_rfl) ⟨⟨4, _, by simp, rfl, shows_seg _ _ _, seen_seg⟩, trivial⟩ (fun _ => rfl) ?_
    rintro v' H' ⟨rfl, rfl⟩
    refine ⟨rfl, ?_⟩
    refine JL_all [] rfl ?_
    refine J_set 15 (v' := .int .i64 (u : Int)) rfl (congrArg (Value.int .i64) fe) ?_
    refine J_set 16 (v' := .int .i64 (t : Int)) rfl (congrArg (Value.int .i64) te) ?_
    refine J_cut [(67, .bool (cdec (least ≤ rm.getD k 0 ∧ lvZ lv u ≠ -1 ∧ lvZ lv t = lvZ lv u + 1))), (35, .int .i64 k), (34, .int .i64 ((2 * N.arcs.length : Nat) : Int)), (33, .slice (some ⟨g1, 0, none⟩) (2 * N.arcs.length) c1), (13, .int .i64 k), (12, .slice A2 (leadsL N rm least lv k).length c2), (8, .slice (some ⟨g, 0, none⟩) (n + 1) (n + 1)), (3, .pointer (some ⟨p, 0, none⟩)), (2, .int .i64 least)]
      [.own (.slice A2 (leadsL N rm least lv k).length c2) 3 1 (leadsL N rm least lv k).length (ints ((leadsL N rm least lv k).map fun (i : Nat) => (i : Int))), .own (.slice (some ⟨g1, 0, none⟩) (2 * N.arcs.length) c1) 2 1 (2 * N.arcs.length) (ints rm), .own (.slice (some ⟨g, 0, none⟩) (n + 1) (n + 1)) 3 1 (n + 1) (ints lv), blk p 24 (netC N A c), .seg b o (arcs N.arcs)] ?_ ?_
    · (repeat' (first | refine J_seq ?_ | refine J_skip ?_ | refine J_yes rfl ?_ | refine J_no rfl ?_))
      refine J_walk 22 [(0, true), (1, true), (2, true), (3, true), (4, true), (5, true), (6, true), (7, true), (8, true), (9, true), (10, true), (11, true), (12, true), (13, true), (14, true), (15, true), (16, true), (17, true), (18, true), (19, true), (20, true), (21, true)] [2] (by kernel_rfl) (by decide) rfl ?_
      refine JW_run [] rfl ?_
      by_cases h1 : least ≤ x
      · refine JW_set 49 (v' := .bool true) rfl (congrArg Value.bool (cdec_yes h1)) ?_
        refine JW_run [3] rfl ?_
        refine JW_still [3] rfl (idx1z rfl rfl rfl rfl rfl (by omega)) rfl ?_
        refine JW_still [3] rfl (OpV_own 0 rfl rfl rfl (readT_int' (lvZ_at (by omega)))) rfl ?_
        refine JW_run [3] rfl ?_
        by_cases h2 : lvZ lv u = -1
        · refine JW_set 56 (v' := .bool false) rfl (congrArg Value.bool (cdec_no (fun h => h h2))) ?_
          refine JW_all [10] rfl ?_
          refine JL_nil ⟨[0, 1, 2, 3, 4], ⟨congrArg some (congrArg Value.bool (cdec_no (fun h => h.2.1 h2)).symm), rfl, rfl, rfl, rfl, rfl, rfl, rfl, rfl, trivial⟩, by decide, rfl⟩
        · refine JW_set 56 (v' := .bool true) rfl (congrArg Value.bool (cdec_yes h2)) ?_
          refine JW_run [10] rfl ?_
          refine JW_still [10] rfl (idx1z rfl rfl rfl rfl rfl (by omega)) rfl ?_
          refine JW_still [10] rfl (OpV_own 0 rfl rfl rfl (readT_int' (lvZ_at (by omega)))) rfl ?_
          refine JW_run [10] rfl ?_
          refine JW_still [10] rfl (idx1z rfl rfl rfl rfl rfl (by omega)) rfl ?_
          refine JW_still [10] rfl (OpV_own 0 rfl rfl rfl (readT_int' (lvZ_at (by omega)))) rfl ?_
          refine JW_run [10] rfl ?_
          refine JW_all [10] rfl ?_
          have hw : IntKind.i64.wrap (lvZ lv u + 1) = lvZ lv u + 1 := w64 (by omega)
          refine JL_nil ⟨[0, 1, 2, 3, 4], ⟨congrArg some (congrArg Value.bool (cdec_iff ⟨fun h => ⟨by omega, h2, by rw [hw] at h; exact h⟩, fun h => by rw [hw]; exact h.2.2⟩)), rfl, rfl, rfl, rfl, rfl, rfl, rfl, rfl, trivial⟩, by decide, rfl⟩
      · refine JW_set 49 (v' := .bool false) rfl (congrArg Value.bool (cdec_no h1)) ?_
        refine JW_all [3, 10] rfl ?_
        refine JL_nil ⟨[0, 1, 2, 3, 4], ⟨congrArg some (congrArg Value.bool (cdec_no (fun h => h1 (by omega))).symm), rfl, rfl, rfl, rfl, rfl, rfl, rfl, rfl, trivial⟩, by decide, rfl⟩
    · refine J_dec rfl (fun hgo => ?_) (fun hno => J_skip ?_)
      · rw [if_pos hgo] at hws
        refine J_region (JL_run [] rfl ?_)
        refine JL_lit rfl rfl rfl rfl rfl rfl rfl (fun _ => rfl) fun g4 => ?_
        refine JL_appendS (n := (leadsL N rm least lv k).length) (m := 1) (off := 0) (news := ints [(k : Int)]) 1 0 rfl rfl rfl rfl rfl rfl (by decide) rfl rfl (shows_blk g4 _ _ (0, 0)) (fun _ => rfl) rfl rfl (by omega) (by omega) (fun _ _ => rfl) fun A4 c4 => ?_
        rw [show (leadsL N rm least lv k).length + 1 = (leadsL N rm least lv (k + 1)).length by rw [hws]; simp, show ints ((leadsL N rm least lv k).map fun (i : Nat) => (i : Int)) ++ ints [(k : Int)] = ints ((leadsL N rm least lv (k + 1)).map fun (i : Nat) => (i : Int)) by rw [hws]; simp [ints]]
        refine JL_all [] rfl ?_
        (repeat' (first | refine J_seq ?_ | refine J_skip ?_ | refine J_yes rfl ?_ | refine J_no rfl ?_))
        refine J_region ?_
        refine JL_all [] rfl ?_
        exact ⟨(k + 1, A4, c4), [1, 2, 3, 4, 5], ⟨congrArg some (congrArg (Value.int .i64) hnext), rfl, rfl, rfl, rfl, rfl, rfl, trivial⟩, by decide, rfl, by simp only; omega, by simp only; omega⟩
      · rw [if_neg hno, List.append_nil] at hws
        (repeat' (first | refine J_seq ?_ | refine J_skip ?_ | refine J_yes rfl ?_ | refine J_no rfl ?_))
        refine J_region ?_
        refine JL_all [] rfl ?_
        refine ⟨(k + 1, A2, c2), [0, 1, 2, 3, 4], ⟨congrArg some (congrArg (Value.int .i64) hnext), rfl, rfl, by simp only [hws]; rfl, rfl, rfl, rfl, trivial⟩, by decide, by simp only [hws]; rfl, by simp only; omega, by simp only; omega⟩
  · obtain rfl : k = 2 * N.arcs.length := by omega
    (repeat' (first | refine J_seq ?_ | refine J_skip ?_ | refine J_yes rfl ?_ | refine J_no rfl ?_))
    refine J_region ?_
    refine JL_all [] rfl ?_
    exact J_drop [0] (by decide) rfl (J_ret ⟨_, rfl, .inl ⟨hW, hle, lv, A2, c2, hlv, rfl, rfl⟩⟩)
end Go.Proofs.YtfogkbmbmaganaaGreat
