/- The engine and the words that all chapters share: several texts in one. -/
import Derived.Test.YtfogkbmbmaganaaGreatRefS
import Derived.Test.YtfogkbmbmaganaaGreatLeadN
import Derived.Test.YtfogkbmbmaganaaGreatQX11

/- The references' words: tracks that lead on, and how deep the sink lies. -/
set_option linter.unusedVariables false
set_option linter.unusedSimpArgs false
namespace Go.Proofs.YtfogkbmbmaganaaGreat
open Go.RowKit
def rdeepR (N : Net) (f : List Int) (least : Int) (v : Value) (H' : Heap) : Prop :=
  (errZ N f least = 0 ∧ ∃ (lv : List Int), IsLev N (roomL (N.arcs.zip f)) least lv ∧ v = two (lvZ lv N.snk.toNat, 0) ∧ H' = []) ∨ (errZ N f least ≠ 0 ∧ v = two (0, errZ N f least) ∧ H' = [])
theorem rdeep_fn (N : Net) (hN : N.Fits) (A : Option Addr) (c b o : Nat) (hA : N.arcs ≠ [] → A = some ⟨b, o, none⟩) (f : List Int) (F : Option Addr) (cf bf of : Nat) (hF : f ≠ [] → F = some ⟨bf, of, none⟩) (hf : ∀ x ∈ f, inB x) (hfl : f.length * 8 ≤ 140737488351232) (least : Int) :
    Fn 69 [netV N A c, .slice F f.length cf, .int .i64 least] [] [.seg b o (arcs N.arcs), .seg bf of (ints f)] (rdeepR N f least) := by
  refine Fn_of Tryz.func69 rfl rfl fun w0 => ?_
  (repeat' (first | refine J_seq ?_ | refine J_skip ?_ | refine J_yes rfl ?_ | refine J_no rfl ?_))
  refine J_region ?_
  refine JL_box (cs := netC N A c) rfl rfl rfl (fun _ => rfl) fun p => ?_
  refine JL_all [] rfl ?_
  (repeat' (first | refine J_seq ?_ | refine J_skip ?_ | refine J_yes rfl ?_ | refine J_no rfl ?_))
  refine J_region ?_
  refine JL_val [] (v := netV N A c) (OpV_blk 0 rfl rfl rfl rfl) rfl ?_
  refine JL_run [] rfl ?_
  refine JL_callR [] (rlevels_fn N hN A c b o hA f F cf bf of hF hf hfl least) rfl rfl rfl rfl (by kernel_rfl) ⟨⟨1, _, by simp, rfl, shows_seg _ _ _, seen_seg⟩, ⟨2, _, by simp, rfl, shows_seg _ _ _, seen_seg⟩, trivial⟩ (fun _ => rfl) ?_
  rintro v H' (⟨he0, n, g, lv, hn, hlv, rfl, rfl⟩ | ⟨he, rfl, rfl⟩)
  case inr =>
    refine ⟨rfl, ?_⟩
    refine JL_all [] rfl ?_
    (repeat' (first | refine J_seq ?_ | refine J_skip ?_ | refine J_yes rfl ?_ | refine J_no rfl ?_))
    refine J_region ?_
    refine JL_all [] rfl ?_
    refine J_dec rfl (fun h => ?_) (fun h => absurd he h)
    (repeat' (first | refine J_seq ?_ | refine J_skip ?_ | refine J_yes rfl ?_ | refine J_no rfl ?_))
    refine J_region ?_
    refine JL_all [] rfl ?_
    exact J_drop [] (by decide) rfl (J_ret ⟨_, rfl, .inr ⟨he, rfl, rfl⟩⟩)
  obtain ⟨hR, hW, hle⟩ := errZ_zero.1 he0
  have hsk := hR.snk
  have hll := hlv.len
  refine ⟨rfl, ?_⟩
  refine JL_all [] rfl ?_
  (repeat' (first | refine J_seq ?_ | refine J_skip ?_ | refine J_yes rfl ?_ | refine J_no rfl ?_))
  refine J_region ?_
  refine JL_all [] rfl ?_
  refine J_dec rfl (fun h => absurd rfl h) (fun _ => J_skip ?_)
  obtain ⟨t, ht⟩ : ∃ t : Nat, N.snk = t := ⟨N.snk.toNat, by omega⟩
  have ht' : N.snk.toNat = t := by omega
  have hx := lvZ_at (lv := lv) (v := t) (by omega)
  (repeat' (first | refine J_seq ?_ | refine J_skip ?_ | refine J_yes rfl ?_ | refine J_no rfl ?_))
  refine J_region ?_
  refine JL_run [] rfl ?_
  refine JL_val [] (v := .int .i64 N.snk) (OpV_blk 1 rfl rfl rfl rfl) rfl ?_
  refine JL_set 22 (v' := .int .i64 (t : Int)) rfl (congrArg (Value.int .i64) ht) ?_
  refine JL_val [] (idx1z rfl rfl rfl rfl rfl (show t < n + 1 by omega)) rfl ?_
  refine JL_val [] (OpV_own 0 rfl rfl rfl (readT_int' hx)) rfl ?_
  refine JL_all [] rfl ?_
  exact J_drop [] (by decide) rfl (J_ret ⟨_, rfl, .inl ⟨he0, lv, hlv, by rw [ht']; rfl, rfl⟩⟩)
def rleadR (N : Net) (f : List Int) (least : Int) (v : Value) (H' : Heap) : Prop :=
  (errZ N f least = 0 ∧ ∃ (lv : List Int) (A' : Option Addr) (c' : Nat), IsLev N (roomL (N.arcs.zip f)) least lv ∧ v = .tuple #[.slice A' (leadsL N (roomL (N.arcs.zip f)) least lv (2 * N.arcs.length)).length c', .int .i64 0] ∧
    H' = [.own (.slice A' (leadsL N (roomL (N.arcs.zip f)) least lv (2 * N.arcs.length)).length c') 3 1 (leadsL N (roomL (N.arcs.zip f)) least lv (2 * N.arcs.length)).length (ints ((leadsL N (roomL (N.arcs.zip f)) least lv (2 * N.arcs.length)).map fun (i : Nat) => (i : Int)))]) ∨
  (errZ N f least ≠ 0 ∧ v = .tuple #[.slice none 0 0, .int .i64 (errZ N f least)] ∧ H' = [])
set_option maxHeartbeats 2000000 in
theorem rleads_fn (N : Net) (hN : N.Fits) (A : Option Addr) (c b o : Nat) (hA : N.arcs ≠ [] → A = some ⟨b, o, none⟩) (f : List Int) (F : Option Addr) (cf bf of : Nat) (hF : f ≠ [] → F = some ⟨bf, of, none⟩) (hf : ∀ x ∈ f, inB x) (hfl : f.length * 8 ≤ 140737488351232) (least : Int) :
    Fn 82 [netV N A c, .slice F f.length cf, .int .i64 least] [] [.seg b o (arcs N.arcs), .seg bf of (ints f)] (rleadR N f least) := by
  refine Fn_of Tryz.func82 rfl rfl fun w0 => ?_
  (repeat' (first | refine J_seq ?_ | refine J_skip ?_ | refine J_yes rfl ?_ | refine J_no rfl ?_))
  refine J_region ?_
  refine JL_box (cs := netC N A c) rfl rfl rfl (fun _ => rfl) fun p => ?_
  refine JL_all [] rfl ?_
  (repeat' (first | refine J_seq ?_ | refine J_skip ?_ | refine J_yes rfl ?_ | refine J_no rfl ?_))
  refine J_region ?_
  refine JL_val [] (v := netV N A c) (OpV_blk 0 rfl rfl rfl rfl) rfl ?_
  refine JL_run [] rfl ?_
  refine JL_callR [] (rlevels_fn N hN A c b o hA f F cf bf of hF hf hfl least) rfl rfl rfl rfl (by kernel_rfl) ⟨⟨1, _, by simp, rfl, shows_seg _ _ _, seen_seg⟩, ⟨2, _, by simp, rfl, shows_seg _ _ _, seen_seg⟩, trivial⟩ (fun _ => rfl) ?_
  rintro v H' (⟨he0, n, g, lv, hn, hlv, rfl, rfl⟩ | ⟨he, rfl, rfl⟩)
  case inr =>
    refine ⟨rfl, ?_⟩
    refine JL_all [] rfl ?_
    (repeat' (first | refine J_seq ?_ | refine J_skip ?_ | refine J_yes rfl ?_ | refine J_no rfl ?_))
    refine J_region ?_
    refine JL_all [] rfl ?_
    refine J_dec rfl (fun h => ?_) (fun h => absurd he h)
    (repeat' (first | refine J_seq ?_ | refine J_skip ?_ | refine J_yes rfl ?_ | refine J_no rfl ?_))
    refine J_region ?_
    refine JL_all [] rfl ?_
    exact J_drop [] (by decide) rfl (J_ret ⟨_, rfl, .inr ⟨he, rfl, rfl⟩⟩)
  obtain ⟨hR, hW, hle⟩ := errZ_zero.1 he0
  have hnn := hR.nodes
  have hl2 := hR.len
  have hll := hlv.len
  refine ⟨rfl, ?_⟩
  refine JL_all [] rfl ?_
  (repeat' (first | refine J_seq ?_ | refine J_skip ?_ | refine J_yes rfl ?_ | refine J_no rfl ?_))
  refine J_region ?_
  refine JL_all [] rfl ?_
  refine J_dec rfl (fun h => absurd rfl h) (fun _ => J_skip ?_)
  (repeat' (first | refine J_seq ?_ | refine J_skip ?_ | refine J_yes rfl ?_ | refine J_no rfl ?_))
  refine J_region ?_
  refine JL_val [] (v := netV N A c) (OpV_blk 1 rfl rfl rfl rfl) rfl ?_
  refine JL_run [] rfl ?_
  refine JL_callR [] (rroom_fn N hN A c b o hA f F cf bf of hF hf hfl) rfl rfl rfl rfl (by kernel_rfl) ⟨⟨2, _, by simp, rfl, shows_seg _ _ _, seen_seg⟩, ⟨3, _, by simp, rfl, shows_seg _ _ _, seen_seg⟩, trivial⟩ (fun _ => rfl) ?_
  rintro v H' (⟨_, _, A1, c1, rfl, rfl⟩ | ⟨hw, rfl, rfl⟩)
  case inr => exact absurd (wrong_zero.2 ⟨hR, hW⟩) hw
  refine ⟨rfl, ?_⟩
  refine JL_all [] rfl ?_
  unfold rleadR
  obtain ⟨rm, hrm⟩ : ∃ rm, rm = roomL (N.arcs.zip f) := ⟨_, rfl⟩
  have hrl : rm.length = 2 * N.arcs.length := by rw [hrm, roomL_length, List.length_zip, hW.len, Nat.min_self]
  rw [← hrm] at hlv ⊢
  (repeat' (first | refine J_seq ?_ | refine J_skip ?_ | refine J_yes rfl ?_ | refine J_no rfl ?_))
  refine J_region ?_
  refine JL_all [] rfl ?_
  (repeat' (first | refine J_seq ?_ | refine J_skip ?_ | refine J_yes rfl ?_ | refine J_no rfl ?_))
  refine J_region ?_
  refine JL_all [] rfl ?_
  (repeat' (first | refine J_seq ?_ | refine J_skip ?_ | refine J_yes rfl ?_ | refine J_no rfl ?_))
  refine J_block ?_
  refine J_addnil 3 1 ?_
  refine J_loop (σ := Nat × Option Addr × Nat) (fun s => [(13, .int .i64 (s.1 : Int)), (12, .slice s.2.1 (leadsL N rm least lv s.1).length s.2.2), (10, .slice A1 (2 * N.arcs.length) c1), (8, .slice (some ⟨g, 0, none⟩) (n + 1) (n + 1)), (3, .pointer (some ⟨p, 0, none⟩)), (2, .int .i64 least)])
    (fun s => [.own (.slice s.2.1 (leadsL N rm least lv s.1).length s.2.2) 3 1 (leadsL N rm least lv s.1).length (ints ((leadsL N rm least lv s.1).map fun (i : Nat) => (i : Int))), .own (.slice A1 (2 * N.arcs.length) c1) 2 1 (2 * N.arcs.length) (ints rm), .own (.slice (some ⟨g, 0, none⟩) (n + 1) (n + 1)) 3 1 (n + 1) (ints lv), blk p 24 (netC N A c), .seg b o (arcs N.arcs)])
    (fun s => s.1 ≤ 2 * N.arcs.length) (fun s => 2 * N.arcs.length - s.1) (0, none, 0) [0, 1, 2, 3, 4] ⟨rfl, rfl, rfl, rfl, rfl, rfl, trivial⟩ (by decide) rfl (Nat.zero_le _) ?_
  rintro ⟨k, A2, c2⟩ hk
  simp only at hk ⊢
  have hkl := leadsL_length N rm least lv k
  refine J_know (own_is 1 rfl) fun ⟨_, _, hA1, _⟩ => ?_
  (repeat' (first | refine J_seq ?_ | refine J_skip ?_ | refine J_yes rfl ?_ | refine J_no rfl ?_))
  refine J_region ?_
  refine JL_all [] rfl ?_
  (repeat' (first | refine J_seq ?_ | refine J_skip ?_ | refine J_yes rfl ?_ | refine J_no rfl ?_))
  refine J_dec rfl (fun hlt => J_skip ?_) (fun hge => J_exit ?_)
  · have hlt : k < 2 * N.arcs.length := by omega
    obtain ⟨g1, rfl⟩ := hA1 (by omega)
    obtain ⟨e2, t1, t2⟩ := toN_eq hR hlt
    obtain ⟨e1, f1, f2⟩ := frN_eq hR hlt
    have hE : endsZ N k = ((frN N k : Int), (toN N k : Int)) := Prod.ext e1 e2
    have T := rends_fn N A c b o hA hl2 k hlt
    rw [hE] at T
    obtain ⟨x, hx⟩ : ∃ x, rm[k]? = some x := ⟨rm[k]'(by omega), List.getElem?_eq_getElem (by omega)⟩
    have hxd : rm.getD k 0 = x := by rw [List.getD_eq_getElem?_getD, hx]; rfl
    have hws := leadsL_succ (N := N) (rm := rm) (least := least) (lv := lv) k
    rw [hxd] at hws
    have h1 := lvZ_at (lv := lv) (v := frN N k) (by omega)
    have h3 := lvZ_at (lv := lv) (v := toN N k) (by omega)
    have hru := hlv.rng (frN N k)
    have hq : IntKind.i64.wrap ((k : Int) + 1) = ((k + 1 : Nat) : Int) := w64 (by omega)
    refine J_seq (J_block ?_)
    (repeat' (first | refine J_seq ?_ | refine J_skip ?_ | refine J_yes rfl ?_ | refine J_no rfl ?_))
    refine J_region ?_
    refine JL_val [] (v := netV N A c) (OpV_blk 3 rfl rfl rfl rfl) rfl ?_
    refine JL_run [] rfl ?_
    refine JL_callR [] T rfl rfl rfl rfl (by kernel_rfl) ⟨⟨4, _, by simp, rfl, shows_seg _ _ _, seen_seg⟩, trivial⟩ (fun _ => rfl) ?_
    rintro v H' ⟨rfl, rfl⟩
    refine ⟨rfl, ?_⟩
    refine JL_all [] rfl ?_
    refine J_cut [(68, .bool (cdec (least ≤ x ∧ lvZ lv (frN N k) ≠ -1 ∧ lvZ lv (toN N k) = lvZ lv (frN N k) + 1))), (13, .int .i64 (k : Int)), (12, .slice A2 (leadsL N rm least lv k).length c2), (10, .slice (some ⟨g1, 0, none⟩) (2 * N.arcs.length) c1), (8, .slice (some ⟨g, 0, none⟩) (n + 1) (n + 1)), (3, .pointer (some ⟨p, 0, none⟩)), (2, .int .i64 least)]
      [.own (.slice A2 (leadsL N rm least lv k).length c2) 3 1 (leadsL N rm least lv k).length (ints ((leadsL N rm least lv k).map fun (i : Nat) => (i : Int))), .own (.slice (some ⟨g1, 0, none⟩) (2 * N.arcs.length) c1) 2 1 (2 * N.arcs.length) (ints rm), .own (.slice (some ⟨g, 0, none⟩) (n + 1) (n + 1)) 3 1 (n + 1) (ints lv), blk p 24 (netC N A c), .seg b o (arcs N.arcs)] ?_ ?_
    · (repeat' (first | refine J_seq ?_ | refine J_skip ?_ | refine J_yes rfl ?_ | refine J_no rfl ?_))
      refine J_walk 25 [(0, true), (1, true), (2, true), (3, true), (4, true), (5, true), (6, true), (7, true), (8, true), (9, true), (10, true), (11, true), (12, true), (13, true), (14, true), (15, true), (16, true), (17, true), (18, true), (19, true), (20, true), (21, true), (22, true), (23, true), (24, true)] [0, 1, 2, 3, 4] (by kernel_rfl) (by decide) rfl ?_
      refine JW_run [] rfl ?_
      refine JW_still [] rfl (idx1z rfl rfl rfl rfl rfl hlt) rfl ?_
      refine JW_still [] rfl (OpV_own 1 rfl rfl rfl (readT_int hx)) rfl ?_
      refine JW_evO (gs := []) rfl rfl ?_
      refine JW_evO (gs := []) rfl rfl ?_
      refine JW_evO (gs := []) rfl rfl ?_
      by_cases c1' : least ≤ x
      case neg =>
        refine JW_set 50 (v' := .bool false) rfl (congrArg Value.bool (cdec_no c1')) ?_
        refine JW_all [6, 13] rfl ?_
        refine JL_nil ?_
        exact ⟨[0, 1, 2, 3, 4], ⟨congrArg some (congrArg Value.bool (cdec_no (fun h => c1' h.1)).symm), rfl, rfl, rfl, rfl, rfl, rfl, trivial⟩, by decide, rfl⟩
      refine JW_set 50 (v' := .bool true) rfl (congrArg Value.bool (cdec_yes c1')) ?_
      refine JW_run [6] rfl ?_
      refine JW_still [6] rfl (idx1z rfl rfl rfl rfl rfl (show frN N k < n + 1 by omega)) rfl ?_
      refine JW_still [6] rfl (OpV_own 2 rfl rfl rfl (readT_int' h1)) rfl ?_
      refine JW_run [6] rfl ?_
      by_cases c2' : 0 ≤ lvZ lv (frN N k)
      case neg =>
        refine JW_set 57 (v' := .bool false) rfl (congrArg Value.bool (cdec_no c2')) ?_
        refine JW_all [6, 13] rfl ?_
        refine JL_nil ?_
        exact ⟨[0, 1, 2, 3, 4], ⟨congrArg some (congrArg Value.bool (cdec_no (fun h => h.2.1 (by omega))).symm), rfl, rfl, rfl, rfl, rfl, rfl, trivial⟩, by decide, rfl⟩
      refine JW_set 57 (v' := .bool true) rfl (congrArg Value.bool (cdec_yes c2')) ?_
      refine JW_run [6, 13] rfl ?_
      refine JW_still [6, 13] rfl (idx1z rfl rfl rfl rfl rfl (show toN N k < n + 1 by omega)) rfl ?_
      refine JW_still [6, 13] rfl (OpV_own 2 rfl rfl rfl (readT_int' h3)) rfl ?_
      refine JW_run [6, 13] rfl ?_
      refine JW_still [6, 13] rfl (idx1z rfl rfl rfl rfl rfl (show frN N k < n + 1 by omega)) rfl ?_
      refine JW_still [6, 13] rfl (OpV_own 2 rfl rfl rfl (readT_int' h1)) rfl ?_
      refine JW_evO (gs := [6, 13]) rfl rfl ?_
      refine JW_set 66 (v' := .int .i64 (lvZ lv (frN N k) + 1)) rfl (congrArg (Value.int .i64) (w64 (by omega))) ?_
      refine JW_all [6, 13] rfl ?_
      refine JL_nil ?_
      exact ⟨[0, 1, 2, 3, 4], ⟨congrArg some (congrArg Value.bool (cdec_iff ⟨fun h => ⟨c1', by omega, h⟩, fun h => h.2.2⟩)), rfl, rfl, rfl, rfl, rfl, rfl, trivial⟩, by decide, rfl⟩
    · refine J_dec rfl (fun hgo => ?_) (fun hgo => J_skip ?_)
      · rw [if_pos hgo] at hws
        (repeat' (first | refine J_seq ?_ | refine J_skip ?_ | refine J_yes rfl ?_ | refine J_no rfl ?_))
        refine J_region ?_
        refine JL_run [] rfl ?_
        refine JL_lit rfl rfl rfl rfl rfl rfl rfl (fun _ => rfl) fun g2 => ?_
        refine JL_appendS (n := (leadsL N rm least lv k).length) (m := 1) (off := 0) (news := ints [(k : Int)]) 1 0 rfl rfl rfl rfl rfl rfl (by decide) rfl rfl (shows_blk g2 _ _ (0, 0)) (fun _ => rfl) rfl rfl (by omega) (by omega) (fun _ _ => rfl) fun A3 c3 => ?_
        rw [show (leadsL N rm least lv k).length + 1 = (leadsL N rm least lv (k + 1)).length by rw [hws]; simp, show ints ((leadsL N rm least lv k).map fun (i : Nat) => (i : Int)) ++ ints [(k : Int)] = ints ((leadsL N rm least lv (k + 1)).map fun (i : Nat) => (i : Int)) by rw [hws]; simp [ints]]
        refine JL_all [] rfl ?_
        (repeat' (first | refine J_seq ?_ | refine J_skip ?_ | refine J_yes rfl ?_ | refine J_no rfl ?_))
        refine J_region ?_
        refine JL_all [] rfl ?_
        exact ⟨(k + 1, A3, c3), [1, 2, 3, 4, 5], ⟨congrArg some (congrArg (Value.int .i64) hq), rfl, rfl, rfl, rfl, rfl, trivial⟩, by decide, rfl, by simp only; omega, by simp only; omega⟩
      · rw [if_neg hgo, List.append_nil] at hws
        (repeat' (first | refine J_seq ?_ | refine J_skip ?_ | refine J_yes rfl ?_ | refine J_no rfl ?_))
        refine J_region ?_
        refine JL_all [] rfl ?_
        exact ⟨(k + 1, A2, c2), [0, 1, 2, 3, 4], ⟨congrArg some (congrArg (Value.int .i64) hq), by simp only [hws]; rfl, rfl, rfl, rfl, rfl, trivial⟩, by decide, by simp only [hws]; rfl, by simp only; omega, by simp only; omega⟩
  · obtain rfl : k = 2 * N.arcs.length := by omega
    (repeat' (first | refine J_seq ?_ | refine J_skip ?_ | refine J_yes rfl ?_ | refine J_no rfl ?_))
    refine J_region ?_
    refine JL_all [] rfl ?_
    exact J_drop [0] (by decide) rfl (J_ret ⟨_, rfl, .inl ⟨he0, lv, A2, c2, hlv, rfl, rfl⟩⟩)
end Go.Proofs.YtfogkbmbmaganaaGreat


/- One flow blocks, in plain terms: the search finds but one thing. -/
set_option linter.unusedVariables false
set_option linter.unusedSimpArgs false
namespace Go.Proofs.YtfogkbmbmaganaaGreat
open Go.RowKit
theorem Nx.uniq {N : Net} {L : Nat → List Nat} {least : Int} {rm : List Int} (hsn : N.src.toNat ≠ N.snk.toNat) {pos W pos' W' : List Nat} {b : Bool} (h : Nx N L least rm pos W b pos' W') : ∀ {V : List Nat} {b2 : Bool} {pos2 W2 : List Nat}, V = W → Nx N L least rm pos V b2 pos2 W2 → b = b2 ∧ pos' = pos2 ∧ W' = W2 := by
  induction h with
  | hit h1 =>
    intro V b2 pos2 W2 hV h
    cases h with
    | hit _ => exact ⟨rfl, rfl, hV.symm⟩
    | go k1 _ _ _ _ => rw [hV] at k1; exact absurd h1 k1
    | skip k1 _ _ _ _ => rw [hV] at k1; exact absurd h1 k1
    | back k1 _ _ _ _ => rw [hV] at k1; exact absurd h1 k1
    | stop k1 _ _ => rw [← hV] at h1; exact absurd h1 k1
  | @go pos W pos' W' r p b h1 h2 h3 h4 _ ih =>
    intro V b2 pos2 W2 hV h
    cases h with
    | hit k1 => rw [hV] at k1; exact absurd k1 h1
    | go k1 k2 k3 k4 k5 =>
      subst hV
      rw [h2] at k2
      simp only [Option.some.injEq] at k2
      subst k2
      rw [h3] at k3
      simp only [Option.some.injEq] at k3
      subst k3
      exact ih rfl k5
    | skip k1 k2 k3 k4 k5 =>
      subst hV
      rw [h2] at k2
      simp only [Option.some.injEq] at k2
      subst k2
      rw [h3] at k3
      simp only [Option.some.injEq] at k3
      subst k3
      omega
    | back k1 k2 k3 k4 k5 =>
      subst hV
      rw [h2] at k2
      simp only [Option.some.injEq] at k2
      subst k2
      have := (List.getElem?_eq_some_iff.1 h3).1
      omega
    | stop k1 k2 k3 =>
      subst hV
      have h2' : pos[N.src.toNat]? = some p := h2
      rw [h2'] at k2
      simp only [Option.some.injEq] at k2
      subst k2
      have := (List.getElem?_eq_some_iff.1 h3).1
      have h5 : p < (L N.src.toNat).length := this
      omega
  | @skip pos W pos' W' r p b h1 h2 h3 h4 _ ih =>
    intro V b2 pos2 W2 hV h
    cases h with
    | hit k1 => rw [hV] at k1; exact absurd k1 h1
    | go k1 k2 k3 k4 k5 =>
      subst hV
      rw [h2] at k2
      simp only [Option.some.injEq] at k2
      subst k2
      rw [h3] at k3
      simp only [Option.some.injEq] at k3
      subst k3
      omega
    | skip k1 k2 k3 k4 k5 =>
      subst hV
      rw [h2] at k2
      simp only [Option.some.injEq] at k2
      subst k2
      exact ih rfl k5
    | back k1 k2 k3 k4 k5 =>
      subst hV
      rw [h2] at k2
      simp only [Option.some.injEq] at k2
      subst k2
      have := (List.getElem?_eq_some_iff.1 h3).1
      omega
    | stop k1 k2 k3 =>
      subst hV
      have h2' : pos[N.src.toNat]? = some p := h2
      rw [h2'] at k2
      simp only [Option.some.injEq] at k2
      subst k2
      have h5 : p < (L N.src.toNat).length := (List.getElem?_eq_some_iff.1 h3).1
      omega
  | @back pos W pos' W' r p q b h1 h2 h3 h4 _ ih =>
    intro V b2 pos2 W2 hV h
    cases h with
    | hit k1 => rw [hV] at k1; exact absurd k1 h1
    | go k1 k2 k3 k4 k5 =>
      subst hV
      rw [h2] at k2
      simp only [Option.some.injEq] at k2
      subst k2
      have := (List.getElem?_eq_some_iff.1 k3).1
      omega
    | skip k1 k2 k3 k4 k5 =>
      subst hV
      rw [h2] at k2
      simp only [Option.some.injEq] at k2
      subst k2
      have := (List.getElem?_eq_some_iff.1 k3).1
      omega
    | @back _ W2' _ _ r2 p2 q2 _ k1 k2 k3 k4 k5 =>
      obtain ⟨e1, e2⟩ := List.append_inj' hV rfl
      subst e1
      simp only [List.cons.injEq, and_true] at e2
      subst e2
      rw [h4] at k4
      simp only [Option.some.injEq] at k4
      subst k4
      exact ih rfl k5
    | stop k1 k2 k3 =>
      exact absurd hV (by simp)
  | stop h1 h2 h3 =>
    intro V b2 pos2 W2 hV h
    cases h with
    | hit k1 => rw [hV] at k1; exact absurd k1 h1
    | go k1 k2 k3 k4 k5 =>
      subst hV
      have h2' := k2
      rw [show endN N [] = N.src.toNat from rfl, h2] at h2'
      simp only [Option.some.injEq] at h2'
      subst h2'
      have h5 := (List.getElem?_eq_some_iff.1 k3).1
      rw [show endN N [] = N.src.toNat from rfl] at h5
      omega
    | skip k1 k2 k3 k4 k5 =>
      subst hV
      have h2' := k2
      rw [show endN N [] = N.src.toNat from rfl, h2] at h2'
      simp only [Option.some.injEq] at h2'
      subst h2'
      have h5 := (List.getElem?_eq_some_iff.1 k3).1
      rw [show endN N [] = N.src.toNat from rfl] at h5
      omega
    | back k1 k2 k3 k4 k5 => exact absurd hV (by simp)
    | stop _ _ _ => exact ⟨rfl, rfl, rfl⟩
theorem Bl.uniq {N : Net} {L : Nat → List Nat} {least : Int} (hsn : N.src.toNat ≠ N.snk.toNat) {rm rm' : List Int} {pos W : List Nat} {ws : List (List Nat × Int)} (h : Bl N L least rm pos W ws rm') : ∀ {ws2 : List (List Nat × Int)} {rm2 : List Int}, Bl N L least rm pos W ws2 rm2 → ws = ws2 ∧ rm' = rm2 := by
  induction h with
  | stop h1 =>
    intro ws2 rm2 h
    cases h with
    | stop _ => exact ⟨rfl, rfl⟩
    | walk k1 _ => have := (h1.uniq hsn rfl k1).1; cases this
  | walk h1 _ ih =>
    intro ws2 rm2 h
    cases h with
    | stop k1 => have := (h1.uniq hsn rfl k1).1; cases this
    | walk k1 k2 =>
      obtain ⟨_, e1, e2⟩ := h1.uniq hsn rfl k1
      subst e1
      subst e2
      obtain ⟨e3, e4⟩ := ih k2
      exact ⟨by rw [e3], e4⟩
theorem BlkOf.uniq {N : Net} (hR : N.Right) {least : Int} {f f1 f2 : List Int} {ws1 ws2 : List (List Nat × Int)} (h1 : BlkOf N least f ws1 f1) (h2 : BlkOf N least f ws2 f2) : ws1 = ws2 ∧ f1 = f2 := by
  have hsr := hR.src
  have hsk := hR.snk
  have hdf := hR.diff
  obtain ⟨lv1, a1, a2, a3⟩ := h1
  obtain ⟨lv2, b1, b2, b3⟩ := h2
  obtain rfl : lv1 = lv2 := by
    have hu := lev_uniq a1 b1
    have hl : lv1.length = lv2.length := by rw [a1.len, b1.len]
    apply List.ext_getElem?
    intro i
    by_cases hi : i < lv1.length
    · have := hu i
      unfold lvZ at this
      rw [List.getD_eq_getElem?_getD, List.getD_eq_getElem?_getD, List.getElem?_eq_getElem hi, List.getElem?_eq_getElem (by omega)] at this
      rw [List.getElem?_eq_getElem hi, List.getElem?_eq_getElem (by omega)]
      simpa using this
    · rw [List.getElem?_eq_none (by omega), List.getElem?_eq_none (by omega)]
  obtain ⟨e1, e2⟩ := a3.uniq (by omega) b3
  exact ⟨e1, room_inj a2.len b2.len e2⟩
end Go.Proofs.YtfogkbmbmaganaaGreat
