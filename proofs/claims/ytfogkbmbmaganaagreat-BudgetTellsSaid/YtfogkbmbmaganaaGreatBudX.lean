
/- The budget's words of any network and any count, and the reference's. -/
import Derived.Test.YtfogkbmbmaganaaGreatQX5
import Derived.Test.YtfogkbmbmaganaaGreatQX8
import Derived.Test.YtfogkbmbmaganaaGreatQX18
set_option linter.unusedVariables false
set_option linter.unusedSimpArgs false
namespace Go.Proofs.YtfogkbmbmaganaaGreat
open Go.RowKit
def bey18 : Value := .iface 77 (.agg #[])
theorem times_bad {a b : Int} (ha : inB a) (hb : inB b) (h : ¬ inB (a * b)) : Fx 21 [.int .i64 a, .int .i64 b] [] [cause bey18] := by
  have T := mul_fn ha hb
  rw [orErr_out h] at T
  refine Fx_of Tryz.func21 rfl rfl fun w0 => ?_
  (repeat' (first | refine J_seq ?_ | refine J_skip ?_ | refine J_yes rfl ?_ | refine J_no rfl ?_))
  refine J_region ?_
  refine JL_all [] rfl ?_
  (repeat' (first | refine J_seq ?_ | refine J_skip ?_ | refine J_yes rfl ?_ | refine J_no rfl ?_))
  refine J_region ?_
  refine JL_run [] rfl ?_
  refine JL_callR [] (T) rfl rfl rfl rfl (by kernel_rfl) trivial (fun _ => rfl) ?_
  rintro v H' ⟨rfl, rfl⟩
  refine ⟨rfl, ?_⟩
  refine JL_all [] rfl ?_
  (repeat' (first | refine J_seq ?_ | refine J_skip ?_ | refine J_yes rfl ?_ | refine J_no rfl ?_))
  refine J_region ?_
  refine JL_all [] rfl ?_
  refine J_dec rfl (fun _ => ?_) (fun hx => absurd (show (3 : Int) ≠ 0 by decide) hx)
  refine J_region ?_
  refine JL_val [] (OpV_build rfl rfl rfl rfl rfl rfl) rfl ?_
  refine JL_run [] rfl ?_
  exact JL_panic rfl rfl rfl rfl
theorem shareD_pan (b1 b2 : Nat) (x y : Value) : FnD 29 [.pointer (some ⟨b1, 0, none⟩), .pointer (some ⟨b2, 0, none⟩)] (.panicking [cause bey18]) (.panicking [{ v := bey18, recovered := true }]) [b1, b2]
    [blk b1 2 [x], blk b2 28 [y]] fun H' => H' = [blk b1 2 [.int .i64 0], blk b2 28 [.int .i64 3]] := by
  refine FnD_of (v := bey18) (d := 5) Tryz.func29 rfl rfl rfl rfl rfl rfl rfl (fun c cs h => .inl (recover_some c cs bey18 h)) fun w0 => ?_
  refine J_block ?_
  (repeat' (first | refine J_seq ?_ | refine J_skip ?_ | refine J_yes rfl ?_ | refine J_no rfl ?_))
  refine J_region ?_
  refine JL_all [] rfl ?_
  refine J_no rfl ?_
  (repeat' (first | refine J_seq ?_ | refine J_skip ?_ | refine J_yes rfl ?_ | refine J_no rfl ?_))
  refine J_region ?_
  refine JL_all [] rfl ?_
  refine J_yes rfl ?_
  (repeat' (first | refine J_seq ?_ | refine J_skip ?_ | refine J_yes rfl ?_ | refine J_no rfl ?_))
  refine J_region ?_
  refine JL_alloc rfl rfl rfl (fun _ => rfl) fun b3 => ?_
  refine JL_store 0 rfl rfl rfl rfl rfl [] rfl ?_
  refine JL_nil ?_
  refine J_drop [1, 2] (by decide) rfl (J_region ?_)
  refine JL_store 0 rfl rfl rfl rfl rfl [] rfl ?_
  refine JL_store 1 rfl rfl rfl rfl rfl [] rfl ?_
  refine JL_nil ?_
  exact ⟨_, rfl, rfl⟩
open Classical in
noncomputable def shareX (s b : Int) : Int × Int := if b < 1 ∨ s < 0 then (0, 1) else if inB (1000 * s) then (Int.tdiv (1000 * s) b, 0) else (0, 3)
def shareXQ (b1 b2 : Nat) (r : Int × Int) : Post := fun e E H => match e with
  | .ret => look E 2 = some (.pointer (some ⟨b1, 0, none⟩)) ∧ look E 3 = some (.pointer (some ⟨b2, 0, none⟩)) ∧ ∃ ix : List Nat, ix.Nodup ∧ picks H ix = some [blk b1 2 [.int .i64 r.1], blk b2 28 [.int .i64 r.2]]
  | .panic c => look E 2 = some (.pointer (some ⟨b1, 0, none⟩)) ∧ look E 3 = some (.pointer (some ⟨b2, 0, none⟩)) ∧ r = (0, 3) ∧ c = [cause bey18] ∧ ∃ (ix : List Nat) (x y : Value), ix.Nodup ∧ picks H ix = some [blk b1 2 [x], blk b2 28 [y]]
  | _ => False
theorem shareX_fn (v p k s b : Int) (hs : inB s) : Fn 10 [countV v p k s b] [] [] fun v H' => v = two (shareX s b) ∧ H' = [] := by
  by_cases hp : inB (1000 * s)
  · refine (share_fn v p k s b hs (fun _ => hp)).mono ?_
    rintro v H' ⟨rfl, rfl⟩
    refine ⟨?_, rfl⟩
    unfold shareZ shareX
    by_cases h : b < 1 ∨ s < 0
    · rw [if_pos h, if_pos h]
    · rw [if_neg h, if_neg h, if_pos hp]
  refine Fn_ofD Tryz.func10 rfl rfl fun w0 => ?_
  refine W_seq (J_region ?_)
  refine JL_box (cs := [.int .i64 v, .int .i64 p, .int .i64 k, .int .i64 s, .int .i64 b]) rfl rfl rfl (fun _ => rfl) fun b0 => ?_
  refine JL_alloc rfl rfl rfl (fun _ => rfl) fun b1 => ?_
  refine JL_alloc rfl rfl rfl (fun _ => rfl) fun b2 => ?_
  refine JL_nil ?_
  refine W_defer (cap := [.pointer (some ⟨b1, 0, none⟩), .pointer (some ⟨b2, 0, none⟩)]) rfl rfl rfl rfl rfl rfl rfl ?_
  refine W_of (Q := shareXQ b1 b2 (shareX s b)) ?_ ?_
  · refine J_seq ?_
    (repeat' (first | refine J_seq ?_ | refine J_skip ?_ | refine J_yes rfl ?_ | refine J_no rfl ?_))
    (repeat' (first | refine J_seq ?_ | refine J_skip ?_ | refine J_yes rfl ?_ | refine J_no rfl ?_))
    refine J_region ?_
    refine JL_run [] rfl ?_
    refine JL_val [] (OpV_blk 2 rfl rfl rfl rfl) rfl ?_
    refine JL_run [] rfl ?_
    by_cases g1 : b < 1
    · refine JL_set 8 (v' := .bool true) rfl (congrArg Value.bool (cdec_yes g1)) ?_
      refine JL_all [3] rfl ?_
      refine J_yes rfl ?_
      (repeat' (first | refine J_seq ?_ | refine J_skip ?_ | refine J_yes rfl ?_ | refine J_no rfl ?_))
      refine J_region ?_
      refine JL_store 1 rfl rfl rfl rfl rfl [] rfl ?_
      refine JL_store 0 rfl rfl rfl rfl rfl [] rfl ?_
      refine JL_nil (J_ret ?_)
      exact ⟨rfl, rfl, [1, 0], by decide, by unfold shareX; rw [if_pos (.inl g1)]; rfl⟩
    refine JL_set 8 (v' := .bool false) rfl (congrArg Value.bool (cdec_no g1)) ?_
    refine JL_run [3] rfl ?_
    refine JL_val [3] (OpV_blk 2 rfl rfl rfl rfl) rfl ?_
    refine JL_all [3] rfl ?_
    refine J_dec rfl (fun g2 => ?_) (fun g2 => J_skip ?_)
    · (repeat' (first | refine J_seq ?_ | refine J_skip ?_ | refine J_yes rfl ?_ | refine J_no rfl ?_))
      refine J_region ?_
      refine JL_store 1 rfl rfl rfl rfl rfl [] rfl ?_
      refine JL_store 0 rfl rfl rfl rfl rfl [] rfl ?_
      refine JL_nil (J_ret ?_)
      exact ⟨rfl, rfl, [1, 0], by decide, by unfold shareX; rw [if_pos (.inr g2)]; rfl⟩
    have hq : shareX s b = (0, 3) := by unfold shareX; rw [if_neg (by omega), if_neg hp]
    (repeat' (first | refine J_seq ?_ | refine J_skip ?_ | refine J_yes rfl ?_ | refine J_no rfl ?_))
    refine J_any ?_
    (repeat' (first
      | exact trivial
      | refine JO_step 0 [3] (by decide +kernel) ?_
      | refine JO_step 0 [4] (by decide +kernel) ?_
      | refine JO_step 0 [] (by decide +kernel) ?_
      | refine JO_step 1 [3] (by decide +kernel) ?_
      | refine JO_step 1 [4] (by decide +kernel) ?_
      | refine JO_step 1 [] (by decide +kernel) ?_
      | refine JO_step 2 [3] (by decide +kernel) ?_
      | refine JO_step 2 [4] (by decide +kernel) ?_
      | refine JO_step 2 [] (by decide +kernel) ?_
      | refine ⟨⟨_, rfl, ?_⟩, ?_⟩
      | refine JL_evO (gs := [999]) rfl ?_
      | refine JL_val [] (OpV_blk 2 rfl rfl rfl rfl) rfl ?_
      | refine JL_callX (times_bad (a := 1000) (b := s) (by decide) hs hp) rfl rfl rfl rfl (by kernel_rfl) trivial rfl ?_
      | exact ⟨rfl, rfl, hq, rfl, [1, 0], .int .i64 0, .int .i64 0, by decide, rfl⟩
      | refine JL_nil ?_))
  · rintro e a w ⟨E, H, hAg, hH, hq⟩
    cases e with
    | ret =>
      obtain ⟨h1, h2, ix, h3, h4⟩ := hq
      exact door ix rfl hAg hH h1 h2 h3 h4 (by kernel_rfl) (by simp) rfl (shareD_ret b1 b2 _ _) rfl rfl ⟨rfl, rfl⟩
    | panic ch =>
      obtain ⟨h1, h2, h0, rfl, ix, x, y, h3, h4⟩ := hq
      exact door ix rfl hAg hH h1 h2 h3 h4 (by kernel_rfl) (by simp) rfl (shareD_pan b1 b2 _ _) rfl rfl ⟨by rw [h0]; rfl, rfl⟩
    | _ => exact hq.elim
theorem rshare_fn (s b : Int) (hs : inB s) : Fn 11 [.int .i64 s, .int .i64 b] [] [] fun v H' => v = two (shareX s b) ∧ H' = [] := by
  refine Fn_of Tryz.func11 rfl rfl fun w0 => ?_
  (repeat' (first | refine J_seq ?_ | refine J_skip ?_ | refine J_yes rfl ?_ | refine J_no rfl ?_))
  refine J_region ?_
  refine JL_all [] rfl ?_
  (repeat' (first | refine J_seq ?_ | refine J_skip ?_ | refine J_yes rfl ?_ | refine J_no rfl ?_))
  refine J_region ?_
  refine JL_evO (gs := [999]) rfl ?_
  refine JL_evO (gs := [999]) rfl ?_
  refine JL_evO (gs := [999]) rfl ?_
  by_cases g1 : b < 1
  · refine JL_set 8 (v' := .bool true) rfl (congrArg Value.bool (cdec_yes g1)) ?_
    refine JL_all [2] rfl ?_
    refine J_yes rfl ?_
    (repeat' (first | refine J_seq ?_ | refine J_skip ?_ | refine J_yes rfl ?_ | refine J_no rfl ?_))
    refine J_region ?_
    refine JL_all [] rfl ?_
    refine J_ret ⟨_, rfl, ?_, rfl⟩
    unfold shareX; rw [if_pos (.inl g1)]; rfl
  refine JL_set 8 (v' := .bool false) rfl (congrArg Value.bool (cdec_no g1)) ?_
  refine JL_all [2] rfl ?_
  refine J_dec rfl (fun g2 => ?_) (fun g2 => J_skip ?_)
  · (repeat' (first | refine J_seq ?_ | refine J_skip ?_ | refine J_yes rfl ?_ | refine J_no rfl ?_))
    refine J_region ?_
    refine JL_all [] rfl ?_
    refine J_ret ⟨_, rfl, ?_, rfl⟩
    unfold shareX; rw [if_pos (.inr g2)]; rfl
  (repeat' (first | refine J_seq ?_ | refine J_skip ?_ | refine J_yes rfl ?_ | refine J_no rfl ?_))
  refine J_region ?_
  refine JL_all [] rfl ?_
  refine J_dec rfl (fun g3 => ?_) (fun g3 => J_skip ?_)
  · (repeat' (first | refine J_seq ?_ | refine J_skip ?_ | refine J_yes rfl ?_ | refine J_no rfl ?_))
    refine J_region ?_
    refine JL_all [] rfl ?_
    refine J_ret ⟨_, rfl, ?_, rfl⟩
    unfold shareX; rw [if_neg (by omega), if_neg (by unfold inB; omega)]; rfl
  have hp : inB (1000 * s) := by unfold inB; omega
  have hd : 0 ≤ Int.tdiv (1000 * s) b ∧ Int.tdiv (1000 * s) b ≤ 1000 * s := by
    rw [Int.tdiv_eq_ediv_of_nonneg (by omega)]
    exact ⟨Int.ediv_nonneg (by omega) (by omega), Int.ediv_le_self _ (by omega)⟩
  (repeat' (first | refine J_seq ?_ | refine J_skip ?_ | refine J_yes rfl ?_ | refine J_no rfl ?_))
  refine J_region ?_
  refine JL_evO (gs := [999]) rfl ?_
  refine JL_evO (gs := [999]) rfl ?_
  refine JL_set 15 (v' := .int .i64 (1000 * s)) rfl (congrArg (Value.int .i64) (w64 (by unfold inB at hp; omega))) ?_
  refine JL_evO (gs := [999]) rfl ?_
  refine JL_val [] (OpV_quo rfl rfl rfl (by omega)) rfl ?_
  refine JL_all [] rfl ?_
  refine J_ret ⟨_, rfl, ?_, rfl⟩
  have e : IntKind.i64.wrap (Int.tdiv (1000 * s) b) = Int.tdiv (1000 * s) b := w64 (by unfold inB at hp; omega)
  rw [e]
  unfold shareX; rw [if_neg (by omega), if_pos hp]; rfl
theorem rbound_fn (N : Net) (hN : N.Fits) (A : Option Addr) (c b o : Nat) (hA : N.arcs ≠ [] → A = some ⟨b, o, none⟩) : Fn 7 [netV N A c] [] [.seg b o (arcs N.arcs)] fun v H' => v = two (if checkZ N = 0 then (boundZ N, 0) else (0, checkZ N)) ∧ H' = [] := by
  refine Fn_of Tryz.func7 rfl rfl fun w0 => ?_
  (repeat' (first | refine J_seq ?_ | refine J_skip ?_ | refine J_yes rfl ?_ | refine J_no rfl ?_))
  refine J_region ?_
  refine JL_box (cs := netC N A c) rfl rfl rfl (fun _ => rfl) fun p => ?_
  refine JL_all [] rfl ?_
  (repeat' (first | refine J_seq ?_ | refine J_skip ?_ | refine J_yes rfl ?_ | refine J_no rfl ?_))
  refine J_region ?_
  refine JL_val [] (v := netV N A c) (OpV_blk 0 rfl rfl rfl rfl) rfl ?_
  refine JL_callR [] (rcheck_fn N hN A c b o hA) rfl rfl rfl rfl (by kernel_rfl) ⟨⟨1, _, by simp, rfl, shows_seg _ _ _, seen_seg⟩, trivial⟩ (fun _ => rfl) ?_
  rintro v H' ⟨rfl, rfl⟩
  refine ⟨rfl, ?_⟩
  refine JL_all [] rfl ?_
  (repeat' (first | refine J_seq ?_ | refine J_skip ?_ | refine J_yes rfl ?_ | refine J_no rfl ?_))
  refine J_region ?_
  refine JL_all [] rfl ?_
  refine J_dec rfl (fun h => ?_) (fun h => J_skip ?_)
  · rw [if_neg h]
    (repeat' (first | refine J_seq ?_ | refine J_skip ?_ | refine J_yes rfl ?_ | refine J_no rfl ?_))
    refine J_region ?_
    refine JL_all [] rfl ?_
    exact J_drop [] (by decide) rfl (J_ret ⟨_, rfl, rfl, rfl⟩)
  have hz : checkZ N = 0 := Classical.not_not.1 h
  have hR := checkZ_zero hz
  have h1 := hR.nodes
  have h3 := hR.len
  rw [if_pos hz]
  obtain ⟨m1, m2, m3, m4⟩ := mostZ_in h1.1 h1.2 (by omega)
  obtain ⟨n1, n2⟩ := boundZ_in h1.1 h1.2 (by omega)
  (repeat' (first | refine J_seq ?_ | refine J_skip ?_ | refine J_yes rfl ?_ | refine J_no rfl ?_))
  refine J_walk 8 [(0, true), (1, true), (2, true), (3, true), (4, false), (5, true), (6, true), (7, true)] [0] (by kernel_rfl) (by decide) rfl ?_
  refine JW_run [] rfl ?_
  refine JW_still [] rfl (OpV_blk 0 rfl rfl rfl rfl) rfl ?_
  refine JW_run [] rfl ?_
  refine JW_set 12 (v' := .int .i64 (N.nodes - 1)) rfl (congrArg (Value.int .i64) (w64 (by omega))) ?_
  refine JW_still [] rfl (v := netV N A c) (OpV_blk 0 rfl rfl rfl rfl) rfl ?_
  refine JW_eff rfl ?_
  refine JL_callR [] (rmost_fn N h1.1 h1.2 (by omega) A c) rfl rfl rfl rfl (by kernel_rfl) trivial (fun _ => rfl) ?_
  rintro v H' ⟨rfl, rfl⟩
  refine ⟨rfl, JL_nil ⟨⟨[0], by decide, rfl⟩, ?_⟩⟩
  refine JW_all [] rfl ?_
  refine JL_nil ?_
  refine J_drop [] (by decide) rfl (J_ret ⟨_, rfl, ?_, rfl⟩)
  have e : IntKind.i64.wrap ((N.nodes - 1) * mostZ N) = boundZ N := w64 (n := (N.nodes - 1) * mostZ N) (by unfold boundZ at n1 n2; omega)
  rw [e]; rfl
theorem rvalue_fn (N : Net) (hN : N.Fits) (hR : N.Right) (A : Option Addr) (c b o : Nat) (hA : N.arcs ≠ [] → A = some ⟨b, o, none⟩) (f : List Int) (hf : IsFlow N f) (F : Option Addr) (cf bf of : Nat) (hF : f ≠ [] → F = some ⟨bf, of, none⟩) :
    Fn 28 [netV N A c, .slice F f.length cf] [] [.seg b o (arcs N.arcs), .seg bf of (ints f)] fun v H' => v = two (exZ (N.arcs.zip f) N.snk, 0) ∧ H' = [] := by
  have hlen := hf.len
  have hln := hR.len
  refine Fn_of Tryz.func28 rfl rfl fun w0 => ?_
  (repeat' (first | refine J_seq ?_ | refine J_skip ?_ | refine J_yes rfl ?_ | refine J_no rfl ?_))
  refine J_region ?_
  refine JL_box (cs := netC N A c) rfl rfl rfl (fun _ => rfl) fun p => ?_
  refine JL_all [] rfl ?_
  (repeat' (first | refine J_seq ?_ | refine J_skip ?_ | refine J_yes rfl ?_ | refine J_no rfl ?_))
  refine J_region ?_
  refine JL_val [] (v := netV N A c) (OpV_blk 0 rfl rfl rfl rfl) rfl ?_
  refine JL_run [] rfl ?_
  refine JL_callR [] (rflow_fn N hN A c b o hA f F cf bf of hF (IsFlow.inB hR hf.toRanged) (by omega)) rfl rfl rfl rfl (by kernel_rfl) ⟨⟨1, _, by simp, rfl, shows_seg _ _ _, seen_seg⟩, ⟨2, _, by simp, rfl, shows_seg _ _ _, seen_seg⟩, trivial⟩ (fun _ => rfl) ?_
  rintro v H' ⟨rfl, rfl⟩
  refine ⟨rfl, ?_⟩
  rw [wrong_zero.2 ⟨hR, hf⟩]
  refine JL_all [] rfl ?_
  (repeat' (first | refine J_seq ?_ | refine J_skip ?_ | refine J_yes rfl ?_ | refine J_no rfl ?_))
  refine J_region ?_
  refine JL_all [] rfl ?_
  refine J_dec rfl (fun h => absurd rfl h) (fun _ => J_skip ?_)
  (repeat' (first | refine J_seq ?_ | refine J_skip ?_ | refine J_yes rfl ?_ | refine J_no rfl ?_))
  refine J_region ?_
  refine JL_val [] (v := netV N A c) (OpV_blk 0 rfl rfl rfl rfl) rfl ?_
  refine JL_run [] rfl ?_
  refine JL_val [] (v := .int .i64 N.snk) (OpV_blk 0 rfl rfl rfl rfl) rfl ?_
  refine JL_callR [] (rexcess_fn N hR A c b o hA f hf.toRanged F cf bf of hF N.snk) rfl rfl rfl rfl (by kernel_rfl) ⟨⟨1, _, by simp, rfl, shows_seg _ _ _, seen_seg⟩, ⟨2, _, by simp, rfl, shows_seg _ _ _, seen_seg⟩, trivial⟩ (fun _ => rfl) ?_
  rintro v H' ⟨rfl, rfl⟩
  refine ⟨rfl, ?_⟩
  refine JL_all [] rfl ?_
  exact J_drop [] (by decide) rfl (J_ret ⟨_, rfl, rfl, rfl⟩)
def OutB (N : Net) (e v : Int) (p k : Nat) (bd : Int) : Prop :=
  (checkZ N = 0 ∧ e = 0 ∧ bd = boundZ N ∧ ∃ f, Dn N 1 (List.replicate N.arcs.length 0) p k f ∧ v = exZ (N.arcs.zip f) N.snk) ∨
  (checkZ N ≠ 0 ∧ e = checkZ N ∧ v = 0 ∧ p = 0 ∧ k = 0 ∧ bd = 0)
theorem OutB.uniq {N : Net} {e v e2 v2 bd bd2 : Int} {p k p2 k2 : Nat} (h : OutB N e v p k bd) (h' : OutB N e2 v2 p2 k2 bd2) : e = e2 ∧ v = v2 ∧ p = p2 ∧ k = k2 ∧ bd = bd2 := by
  rcases h with ⟨h1, rfl, rfl, f, hd, rfl⟩ | ⟨h1, rfl, rfl, rfl, rfl, rfl⟩ <;> rcases h' with ⟨g1, rfl, rfl, f2, gd, rfl⟩ | ⟨g1, rfl, rfl, rfl, rfl, rfl⟩
  · have hR := checkZ_zero h1
    obtain ⟨rfl, rfl, rfl⟩ := hd.uniq hR (by decide) gd
    exact ⟨rfl, rfl, rfl, rfl, rfl⟩
  · exact absurd h1 g1
  · exact absurd g1 h1
  · exact ⟨rfl, rfl, rfl, rfl, rfl⟩
theorem brunU_fn (N : Net) (hF : N.Fits) (A : Option Addr) (c b o : Nat) (hA : N.arcs ≠ [] → A = some ⟨b, o, none⟩) : Fn 8 [netV N A c] [] [.seg b o (arcs N.arcs)] fun u H' => ∃ (e v : Int) (p k s : Nat) (bd : Int), OutB N e v p k bd ∧ (e = 0 ∨ s = 0) ∧ u = .tuple #[countV v p k s bd, .int .i64 e] ∧ H' = [] := by
  by_cases hz : checkZ N = 0
  · refine (brun_fn N hF (checkZ_zero hz) A c b o hA).mono ?_
    rintro u H' ⟨f, p, k, s, hd, _, _, _, rfl, rfl⟩
    exact ⟨0, _, p, k, s, _, .inl ⟨hz, rfl, rfl, f, hd, rfl⟩, .inl rfl, rfl, rfl⟩
  · refine (brunErr_fn N hF hz A c b o hA).mono ?_
    rintro u H' ⟨rfl, rfl⟩
    exact ⟨_, 0, 0, 0, 0, 0, .inr ⟨hz, rfl, rfl, rfl, rfl, rfl⟩, .inr rfl, rfl, rfl⟩
def rcountV (v p k b : Int) : Value := .agg #[.int .i64 v, .int .i64 p, .int .i64 k, .int .i64 b]
theorem rrunB_fn (N : Net) (hF : N.Fits) (A : Option Addr) (c b o : Nat) (hA : N.arcs ≠ [] → A = some ⟨b, o, none⟩) : Fn 9 [netV N A c] [] [.seg b o (arcs N.arcs)] fun u H' => ∃ (e v : Int) (p k : Nat) (bd : Int), OutB N e v p k bd ∧ u = .tuple #[rcountV v p k bd, .int .i64 e] ∧ H' = [] := by
  refine Fn_ofC Tryz.func9 rfl rfl fun w0 => ?_
  (repeat' (first | refine J_seq ?_ | refine J_skip ?_ | refine J_yes rfl ?_ | refine J_no rfl ?_))
  refine J_region ?_
  refine JL_box (cs := netC N A c) rfl rfl rfl (fun _ => rfl) fun p1 => ?_
  refine JL_alloc rfl rfl rfl (fun _ => rfl) fun p2 => ?_
  refine JL_all [] rfl ?_
  (repeat' (first | refine J_seq ?_ | refine J_skip ?_ | refine J_yes rfl ?_ | refine J_no rfl ?_))
  refine J_region ?_
  refine JL_val [] (v := netV N A c) (OpV_blk 1 rfl rfl rfl rfl) rfl ?_
  refine JL_callR [] (rbound_fn N hF A c b o hA) rfl rfl rfl rfl (by kernel_rfl) ⟨⟨2, _, by simp, rfl, shows_seg _ _ _, seen_seg⟩, trivial⟩ (fun _ => rfl) ?_
  rintro v H' ⟨rfl, rfl⟩
  refine ⟨rfl, ?_⟩
  by_cases hz : checkZ N = 0
  case neg =>
    rw [if_neg hz]
    refine JL_all [] rfl ?_
    (repeat' (first | refine J_seq ?_ | refine J_skip ?_ | refine J_yes rfl ?_ | refine J_no rfl ?_))
    refine J_region ?_
    refine JL_all [] rfl ?_
    refine J_dec rfl (fun _ => ?_) (fun h => absurd hz h)
    (repeat' (first | refine J_seq ?_ | refine J_skip ?_ | refine J_yes rfl ?_ | refine J_no rfl ?_))
    refine J_region ?_
    refine JL_val [] (v := rcountV 0 0 0 0) (OpV_build rfl rfl rfl rfl rfl rfl) rfl ?_
    refine JL_run [] rfl ?_
    refine JL_store 0 rfl rfl rfl rfl rfl [] rfl ?_
    refine JL_all [] rfl ?_
    (repeat' (first | refine J_seq ?_ | refine J_skip ?_ | refine J_yes rfl ?_ | refine J_no rfl ?_))
    refine J_ret ?_
    exact ⟨[_, _], [], _, ⟨⟨p2, 0, _, _, rfl, rfl, rfl⟩, rfl, trivial⟩, by decide, rfl, _, 0, 0, 0, 0, .inr ⟨hz, rfl, rfl, rfl, rfl, rfl⟩, rfl, rfl⟩
  have hR := checkZ_zero hz
  have hln := hR.len
  rw [if_pos hz]
  refine JL_all [] rfl ?_
  (repeat' (first | refine J_seq ?_ | refine J_skip ?_ | refine J_yes rfl ?_ | refine J_no rfl ?_))
  refine J_region ?_
  refine JL_all [] rfl ?_
  refine J_dec rfl (fun h => absurd rfl h) (fun _ => J_skip ?_)
  (repeat' (first | refine J_seq ?_ | refine J_skip ?_ | refine J_yes rfl ?_ | refine J_no rfl ?_))
  refine J_region ?_
  refine JL_val [] (v := netV N A c) (OpV_blk 1 rfl rfl rfl rfl) rfl ?_
  refine JL_callR [] (rmaxU_fn N hF (by omega) A c b o hA 116) rfl rfl rfl rfl (by kernel_rfl) ⟨⟨2, _, by simp, rfl, shows_seg _ _ _, seen_seg⟩, trivial⟩ (fun _ => rfl) ?_
  rintro v H' ⟨e, f, p, k, Aa, ca, ho, rfl, rfl⟩
  rcases ho with ⟨_, _, rfl, hd⟩ | ⟨_, h, _⟩ | ⟨h, _⟩
  case inr.inl => exact absurd (.inr rfl) h
  case inr.inr => exact absurd (errZ_zero.2 ⟨hR, zeroFlow N hR, by decide⟩) h
  obtain ⟨hf, _⟩ := hd.keeps hR (by decide) (zeroFlow N hR)
  have hfl := hf.len
  refine ⟨rfl, ?_⟩
  refine JL_run [] rfl ?_
  refine JL_alloc rfl rfl rfl (fun _ => rfl) fun p6 => ?_
  refine JL_store 0 rfl rfl rfl rfl rfl [] rfl ?_
  refine JL_all [] rfl ?_
  refine J_know (own_is 1 rfl) fun ⟨_, _, hAa, hla⟩ => ?_
  obtain ⟨ga, hAa⟩ := own_at hAa hla
  have hAa' : f ≠ [] → Aa = some ⟨ga, 0, none⟩ := fun h => hAa (by simpa [ints] using h)
  (repeat' (first | refine J_seq ?_ | refine J_skip ?_ | refine J_yes rfl ?_ | refine J_no rfl ?_))
  refine J_region ?_
  refine JL_val [] (v := netV N A c) (OpV_blk 3 rfl rfl rfl rfl) rfl ?_
  refine JL_run [] rfl ?_
  refine JL_val [] (v := .slice Aa f.length ca) (OpV_blk 0 rfl rfl rfl rfl) rfl ?_
  refine JL_callR [] (rvalue_fn N hF hR A c b o hA f hf Aa ca ga 0 hAa') rfl rfl rfl rfl (by kernel_rfl) ⟨⟨4, _, by simp, rfl, shows_seg _ _ _, seen_seg⟩, ⟨1, _, by simp, rfl, shows_ownS hAa, seen_ownS hAa⟩, trivial⟩ (fun _ => rfl) ?_
  rintro v H' ⟨rfl, rfl⟩
  refine ⟨rfl, ?_⟩
  refine JL_all [] rfl ?_
  (repeat' (first | refine J_seq ?_ | refine J_skip ?_ | refine J_yes rfl ?_ | refine J_no rfl ?_))
  refine J_region ?_
  refine JL_run [] rfl ?_
  refine JL_val [] (v := .int .i64 p) (OpV_blk 0 rfl rfl rfl rfl) rfl ?_
  refine JL_run [] rfl ?_
  refine JL_val [] (v := .int .i64 k) (OpV_blk 0 rfl rfl rfl rfl) rfl ?_
  refine JL_run [] rfl ?_
  refine JL_val [] (OpV_build rfl rfl rfl rfl rfl rfl) rfl ?_
  refine JL_store 2 rfl rfl rfl rfl rfl [] rfl ?_
  refine JL_all [] rfl ?_
  refine J_ret ?_
  exact ⟨[_, _], [], _, ⟨⟨p2, 2, _, _, rfl, rfl, rfl⟩, rfl, trivial⟩, by decide, rfl, 0, _, p, k, _, .inl ⟨hz, rfl, rfl, f, hd, rfl⟩, rfl, rfl⟩
end Go.Proofs.YtfogkbmbmaganaaGreat
