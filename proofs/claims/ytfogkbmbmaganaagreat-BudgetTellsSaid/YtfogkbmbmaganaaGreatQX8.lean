/- The engine and the words that all chapters share: several texts in one. -/
import Derived.Test.YtfogkbmbmaganaaGreatQB
import Derived.Test.YtfogkbmbmaganaaGreatQC
import Derived.Test.YtfogkbmbmaganaaGreatNumL

/- Layer 1: what Sum answers: for every row of numbers; and what its closure does. -/
set_option linter.unusedVariables false
set_option linter.unusedSimpArgs false
namespace Go.Proofs.YtfogkbmbmaganaaGreat
open Go.RowKit

end Go.Proofs.YtfogkbmbmaganaaGreat


/- What is reckoned ahead, and shares of it. -/
set_option linter.unusedVariables false
set_option linter.unusedSimpArgs false
namespace Go.Proofs.YtfogkbmbmaganaaGreat
open Go.RowKit
def levelZ (N : Net) : Int := 2 + (logOf N.nodes : Nat)
def mostZ (N : Net) : Int := 20000 * (N.nodes + N.arcs.length) * levelZ N * levelZ N
theorem levelZ_in {N : Net} (h1 : 2 ≤ N.nodes) (h2 : N.nodes ≤ 500) : 3 ≤ levelZ N ∧ levelZ N ≤ 11 := by
  obtain ⟨g1, g2, _⟩ := log_spec (n := N.nodes) (by omega) (by omega)
  unfold levelZ
  have hne : logOf N.nodes ≠ 0 := by
    intro h; rw [h] at g1; simp at g1; omega
  have g3 := g2.resolve_left hne
  have : logOf N.nodes - 1 < 9 := by
    refine Nat.lt_of_not_le fun hc => ?_
    have : 2 ^ 9 ≤ 2 ^ (logOf N.nodes - 1) := Nat.pow_le_pow_right (by decide) hc
    omega
  omega
theorem mostZ_in {N : Net} (h1 : 2 ≤ N.nodes) (h2 : N.nodes ≤ 500) (h3 : N.arcs.length ≤ 2001) : 0 < 20000 * (N.nodes + N.arcs.length) * levelZ N ∧ 20000 * (N.nodes + N.arcs.length) * levelZ N ≤ 600000000 ∧ 0 < mostZ N ∧ mostZ N ≤ 6600000000 := by
  obtain ⟨k1, k2⟩ := levelZ_in h1 h2
  have m1 : 0 < 20000 * (N.nodes + N.arcs.length) * levelZ N := Int.mul_pos (by omega) (by omega)
  have m2 : 20000 * (N.nodes + N.arcs.length) * levelZ N ≤ 50020000 * 11 := Int.mul_le_mul (by omega) k2 (by omega) (by omega)
  have m3 : 0 < mostZ N := Int.mul_pos m1 (by omega)
  have m4 : mostZ N ≤ 600000000 * 11 := Int.mul_le_mul (by omega) k2 (by omega) (by omega)
  omega
theorem most_fn (N : Net) (h1 : 2 ≤ N.nodes) (h2 : N.nodes ≤ 500) (h3 : N.arcs.length ≤ 2001) (A : Option Addr) (c : Nat) : Fn 22 [netV N A c] [] [] fun v H' => v = .int .i64 (mostZ N) ∧ H' = [] := by
  obtain ⟨k1, k2⟩ := levelZ_in h1 h2
  obtain ⟨m1, m2, m3, m4⟩ := mostZ_in h1 h2 h3
  refine Fn_of Tryz.func22 rfl rfl fun w0 => ?_
  (repeat' (first | refine J_seq ?_ | refine J_skip ?_ | refine J_yes rfl ?_ | refine J_no rfl ?_))
  refine J_region ?_
  refine JL_box (cs := netC N A c) rfl rfl rfl (fun _ => rfl) fun p => ?_
  refine JL_all [] rfl ?_
  (repeat' (first | refine J_seq ?_ | refine J_skip ?_ | refine J_yes rfl ?_ | refine J_no rfl ?_))
  refine J_region ?_
  refine JL_run [] rfl ?_
  refine JL_val [] (OpV_blk 0 rfl rfl rfl rfl) rfl ?_
  refine JL_callR [] (log_fn N.nodes (by unfold inB; omega)) rfl rfl rfl rfl (by kernel_rfl) trivial (fun _ => rfl) ?_
  rintro v H' ⟨rfl, rfl⟩
  refine ⟨rfl, ?_⟩
  refine JL_run [] rfl ?_
  refine JL_set 3 (v' := .int .i64 (levelZ N)) rfl (congrArg (Value.int .i64) (w64 (n := 2 + (logOf N.nodes : Nat)) (by unfold levelZ at k2; omega))) ?_
  refine JL_nil ?_
  (repeat' (first | refine J_seq ?_ | refine J_skip ?_ | refine J_yes rfl ?_ | refine J_no rfl ?_))
  refine J_region ?_
  refine JL_run [] rfl ?_
  refine JL_val [] (OpV_blk 0 rfl rfl rfl rfl) rfl ?_
  refine JL_run [] rfl ?_
  refine JL_val [] (OpV_blk 0 rfl rfl rfl rfl) rfl ?_
  refine JL_all [] rfl ?_
  refine J_drop [] (by decide) rfl (J_ret ⟨_, rfl, congrArg (Value.int .i64) ?_, rfl⟩)
  rw [w64 (n := N.nodes + N.arcs.length) (by omega), w64 (n := 20000 * (N.nodes + N.arcs.length)) (by omega), w64 (n := 20000 * (N.nodes + N.arcs.length) * levelZ N) (by omega), w64 (by unfold mostZ at m3 m4; omega)]
  rfl
theorem times_fn {a b : Int} (ha : inB a) (hb : inB b) (h : inB (a * b)) : Fn 21 [.int .i64 a, .int .i64 b] [] [] fun v H' => v = .int .i64 (a * b) ∧ H' = [] := by
  have T := mul_fn ha hb
  rw [orErr_in h] at T
  refine Fn_of Tryz.func21 rfl rfl fun w0 => ?_
  (repeat' (first | refine J_seq ?_ | refine J_skip ?_ | refine J_yes rfl ?_ | refine J_no rfl ?_))
  refine J_region ?_
  refine JL_all [] rfl ?_
  (repeat' (first | refine J_seq ?_ | refine J_skip ?_ | refine J_yes rfl ?_ | refine J_no rfl ?_))
  refine J_region ?_
  refine JL_run [] rfl ?_
  refine JL_callR [] (T) rfl rfl rfl rfl (by kernel_rfl) trivial (fun _ => rfl) ?_
  rintro v H' ⟨rfl, rfl⟩
  refine ⟨rfl, ?_⟩
  refine JL_all [] rfl ?_
  (repeat' (first | refine J_seq ?_ | refine J_skip ?_ | refine J_yes rfl ?_ | refine J_no rfl ?_))
  refine J_region ?_
  refine JL_all [] rfl ?_
  refine J_dec rfl (fun hx => absurd rfl hx) (fun _ => J_skip ?_)
  (repeat' (first | refine J_seq ?_ | refine J_skip ?_ | refine J_yes rfl ?_ | refine J_no rfl ?_))
  refine J_region ?_
  refine JL_all [] rfl ?_
  exact J_ret ⟨_, rfl, rfl, rfl⟩
def boundZ (N : Net) : Int := (N.nodes - 1) * mostZ N
theorem boundZ_in {N : Net} (h1 : 2 ≤ N.nodes) (h2 : N.nodes ≤ 500) (h3 : N.arcs.length ≤ 2001) : 0 < boundZ N ∧ boundZ N ≤ 3300000000000 := by
  obtain ⟨m1, m2, m3, m4⟩ := mostZ_in h1 h2 h3
  have a1 : 0 < boundZ N := Int.mul_pos (by omega) m3
  have a2 : boundZ N ≤ 500 * 6600000000 := Int.mul_le_mul (by omega) m4 (by omega) (by omega)
  omega
theorem bound_fn (N : Net) (hN : N.Fits) (A : Option Addr) (c b o : Nat) (hA : N.arcs ≠ [] → A = some ⟨b, o, none⟩) : Fn 6 [netV N A c] [] [.seg b o (arcs N.arcs)] fun v H' => v = two (if checkZ N = 0 then (boundZ N, 0) else (0, checkZ N)) ∧ H' = [] := by
  refine Fn_of Tryz.func6 rfl rfl fun w0 => ?_
  (repeat' (first | refine J_seq ?_ | refine J_skip ?_ | refine J_yes rfl ?_ | refine J_no rfl ?_))
  refine J_region ?_
  refine JL_box (cs := netC N A c) rfl rfl rfl (fun _ => rfl) fun p => ?_
  refine JL_all [] rfl ?_
  (repeat' (first | refine J_seq ?_ | refine J_skip ?_ | refine J_yes rfl ?_ | refine J_no rfl ?_))
  refine J_region ?_
  refine JL_val [] (v := netV N A c) (OpV_blk 0 rfl rfl rfl rfl) rfl ?_
  refine JL_callR [] (check_fn N hN A c b o hA) rfl rfl rfl rfl (by kernel_rfl) ⟨⟨1, _, by simp, rfl, shows_seg _ _ _, seen_seg⟩, trivial⟩ (fun _ => rfl) ?_
  rintro v H' ⟨rfl, rfl⟩
  refine ⟨rfl, ?_⟩
  refine JL_all [] rfl ?_
  (repeat' (first | refine J_seq ?_ | refine J_skip ?_ | refine J_yes rfl ?_ | refine J_no rfl ?_))
  refine J_region ?_
  refine JL_all [] rfl ?_
  refine J_dec rfl (fun h => ?_) (fun h => J_skip ?_)
  · rw [if_neg h]
    (repeat' (first | refine J_seq ?_ | refine J_skip ?_ | refine J_yes rfl ?_ | refine J_no rfl ?_))
    refine J_region ?_
    refine JL_all [] rfl ?_
    exact J_drop [] (by decide) rfl (J_ret ⟨_, rfl, rfl, rfl⟩)
  have hz : checkZ N = 0 := Classical.not_not.1 h
  have hR := checkZ_zero hz
  have h1 := hR.nodes
  have h3 := hR.len
  rw [if_pos hz]
  obtain ⟨m1, m2, m3, m4⟩ := mostZ_in h1.1 h1.2 (by omega)
  obtain ⟨n1, n2⟩ := boundZ_in h1.1 h1.2 (by omega)
  (repeat' (first | refine J_seq ?_ | refine J_skip ?_ | refine J_yes rfl ?_ | refine J_no rfl ?_))
  refine J_walk 8 [(0, true), (1, true), (2, true), (3, true), (4, false), (5, false), (6, true), (7, true)] [0] (by kernel_rfl) (by decide) rfl ?_
  refine JW_run [] rfl ?_
  refine JW_still [] rfl (OpV_blk 0 rfl rfl rfl rfl) rfl ?_
  refine JW_run [] rfl ?_
  refine JW_set 12 (v' := .int .i64 (N.nodes - 1)) rfl (congrArg (Value.int .i64) (w64 (by omega))) ?_
  refine JW_still [] rfl (v := netV N A c) (OpV_blk 0 rfl rfl rfl rfl) rfl ?_
  refine JW_eff rfl ?_
  refine JL_callR [] (most_fn N h1.1 h1.2 (by omega) A c) rfl rfl rfl rfl (by kernel_rfl) trivial (fun _ => rfl) ?_
  rintro v H' ⟨rfl, rfl⟩
  refine ⟨rfl, JL_nil ⟨⟨[0], by decide, rfl⟩, ?_⟩⟩
  refine JW_eff rfl ?_
  refine JL_callR [] (times_fn (a := N.nodes - 1) (b := mostZ N) (by unfold inB; omega) (by unfold inB; omega) (by unfold boundZ at n1 n2; unfold inB; omega)) rfl rfl rfl rfl (by kernel_rfl) trivial (fun _ => rfl) ?_
  rintro v H' ⟨rfl, rfl⟩
  refine ⟨rfl, JL_nil ⟨⟨[0], by decide, rfl⟩, ?_⟩⟩
  refine JW_all [] rfl ?_
  refine JL_nil ?_
  exact J_drop [] (by decide) rfl (J_ret ⟨_, rfl, rfl, rfl⟩)
def countV (v p k s b : Int) : Value := .agg #[.int .i64 v, .int .i64 p, .int .i64 k, .int .i64 s, .int .i64 b]
theorem shareD_ret (b1 b2 : Nat) (x y : Value) : FnD 29 [.pointer (some ⟨b1, 0, none⟩), .pointer (some ⟨b2, 0, none⟩)] .returning .returning [b1, b2] [blk b1 2 [x], blk b2 28 [y]]
    fun H' => H' = [blk b1 2 [x], blk b2 28 [y]] := by
  refine FnD_of (v := .nilIface) (d := 5) Tryz.func29 rfl rfl rfl rfl rfl rfl rfl (fun c cs h => .inr ⟨recover_none c cs h, rfl, rfl⟩) fun w0 => ?_
  refine J_block ?_
  (repeat' (first | refine J_seq ?_ | refine J_skip ?_ | refine J_yes rfl ?_ | refine J_no rfl ?_))
  refine J_region ?_
  refine JL_all [] rfl ?_
  refine J_yes rfl ?_
  refine J_region ?_
  refine JL_all [] rfl ?_
  exact ⟨_, rfl, rfl⟩
open Classical in
noncomputable def shareZ (s b : Int) : Int × Int := if b < 1 ∨ s < 0 then (0, 1) else (Int.tdiv (1000 * s) b, 0)
def shareQ (b1 b2 : Nat) (r : Int × Int) : Post := fun e E H => match e with
  | .ret => look E 2 = some (.pointer (some ⟨b1, 0, none⟩)) ∧ look E 3 = some (.pointer (some ⟨b2, 0, none⟩)) ∧ ∃ ix : List Nat, ix.Nodup ∧ picks H ix = some [blk b1 2 [.int .i64 r.1], blk b2 28 [.int .i64 r.2]]
  | _ => False
theorem share_fn (v p k s b : Int) (hs : inB s) (hp : 0 ≤ s → inB (1000 * s)) : Fn 10 [countV v p k s b] [] [] fun v H' => v = two (shareZ s b) ∧ H' = [] := by
  refine Fn_ofD Tryz.func10 rfl rfl fun w0 => ?_
  refine W_seq (J_region ?_)
  refine JL_box (cs := [.int .i64 v, .int .i64 p, .int .i64 k, .int .i64 s, .int .i64 b]) rfl rfl rfl (fun _ => rfl) fun b0 => ?_
  refine JL_alloc rfl rfl rfl (fun _ => rfl) fun b1 => ?_
  refine JL_alloc rfl rfl rfl (fun _ => rfl) fun b2 => ?_
  refine JL_nil ?_
  refine W_defer (cap := [.pointer (some ⟨b1, 0, none⟩), .pointer (some ⟨b2, 0, none⟩)]) rfl rfl rfl rfl rfl rfl rfl ?_
  refine W_of (Q := shareQ b1 b2 (shareZ s b)) ?_ ?_
  · refine J_seq ?_
    (repeat' (first | refine J_seq ?_ | refine J_skip ?_ | refine J_yes rfl ?_ | refine J_no rfl ?_))
    (repeat' (first | refine J_seq ?_ | refine J_skip ?_ | refine J_yes rfl ?_ | refine J_no rfl ?_))
    refine J_region ?_
    refine JL_run [] rfl ?_
    refine JL_val [] (OpV_blk 2 rfl rfl rfl rfl) rfl ?_
    refine JL_run [] rfl ?_
    by_cases g1 : b < 1
    · refine JL_set 8 (v' := .bool true) rfl (congrArg Value.bool (cdec_yes g1)) ?_
      refine JL_all [3] rfl ?_
      refine J_yes rfl ?_
      (repeat' (first | refine J_seq ?_ | refine J_skip ?_ | refine J_yes rfl ?_ | refine J_no rfl ?_))
      refine J_region ?_
      refine JL_store 1 rfl rfl rfl rfl rfl [] rfl ?_
      refine JL_store 0 rfl rfl rfl rfl rfl [] rfl ?_
      refine JL_nil (J_ret ?_)
      exact ⟨rfl, rfl, [1, 0], by decide, by unfold shareZ; rw [if_pos (.inl g1)]; rfl⟩
    refine JL_set 8 (v' := .bool false) rfl (congrArg Value.bool (cdec_no g1)) ?_
    refine JL_run [3] rfl ?_
    refine JL_val [3] (OpV_blk 2 rfl rfl rfl rfl) rfl ?_
    refine JL_all [3] rfl ?_
    refine J_dec rfl (fun g2 => ?_) (fun g2 => J_skip ?_)
    · (repeat' (first | refine J_seq ?_ | refine J_skip ?_ | refine J_yes rfl ?_ | refine J_no rfl ?_))
      refine J_region ?_
      refine JL_store 1 rfl rfl rfl rfl rfl [] rfl ?_
      refine JL_store 0 rfl rfl rfl rfl rfl [] rfl ?_
      refine JL_nil (J_ret ?_)
      exact ⟨rfl, rfl, [1, 0], by decide, by unfold shareZ; rw [if_pos (.inr g2)]; rfl⟩
    have hp' := hp (by omega)
    have hq : shareZ s b = (Int.tdiv (1000 * s) b, 0) := by unfold shareZ; rw [if_neg (by omega)]
    have hd : 0 ≤ Int.tdiv (1000 * s) b ∧ Int.tdiv (1000 * s) b ≤ 1000 * s := by
      rw [Int.tdiv_eq_ediv_of_nonneg (by omega)]
      exact ⟨Int.ediv_nonneg (by omega) (by omega), Int.ediv_le_self _ (by omega)⟩
    (repeat' (first | refine J_seq ?_ | refine J_skip ?_ | refine J_yes rfl ?_ | refine J_no rfl ?_))
    refine J_walk 6 [(0, true), (1, true), (3, true), (4, true), (2, false), (5, true)] [2] (by kernel_rfl) (by decide) rfl ?_
    refine JW_run [] rfl ?_
    refine JW_still [] rfl (OpV_blk 0 rfl rfl rfl rfl) rfl ?_
    refine JW_run [] rfl ?_
    refine JW_still [] rfl (OpV_blk 0 rfl rfl rfl rfl) rfl ?_
    refine JW_eff rfl ?_
    refine JL_callR [] (times_fn (a := 1000) (b := s) (by decide) hs hp') rfl rfl rfl rfl (by kernel_rfl) trivial (fun _ => rfl) ?_
    rintro v H' ⟨rfl, rfl⟩
    refine ⟨rfl, JL_nil ⟨⟨[2], by decide, rfl⟩, ?_⟩⟩
    refine JW_still [] rfl (OpV_quo rfl rfl rfl (by omega)) rfl ?_
    refine JW_nil ?_
    refine JL_store 1 rfl rfl rfl rfl rfl [] rfl ?_
    refine JL_store 0 rfl rfl rfl rfl rfl [] rfl ?_
    refine JL_nil (J_ret ?_)
    refine ⟨rfl, rfl, [1, 0], by decide, ?_⟩
    rw [hq]
    have e : IntKind.i64.wrap (Int.tdiv (1000 * s) b) = Int.tdiv (1000 * s) b := w64 (by unfold inB at hp'; omega)
    rw [e]; rfl
  · rintro e a w ⟨E, H, hAg, hH, hq⟩
    cases e with
    | ret =>
      obtain ⟨h1, h2, ix, h3, h4⟩ := hq
      exact door ix rfl hAg hH h1 h2 h3 h4 (by kernel_rfl) (by simp) rfl (shareD_ret b1 b2 _ _) rfl rfl ⟨rfl, rfl⟩
    | _ => exact hq.elim
end Go.Proofs.YtfogkbmbmaganaaGreat
