/- The engine and the words that all chapters share: several texts in one. -/
import Derived.Test.YtcgcimnjknadjaaQB
import Derived.Test.YtcgcimnjknadjaaQC
import Derived.Test.YtcgcimnjknadjaaNumL

/- Layer 1: what Sum answers: for every row of numbers; and what its closure does. -/
set_option linter.unusedVariables false
set_option linter.unusedSimpArgs false
namespace Go.Proofs.Ytcgcimnjknadjaa
open Go.RowKit

/-- A row's sum, or that it goes beyond. -/
def sumL : Int → List Int → Int × Int
  | n, [] => (n, 0)
  | n, x :: l => if inB (n + x) then sumL (n + x) l else (0, 3)
end Go.Proofs.Ytcgcimnjknadjaa


/- What is reckoned ahead, and shares of it. -/
set_option linter.unusedVariables false
set_option linter.unusedSimpArgs false
namespace Go.Proofs.Ytcgcimnjknadjaa
open Go.RowKit
def levelZ (N : Net) : Int := 2 + (logOf N.nodes : Nat)
def mostZ (N : Net) : Int := 20000 * (N.nodes + N.arcs.length) * levelZ N * levelZ N
theorem levelZ_in {N : Net} (h1 : 2 ≤ N.nodes) (h2 : N.nodes ≤ 500) : 3 ≤ levelZ N ∧ levelZ N ≤ 11 := by
  obtain ⟨g1, g2, _⟩ := log_spec (n := N.nodes) (by omega) (by omega)
  unfold levelZ
  have hne : logOf N.nodes ≠ 0 := by
    intro h; rw [h] at g1; simp at g1; omega
  have g3 := g2.resolve_left hne
  have : logOf N.nodes - 1 < 9 := by
    refine Nat.lt_of_not_le fun hc => ?_
    have : 2 ^ 9 ≤ 2 ^ (logOf N.nodes - 1) := Nat.pow_le_pow_right (by decide) hc
    omega
  omega
theorem mostZ_in {N : Net} (h1 : 2 ≤ N.nodes) (h2 : N.nodes ≤ 500) (h3 : N.arcs.length ≤ 2001) : 0 < 20000 * (N.nodes + N.arcs.length) * levelZ N ∧ 20000 * (N.nodes + N.arcs.length) * levelZ N ≤ 600000000 ∧ 0 < mostZ N ∧ mostZ N ≤ 6600000000 := by
  obtain ⟨k1, k2⟩ := levelZ_in h1 h2
  have m1 : 0 < 20000 * (N.nodes + N.arcs.length) * levelZ N := Int.mul_pos (by omega) (by omega)
  have m2 : 20000 * (N.nodes + N.arcs.length) * levelZ N ≤ 50020000 * 11 := Int.mul_le_mul (by omega) k2 (by omega) (by omega)
  have m3 : 0 < mostZ N := Int.mul_pos m1 (by omega)
  have m4 : mostZ N ≤ 600000000 * 11 := Int.mul_le_mul (by omega) k2 (by omega) (by omega)
  omega
theorem most_fn (N : Net) (h1 : 2 ≤ N.nodes) (h2 : N.nodes ≤ 500) (h3 : N.arcs.length ≤ 2001) (A : Option Addr) (c : Nat) : Fn 24 [netV N A c] [] [] fun v H' => v = .int .i64 (mostZ N) ∧ H' = [] := by
  obtain ⟨k1, k2⟩ := levelZ_in h1 h2
  obtain ⟨m1, m2, m3, m4⟩ := mostZ_in h1 h2 h3
  refine Fn_of Try.func24 rfl rfl fun w0 => ?_
  (repeat' (first | refine J_seq ?_ | refine J_skip ?_ | refine J_yes rfl ?_ | refine J_no rfl ?_))
  refine J_region ?_
  refine JL_box (cs := netC N A c) rfl rfl rfl (fun _ => rfl) fun p => ?_
  refine JL_all [] rfl ?_
  (repeat' (first | refine J_seq ?_ | refine J_skip ?_ | refine J_yes rfl ?_ | refine J_no rfl ?_))
  refine J_region ?_
  refine JL_run [] rfl ?_
  refine JL_val [] (OpV_blk 0 rfl rfl rfl rfl) rfl ?_
  refine JL_callR [] (log_fn N.nodes (by unfold inB; omega)) rfl rfl rfl rfl (by kernel_rfl) trivial (fun _ => rfl) ?_
  rintro v H' ⟨rfl, rfl⟩
  refine ⟨rfl, ?_⟩
  refine JL_run [] rfl ?_
  refine JL_set 3 (v' := .int .i64 (levelZ N)) rfl (congrArg (Value.int .i64) (w64 (n := 2 + (logOf N.nodes : Nat)) (by unfold levelZ at k2; omega))) ?_
  refine JL_nil ?_
  (repeat' (first | refine J_seq ?_ | refine J_skip ?_ | refine J_yes rfl ?_ | refine J_no rfl ?_))
  refine J_region ?_
  refine JL_run [] rfl ?_
  refine JL_val [] (OpV_blk 0 rfl rfl rfl rfl) rfl ?_
  refine JL_run [] rfl ?_
  refine JL_val [] (OpV_blk 0 rfl rfl rfl rfl) rfl ?_
  refine JL_all [] rfl ?_
  refine J_drop [] (by decide) rfl (J_ret ⟨_, rfl, congrArg (Value.int .i64) ?_, rfl⟩)
  rw [w64 (n := N.nodes + N.arcs.length) (by omega), w64 (n := 20000 * (N.nodes + N.arcs.length)) (by omega), w64 (n := 20000 * (N.nodes + N.arcs.length) * levelZ N) (by omega), w64 (by unfold mostZ at m3 m4; omega)]
  rfl
def boundZ (N : Net) : Int := (N.nodes - 1) * mostZ N
theorem boundZ_in {N : Net} (h1 : 2 ≤ N.nodes) (h2 : N.nodes ≤ 500) (h3 : N.arcs.length ≤ 2001) : 0 < boundZ N ∧ boundZ N ≤ 3300000000000 := by
  obtain ⟨m1, m2, m3, m4⟩ := mostZ_in h1 h2 h3
  have a1 : 0 < boundZ N := Int.mul_pos (by omega) m3
  have a2 : boundZ N ≤ 500 * 6600000000 := Int.mul_le_mul (by omega) m4 (by omega) (by omega)
  omega
def countV (v p k s b : Int) : Value := .agg #[.int .i64 v, .int .i64 p, .int .i64 k, .int .i64 s, .int .i64 b]
open Classical in
/-- The share, or what is wrong. -/
noncomputable def shareZ (s b : Int) : Int × Int := if b < 1 ∨ s < 0 then (0, 1) else (Int.tdiv (1000 * s) b, 0)
def shareQ (b1 b2 : Nat) (r : Int × Int) : Post := fun e E H => match e with
  | .ret => look E 2 = some (.pointer (some ⟨b1, 0, none⟩)) ∧ look E 3 = some (.pointer (some ⟨b2, 0, none⟩)) ∧ ∃ ix : List Nat, ix.Nodup ∧ picks H ix = some [blk b1 2 [.int .i64 r.1], blk b2 31 [.int .i64 r.2]]
  | _ => False
end Go.Proofs.Ytcgcimnjknadjaa


/- The document's answers to layer 1: what they are, for all numbers. -/
set_option linter.unusedVariables false
set_option linter.unusedSimpArgs false
namespace Go.Proofs.Ytcgcimnjknadjaa
open Go.RowKit
theorem two_yes {n m : Int} (h : inB n) (e : m = n) : Value.tuple #[.int .i64 m, .int .i64 0] = two (orErr n) := by rw [orErr_in h, e]; rfl
theorem two_no {n : Int} (h : ¬ inB n) : Value.tuple #[.int .i64 0, .int .i64 3] = two (orErr n) := by rw [orErr_out h]; rfl
end Go.Proofs.Ytcgcimnjknadjaa


/- The document's answers to layer 1, those that turn round, and its product. -/
set_option linter.unusedVariables false
set_option linter.unusedSimpArgs false
namespace Go.Proofs.Ytcgcimnjknadjaa
open Go.RowKit
theorem orErr_two (n : Int) : (inB n ∧ orErr n = (n, 0)) ∨ (¬ inB n ∧ orErr n = (0, 3)) := by
  by_cases h : inB n
  · exact .inl ⟨h, orErr_in h⟩
  · exact .inr ⟨h, orErr_out h⟩
theorem pow_lt_inv {i j : Nat} (h : 2 ^ i < 2 ^ j) : i < j := by
  refine Nat.lt_of_not_le fun hc => ?_
  have := Nat.pow_le_pow_right (n := 2) (by decide) hc
  omega
theorem log_spec' {n : Int} (h' : n ≤ 9223372036854775807) : n ≤ ((2 ^ logOf n : Nat) : Int) ∧ (logOf n = 0 ∨ ((2 ^ (logOf n - 1) : Nat) : Int) < n) ∧ logOf n ≤ 63 := by
  by_cases h : 1 ≤ n
  · exact log_spec h h'
  · unfold logOf; rw [if_pos (by omega)]; simp; omega
theorem rlog_fn (n : Int) (hn : inB n) : Fn 55 [.int .i64 n] [] [] fun v H' => v = .int .i64 (logOf n : Nat) ∧ H' = [] := by
  obtain ⟨g1, g2, g3⟩ := log_spec' hn.2
  obtain ⟨L, hL⟩ : ∃ L : Nat, L = logOf n := ⟨_, rfl⟩
  rw [← hL] at g1 g2 g3 ⊢
  refine Fn_of Try.func55 rfl rfl fun w0 => ?_
  (repeat' (first | refine J_seq ?_ | refine J_skip ?_ | refine J_yes rfl ?_ | refine J_no rfl ?_))
  refine J_region ?_
  refine JL_all [] rfl ?_
  (repeat' (first | refine J_seq ?_ | refine J_skip ?_ | refine J_yes rfl ?_ | refine J_no rfl ?_))
  refine J_region ?_
  refine JL_all [] rfl ?_
  (repeat' (first | refine J_seq ?_ | refine J_skip ?_ | refine J_yes rfl ?_ | refine J_no rfl ?_))
  refine J_block ?_
  refine J_loop (σ := Nat) (fun k => [(3, .int .i64 k), (0, .int .i64 n), (2, .int .i64 0)]) (fun _ => []) (fun k => k ≤ L) (fun k => L - k) 0 [] ⟨rfl, rfl, rfl, trivial⟩ (by decide) rfl (Nat.zero_le _) ?_
  intro k hk
  by_cases h63 : k < 63
  · have hP : 2 ^ k ≤ 2 ^ 62 := Nat.pow_le_pow_right (by decide) (by omega)
    have hP1 := Nat.two_pow_pos k
    (repeat' (first | refine J_seq ?_ | refine J_skip ?_ | refine J_yes rfl ?_ | refine J_no rfl ?_))
    refine J_region ?_
    refine JL_run [] rfl ?_
    refine JL_set 6 (v' := .bool true) rfl (congrArg Value.bool (cdec_yes (by omega))) ?_
    refine JL_run [2] rfl ?_
    refine JL_val [2] (OpV_shl rfl rfl rfl) rfl ?_
    refine JL_set 9 (v' := .int .i64 ((2 ^ k : Nat) : Int)) rfl (congrArg (Value.int .i64) ?_) ?_
    · rw [Int.one_mul, Nat.min_eq_left (by simp [IntKind.bits]; omega), show ((2 : Int) ^ k) = ((2 ^ k : Nat) : Int) by norm_cast]
      exact w64 (by omega)
    refine JL_all [2] rfl ?_
    refine J_dec rfl (fun h => J_skip ?_) (fun h => J_exit ?_)
    · have hkL : k < L := pow_lt_inv (by omega)
      refine J_block ?_
      (repeat' (first | refine J_seq ?_ | refine J_skip ?_ | refine J_yes rfl ?_ | refine J_no rfl ?_))
      refine J_region ?_
      refine JL_all [] rfl ?_
      refine ⟨k + 1, [], ⟨?_, rfl, rfl, trivial⟩, by decide, rfl, hkL, by omega⟩
      show some (Value.int .i64 (IntKind.i64.wrap ((k : Int) + 1))) = _
      rw [w64 (by omega)]; rfl
    · have hkL : L ≤ k := by
        rcases g2 with g2 | g2
        · omega
        · have := pow_lt_inv (i := L - 1) (j := k) (by omega)
          omega
      obtain rfl : k = L := Nat.le_antisymm hk hkL
      (repeat' (first | refine J_seq ?_ | refine J_skip ?_ | refine J_yes rfl ?_ | refine J_no rfl ?_))
      refine J_region ?_
      refine JL_all [] rfl ?_
      exact J_ret ⟨_, rfl, rfl, rfl⟩
  · (repeat' (first | refine J_seq ?_ | refine J_skip ?_ | refine J_yes rfl ?_ | refine J_no rfl ?_))
    refine J_region ?_
    refine JL_run [] rfl ?_
    refine JL_set 6 (v' := .bool false) rfl (congrArg Value.bool (cdec_no (by omega))) ?_
    refine JL_all [2] rfl ?_
    refine J_no rfl (J_exit ?_)
    obtain rfl : k = L := by omega
    (repeat' (first | refine J_seq ?_ | refine J_skip ?_ | refine J_yes rfl ?_ | refine J_no rfl ?_))
    refine J_region ?_
    refine JL_all [] rfl ?_
    exact J_ret ⟨_, rfl, rfl, rfl⟩
theorem le_quo {x y M : Int} (hy : 0 < y) (hM : 0 ≤ M) : x ≤ M.tdiv y ↔ x * y ≤ M := by
  rw [Int.tdiv_eq_ediv_of_nonneg hM, Int.le_ediv_iff_mul_le hy]
theorem top_prod {x y M : Int} (hx : 0 < x) (hM : 0 ≤ M) : (y = M.tdiv x + 1 ∧ M.tmod x = x - 1) ↔ x * y = M + 1 := by
  rw [Int.tdiv_eq_ediv_of_nonneg hM, Int.tmod_eq_emod_of_nonneg hM]
  have h1 := Int.mul_ediv_add_emod M x
  have h2 := Int.emod_nonneg M (by omega : x ≠ 0)
  have h3 := Int.emod_lt_of_pos M hx
  constructor
  · rintro ⟨rfl, h⟩
    rw [Int.mul_add, Int.mul_one]
    omega
  · intro h
    have e : M = x * (y - 1) + (x - 1) := by rw [Int.mul_sub, Int.mul_one]; omega
    have q : M / x = y - 1 := by
      rw [e, Int.mul_add_ediv_left _ _ (by omega : x ≠ 0), Int.ediv_eq_zero_of_lt (by omega) (by omega)]
      omega
    rw [q] at h1
    refine ⟨by omega, ?_⟩
    rw [Int.mul_sub, Int.mul_one] at h1
    omega
theorem quo_in {M y : Int} (hy : 0 < y) (hM : 0 ≤ M) : 0 ≤ M.tdiv y ∧ M.tdiv y ≤ M := by
  rw [Int.tdiv_eq_ediv_of_nonneg hM]
  exact ⟨Int.ediv_nonneg hM (by omega), Int.ediv_le_self _ hM⟩
end Go.Proofs.Ytcgcimnjknadjaa
