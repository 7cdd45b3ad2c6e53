/- The engine and the words that all chapters share: several texts in one. -/
import Derived.Test.YtfogkbmbmaganaaGreatChainP
import Derived.Test.YtfogkbmbmaganaaGreatQX23
import Derived.Test.YtfogkbmbmaganaaGreatQX17
import Derived.Test.YtfogkbmbmaganaaGreatQX15
import Derived.Test.YtfogkbmbmaganaaGreatQX5
import Derived.Test.YtfogkbmbmaganaaGreatNumL
import Derived.Test.YtfogkbmbmaganaaGreatQX8

/- Chapter 12's example, in plain terms; phases find but one thing. -/
set_option linter.unusedVariables false
set_option linter.unusedSimpArgs false
namespace Go.Proofs.YtfogkbmbmaganaaGreat
open Go.RowKit
theorem Dn.uniq {N : Net} (hR : N.Right) {least : Int} (hle : 1 ≤ least) {f f1 : List Int} {p1 k1 : Nat} (h : Dn N least f p1 k1 f1) : ∀ {f2 : List Int} {p2 k2 : Nat}, Dn N least f p2 k2 f2 → f1 = f2 ∧ p1 = p2 ∧ k1 = k2 := by
  induction h with
  | stop h1 h2 =>
    intro f2 p2 k2 h
    cases h with
    | stop _ _ => exact ⟨rfl, rfl, rfl⟩
    | step j1 j2 _ _ => rw [lev_eq j1 h1] at j2; omega
  | step h1 h2 h3 _ ih =>
    intro f2 p2 k2 h
    cases h with
    | stop j1 j2 => rw [lev_eq j1 h1] at j2; omega
    | step j1 j2 j3 j4 =>
      obtain ⟨rfl, rfl⟩ := h3.uniq hR j3
      obtain ⟨e1, e2, e3⟩ := ih j4
      exact ⟨e1, by omega, by omega⟩
end Go.Proofs.YtfogkbmbmaganaaGreat


/- What comes of phases, as one word: of any network, by either engine or none. -/
set_option linter.unusedVariables false
set_option linter.unusedSimpArgs false
namespace Go.Proofs.YtfogkbmbmaganaaGreat
open Go.RowKit
def Out (N : Net) (f : List Int) (least sg e : Int) (p k : Nat) (f' : List Int) : Prop :=
  (errZ N f least = 0 ∧ (sg = 112 ∨ sg = 116) ∧ e = 0 ∧ Dn N least f p k f') ∨
  (errZ N f least = 0 ∧ ¬ (sg = 112 ∨ sg = 116) ∧ e = 1 ∧ p = 0 ∧ k = 0 ∧ f' = []) ∨
  (errZ N f least ≠ 0 ∧ e = errZ N f least ∧ p = 0 ∧ k = 0 ∧ f' = [])
def rrunU (N : Net) (f : List Int) (least sg : Int) (v : Value) (H' : Heap) : Prop :=
  ∃ (e : Int) (f' : List Int) (p k : Nat) (A' : Option Addr) (c' : Nat), Out N f least sg e p k f' ∧ v = .tuple #[rrunV A' f'.length c' p k, .int .i64 e] ∧ H' = [.own (.slice A' f'.length c') 2 1 f'.length (ints f')]
theorem Fn.addnil {g : FuncId} {args : List Value} {H : Heap} {R R' : Value → Heap → Prop} (e sz : Nat) (h : Fn g args [] H R) (hr : ∀ v H', R v H' → R' v H' ∨ R' v (.own (.slice none 0 0) e sz 0 [] :: H')) : Fn g args [] H R' := fun w hw =>
  (h w hw).mono fun _ _ ⟨v, H', h1, h2, h3⟩ => (hr v H' h3).elim (fun h => ⟨v, H', h1, h2, h⟩) (fun h => ⟨v, _, h1, h2.addnil e sz, h⟩)
theorem rfromR_U {N : Net} {f : List Int} {least sg : Int} {v : Value} {H' : Heap} (h : rfromR N f least sg v H') : rrunU N f least sg v H' ∨ rrunU N f least sg v (.own (.slice none 0 0) 2 1 0 [] :: H') := by
  rcases h with ⟨he, hs, f', p, k, A', c', hd, rfl, rfl⟩ | ⟨he, h1, h2, rfl, rfl⟩ | ⟨he, rfl, rfl⟩
  · exact .inl ⟨0, f', p, k, A', c', .inl ⟨he, hs, rfl, hd⟩, rfl, rfl⟩
  · exact .inr ⟨1, [], 0, 0, none, 0, .inr (.inl ⟨he, by omega, rfl, rfl, rfl, rfl⟩), rfl, rfl⟩
  · exact .inr ⟨_, [], 0, 0, none, 0, .inr (.inr ⟨he, rfl, rfl, rfl, rfl⟩), rfl, rfl⟩
theorem rmaxU_fn (N : Net) (hN : N.Fits) (hl2 : N.arcs.length ≤ 2000) (A : Option Addr) (c b o : Nat) (hA : N.arcs ≠ [] → A = some ⟨b, o, none⟩) (sg : Int) :
    Fn 27 [netV N A c, .int .u8 sg] [] [.seg b o (arcs N.arcs)] (rrunU N (List.replicate N.arcs.length 0) 1 sg) :=
  (rmax_fn N hN hl2 A c b o hA sg).addnil 2 1 fun _ _ => rfromR_U
end Go.Proofs.YtfogkbmbmaganaaGreat


/- A run of what is no network. -/
set_option linter.unusedVariables false
set_option linter.unusedSimpArgs false
namespace Go.Proofs.YtfogkbmbmaganaaGreat
open Go.RowKit
theorem brunErr_fn (N : Net) (hF : N.Fits) (hz : checkZ N ≠ 0) (A : Option Addr) (c b o : Nat) (hA : N.arcs ≠ [] → A = some ⟨b, o, none⟩) : Fn 8 [netV N A c] [] [.seg b o (arcs N.arcs)] fun v H' => v = .tuple #[countV 0 0 0 0 0, .int .i64 (checkZ N)] ∧ H' = [] := by
  refine Fn_ofC Tryz.func8 rfl rfl fun w0 => ?_
  (repeat' (first | refine J_seq ?_ | refine J_skip ?_ | refine J_yes rfl ?_ | refine J_no rfl ?_))
  refine J_region ?_
  refine JL_box (cs := netC N A c) rfl rfl rfl (fun _ => rfl) fun p1 => ?_
  refine JL_alloc rfl rfl rfl (fun _ => rfl) fun p2 => ?_
  refine JL_all [] rfl ?_
  (repeat' (first | refine J_seq ?_ | refine J_skip ?_ | refine J_yes rfl ?_ | refine J_no rfl ?_))
  refine J_region ?_
  refine JL_val [] (v := netV N A c) (OpV_blk 1 rfl rfl rfl rfl) rfl ?_
  refine JL_callR [] (bound_fn N hF A c b o hA) rfl rfl rfl rfl (by kernel_rfl) ⟨⟨2, _, by simp, rfl, shows_seg _ _ _, seen_seg⟩, trivial⟩ (fun _ => rfl) ?_
  rintro v H' ⟨rfl, rfl⟩
  refine ⟨rfl, ?_⟩
  rw [if_neg hz]
  refine JL_all [] rfl ?_
  (repeat' (first | refine J_seq ?_ | refine J_skip ?_ | refine J_yes rfl ?_ | refine J_no rfl ?_))
  refine J_region ?_
  refine JL_all [] rfl ?_
  refine J_dec rfl (fun _ => ?_) (fun h => absurd hz h)
  (repeat' (first | refine J_seq ?_ | refine J_skip ?_ | refine J_yes rfl ?_ | refine J_no rfl ?_))
  refine J_region ?_
  refine JL_val [] (v := countV 0 0 0 0 0) (OpV_build rfl rfl rfl rfl rfl rfl) rfl ?_
  refine JL_run [] rfl ?_
  refine JL_store 0 rfl rfl rfl rfl rfl [] rfl ?_
  refine JL_all [] rfl ?_
  (repeat' (first | refine J_seq ?_ | refine J_skip ?_ | refine J_yes rfl ?_ | refine J_no rfl ?_))
  refine J_ret ?_
  exact ⟨[_, _], [], _, ⟨⟨p2, 0, _, _, rfl, rfl, rfl⟩, rfl, trivial⟩, by decide, rfl, rfl, rfl⟩
end Go.Proofs.YtfogkbmbmaganaaGreat


/- The document's answers to layer 1: what they are, for all numbers. -/
set_option linter.unusedVariables false
set_option linter.unusedSimpArgs false
namespace Go.Proofs.YtfogkbmbmaganaaGreat
open Go.RowKit
end Go.Proofs.YtfogkbmbmaganaaGreat


/- The document's answers to layer 1, those that turn round, and its product. -/
set_option linter.unusedVariables false
set_option linter.unusedSimpArgs false
namespace Go.Proofs.YtfogkbmbmaganaaGreat
open Go.RowKit
theorem pow_lt_inv {i j : Nat} (h : 2 ^ i < 2 ^ j) : i < j := by
  refine Nat.lt_of_not_le fun hc => ?_
  have := Nat.pow_le_pow_right (n := 2) (by decide) hc
  omega
theorem log_spec' {n : Int} (h' : n ≤ 9223372036854775807) : n ≤ ((2 ^ logOf n : Nat) : Int) ∧ (logOf n = 0 ∨ ((2 ^ (logOf n - 1) : Nat) : Int) < n) ∧ logOf n ≤ 63 := by
  by_cases h : 1 ≤ n
  · exact log_spec h h'
  · unfold logOf; rw [if_pos (by omega)]; simp; omega
theorem rlog_fn (n : Int) (hn : inB n) : Fn 43 [.int .i64 n] [] [] fun v H' => v = .int .i64 (logOf n : Nat) ∧ H' = [] := by
  obtain ⟨g1, g2, g3⟩ := log_spec' hn.2
  obtain ⟨L, hL⟩ : ∃ L : Nat, L = logOf n := ⟨_, rfl⟩
  rw [← hL] at g1 g2 g3 ⊢
  refine Fn_of Tryz.func43 rfl rfl fun w0 => ?_
  (repeat' (first | refine J_seq ?_ | refine J_skip ?_ | refine J_yes rfl ?_ | refine J_no rfl ?_))
  refine J_region ?_
  refine JL_all [] rfl ?_
  (repeat' (first | refine J_seq ?_ | refine J_skip ?_ | refine J_yes rfl ?_ | refine J_no rfl ?_))
  refine J_region ?_
  refine JL_all [] rfl ?_
  (repeat' (first | refine J_seq ?_ | refine J_skip ?_ | refine J_yes rfl ?_ | refine J_no rfl ?_))
  refine J_block ?_
  refine J_loop (σ := Nat) (fun k => [(3, .int .i64 k), (0, .int .i64 n), (2, .int .i64 0)]) (fun _ => []) (fun k => k ≤ L) (fun k => L - k) 0 [] ⟨rfl, rfl, rfl, trivial⟩ (by decide) rfl (Nat.zero_le _) ?_
  intro k hk
  by_cases h63 : k < 63
  · have hP : 2 ^ k ≤ 2 ^ 62 := Nat.pow_le_pow_right (by decide) (by omega)
    have hP1 := Nat.two_pow_pos k
    (repeat' (first | refine J_seq ?_ | refine J_skip ?_ | refine J_yes rfl ?_ | refine J_no rfl ?_))
    refine J_region ?_
    refine JL_run [] rfl ?_
    refine JL_set 6 (v' := .bool true) rfl (congrArg Value.bool (cdec_yes (by omega))) ?_
    refine JL_run [2] rfl ?_
    refine JL_val [2] (OpV_shl rfl rfl rfl) rfl ?_
    refine JL_set 9 (v' := .int .i64 ((2 ^ k : Nat) : Int)) rfl (congrArg (Value.int .i64) ?_) ?_
    · rw [Int.one_mul, Nat.min_eq_left (by simp [IntKind.bits]; omega), show ((2 : Int) ^ k) = ((2 ^ k : Nat) : Int) by norm_cast]
      exact w64 (by omega)
    refine JL_all [2] rfl ?_
    refine J_dec rfl (fun h => J_skip ?_) (fun h => J_exit ?_)
    · have hkL : k < L := pow_lt_inv (by omega)
      refine J_block ?_
      (repeat' (first | refine J_seq ?_ | refine J_skip ?_ | refine J_yes rfl ?_ | refine J_no rfl ?_))
      refine J_region ?_
      refine JL_all [] rfl ?_
      refine ⟨k + 1, [], ⟨?_, rfl, rfl, trivial⟩, by decide, rfl, hkL, by omega⟩
      show some (Value.int .i64 (IntKind.i64.wrap ((k : Int) + 1))) = _
      rw [w64 (by omega)]; rfl
    · have hkL : L ≤ k := by
        rcases g2 with g2 | g2
        · omega
        · have := pow_lt_inv (i := L - 1) (j := k) (by omega)
          omega
      obtain rfl : k = L := Nat.le_antisymm hk hkL
      (repeat' (first | refine J_seq ?_ | refine J_skip ?_ | refine J_yes rfl ?_ | refine J_no rfl ?_))
      refine J_region ?_
      refine JL_all [] rfl ?_
      exact J_ret ⟨_, rfl, rfl, rfl⟩
  · (repeat' (first | refine J_seq ?_ | refine J_skip ?_ | refine J_yes rfl ?_ | refine J_no rfl ?_))
    refine J_region ?_
    refine JL_run [] rfl ?_
    refine JL_set 6 (v' := .bool false) rfl (congrArg Value.bool (cdec_no (by omega))) ?_
    refine JL_all [2] rfl ?_
    refine J_no rfl (J_exit ?_)
    obtain rfl : k = L := by omega
    (repeat' (first | refine J_seq ?_ | refine J_skip ?_ | refine J_yes rfl ?_ | refine J_no rfl ?_))
    refine J_region ?_
    refine JL_all [] rfl ?_
    exact J_ret ⟨_, rfl, rfl, rfl⟩
end Go.Proofs.YtfogkbmbmaganaaGreat


/- What the reference reckons ahead. -/
set_option linter.unusedVariables false
set_option linter.unusedSimpArgs false
namespace Go.Proofs.YtfogkbmbmaganaaGreat
open Go.RowKit
theorem rmost_fn (N : Net) (h1 : 2 ≤ N.nodes) (h2 : N.nodes ≤ 500) (h3 : N.arcs.length ≤ 2001) (A : Option Addr) (c : Nat) : Fn 24 [netV N A c] [] [] fun v H' => v = .int .i64 (mostZ N) ∧ H' = [] := by
  obtain ⟨k1, k2⟩ := levelZ_in h1 h2
  obtain ⟨m1, m2, m3, m4⟩ := mostZ_in h1 h2 h3
  refine Fn_of Tryz.func24 rfl rfl fun w0 => ?_
  (repeat' (first | refine J_seq ?_ | refine J_skip ?_ | refine J_yes rfl ?_ | refine J_no rfl ?_))
  refine J_region ?_
  refine JL_box (cs := netC N A c) rfl rfl rfl (fun _ => rfl) fun p => ?_
  refine JL_all [] rfl ?_
  (repeat' (first | refine J_seq ?_ | refine J_skip ?_ | refine J_yes rfl ?_ | refine J_no rfl ?_))
  refine J_region ?_
  refine JL_run [] rfl ?_
  refine JL_val [] (v := .int .i64 N.nodes) (OpV_blk 0 rfl rfl rfl rfl) rfl ?_
  refine JL_callR [] (rlog_fn N.nodes (by unfold inB; omega)) rfl rfl rfl rfl (by kernel_rfl) trivial (fun _ => rfl) ?_
  rintro v H' ⟨rfl, rfl⟩
  refine ⟨rfl, ?_⟩
  refine JL_evO (gs := [999]) rfl ?_
  refine JL_set 7 (v' := .int .i64 (levelZ N)) rfl (congrArg (Value.int .i64) (w64 (n := 2 + (logOf N.nodes : Nat)) (by unfold levelZ at k2; omega))) ?_
  refine JL_all [] rfl ?_
  (repeat' (first | refine J_seq ?_ | refine J_skip ?_ | refine J_yes rfl ?_ | refine J_no rfl ?_))
  refine J_region ?_
  refine JL_run [] rfl ?_
  refine JL_val [] (v := .int .i64 N.nodes) (OpV_blk 0 rfl rfl rfl rfl) rfl ?_
  refine JL_run [] rfl ?_
  refine JL_val [] (v := .slice A N.arcs.length c) (OpV_blk 0 rfl rfl rfl rfl) rfl ?_
  refine JL_all [] rfl ?_
  refine J_drop [] (by decide) rfl (J_ret ⟨_, rfl, congrArg (Value.int .i64) ?_, rfl⟩)
  rw [w64 (n := N.nodes + N.arcs.length) (by omega), w64 (n := 20000 * (N.nodes + N.arcs.length)) (by omega), w64 (n := 20000 * (N.nodes + N.arcs.length) * levelZ N) (by omega), w64 (by unfold mostZ at m3 m4; omega)]
  rfl
end Go.Proofs.YtfogkbmbmaganaaGreat
