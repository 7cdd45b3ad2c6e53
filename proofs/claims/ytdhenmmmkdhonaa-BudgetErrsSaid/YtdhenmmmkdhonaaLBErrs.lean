
/- BudgetErrs: of a network that has something wrong neither a bound nor a run is told, but just what is wrong. No condition. -/
import Derived.Test.YtdhenmmmkdhonaaBudT
import Derived.Test.YtdhenmmmkdhonaaRwN
import Derived.Laws.StructEq
import Derived.ChangeKeysEq
set_option linter.unusedVariables false
set_option linter.unusedSimpArgs false
namespace Go.Proofs.Ytdhenmmmkdhonaa
open Go.RowKit
theorem count_eq (w : World) (a b c d e : Int) : (Op.equalIn 10000 31 (.agg #[.int .i64 a, .int .i64 b, .int .i64 c, .int .i64 d, .int .i64 e]) (.agg #[.int .i64 a, .int .i64 b, .int .i64 c, .int .i64 d, .int .i64 e])).run Try.prog w = .ok true w := by
  have h2 : ∀ (i : Nat) (v : Value), #[Value.int .i64 a, .int .i64 b, .int .i64 c, .int .i64 d, .int .i64 e][i]? = some v → (part 2 #[Value.int .i64 a, .int .i64 b, .int .i64 c, .int .i64 d, .int .i64 e] i).run Try.prog w = .ok v w := fun i v h => run_part_plain w (by kernel_rfl) h
  have h3 : ∀ (i : Nat) (v : Value), #[Value.int .i64 a, .int .i64 b, .int .i64 c, .int .i64 d, .int .i64 e][i]? = some v → (part 3 #[Value.int .i64 a, .int .i64 b, .int .i64 c, .int .i64 d, .int .i64 e] i).run Try.prog w = .ok v w := fun i v h => run_part_plain w (by kernel_rfl) h
  have g2 : ∀ x y : Int, (Op.equalIn 9999 2 (.int .i64 x) (.int .i64 y)).run Try.prog w = .ok (x == y) w := fun x y => run_equalIn_int w 9998 2 .i64 .i64 x y Try.underlying2
  have g3 : ∀ x y : Int, (Op.equalIn 9999 3 (.int .i64 x) (.int .i64 y)).run Try.prog w = .ok (x == y) w := fun x y => run_equalIn_int w 9998 3 .i64 .i64 x y Try.underlying3
  rw [run_equalIn_agg w 9999 31 _ _ (by simp [Program.fieldsOf, Try.underlying31]) Try.stoodInHeld31]
  simp only [Program.fieldsOf, Try.underlying31, Op.eqFields, Sem.run_bind, Sem.run_ite, Sem.run_pure]
  simp [h2 0 _ rfl, h3 1 _ rfl, h3 2 _ rfl, h2 3 _ rfl, h2 4 _ rfl, g2, g3]
theorem OpV_count_same {X : Cx} {E : Env} {H : Heap} {o : Oper} {t' : Nat} {x y : Operand} {a b c d e : Int} (ho : o.op = .binOp .eql 31 x y t') (hx : val E x = some (.agg #[.int .i64 a, .int .i64 b, .int .i64 c, .int .i64 d, .int .i64 e])) (hy : val E y = some (.agg #[.int .i64 a, .int .i64 b, .int .i64 c, .int .i64 d, .int .i64 e])) :
    OpV X o E H (.bool true) := by
  intro ac w hA hH
  simp [execOp, ho, hA.val hx, hA.val hy, run_eqGuard_agg w .eql 31 _ _ _ _ Try.eqGuardType31, run_eql_struct, count_eq]
/-- A run of what is no network. -/
theorem brunErr_fn (N : Net) (hF : N.Fits) (hz : checkZ N ≠ 0) (A : Option Addr) (c b o : Nat) (hA : N.arcs ≠ [] → A = some ⟨b, o, none⟩) : Fn 10 [netV N A c] [] [.seg b o (arcs N.arcs)] fun v H' => v = .tuple #[countV 0 0 0 0 0, .int .i64 (checkZ N)] ∧ H' = [] := by
  refine Fn_ofC Try.func10 rfl rfl fun w0 => ?_
  (repeat' (first | refine J_seq ?_ | refine J_skip ?_ | refine J_yes rfl ?_ | refine J_no rfl ?_))
  refine J_region ?_
  refine JL_box (cs := netC N A c) rfl rfl rfl (fun _ => rfl) fun p1 => ?_
  refine JL_alloc rfl rfl rfl (fun _ => rfl) fun p2 => ?_
  refine JL_all [] rfl ?_
  (repeat' (first | refine J_seq ?_ | refine J_skip ?_ | refine J_yes rfl ?_ | refine J_no rfl ?_))
  refine J_region ?_
  refine JL_val [] (v := netV N A c) (OpV_blk 1 rfl rfl rfl rfl) rfl ?_
  refine JL_callR [] (bound_fn N hF A c b o hA) rfl rfl rfl rfl (by kernel_rfl) ⟨⟨2, _, by simp, rfl, shows_seg _ _ _, seen_seg⟩, trivial⟩ (fun _ => rfl) ?_
  rintro v H' ⟨rfl, rfl⟩
  refine ⟨rfl, ?_⟩
  rw [if_neg hz]
  refine JL_all [] rfl ?_
  (repeat' (first | refine J_seq ?_ | refine J_skip ?_ | refine J_yes rfl ?_ | refine J_no rfl ?_))
  refine J_region ?_
  refine JL_all [] rfl ?_
  refine J_dec rfl (fun _ => ?_) (fun h => absurd hz h)
  (repeat' (first | refine J_seq ?_ | refine J_skip ?_ | refine J_yes rfl ?_ | refine J_no rfl ?_))
  refine J_region ?_
  refine JL_val [] (v := countV 0 0 0 0 0) (OpV_build rfl rfl rfl rfl rfl rfl) rfl ?_
  refine JL_run [] rfl ?_
  refine JL_store 0 rfl rfl rfl rfl rfl [] rfl ?_
  refine JL_all [] rfl ?_
  (repeat' (first | refine J_seq ?_ | refine J_skip ?_ | refine J_yes rfl ?_ | refine J_no rfl ?_))
  refine J_ret ?_
  exact ⟨[_, _], [], _, ⟨⟨p2, 0, _, _, rfl, rfl, rfl⟩, rfl, trivial⟩, by decide, rfl, rfl, rfl⟩
set_option maxHeartbeats 4000000 in
theorem budgetErrs_fn (nd : Int) (hnd : inB nd) (sr : Int) (hsr : inB sr) (sk : Int) (hsk : inB sk) (A : Option Addr) (c b o : Nat) (l : List Arc) (hA : l ≠ [] → A = some ⟨b, o, none⟩) (hl : ∀ x ∈ l, inB x.fr ∧ inB x.to ∧ inB x.cap) (hs : l.length * 24 ≤ 140737488351232) :
    Fn 3 [.agg #[.int .i64 nd, .int .i64 sr, .int .i64 sk, .slice A l.length c]] [] [.seg b o (arcs l)] fun v _ => v = .bool true := by
  obtain ⟨N, hN⟩ : ∃ N : Net, N = ⟨nd, sr, sk, l⟩ := ⟨_, rfl⟩
  have hF : N.Fits := by rw [hN]; exact ⟨hnd, hsr, hsk, hs, hl⟩
  have hA' : N.arcs ≠ [] → A = some ⟨b, o, none⟩ := by rw [hN]; exact hA
  have key : Fn 3 [netV N A c] [] [.seg b o (arcs N.arcs)] fun v _ => v = .bool true := by
    clear hN hnd hsr hsk hs hl hA
    have hlen := hF.len
    refine Fn_of Try.func3 rfl rfl fun w0 => ?_
    (repeat' (first | refine J_seq ?_ | refine J_skip ?_ | refine J_yes rfl ?_ | refine J_no rfl ?_))
    refine J_region ?_
    refine JL_box (cs := netC N A c) rfl rfl rfl (fun _ => rfl) fun p1 => ?_
    refine JL_all [] rfl ?_
    (repeat' (first | refine J_seq ?_ | refine J_skip ?_ | refine J_yes rfl ?_ | refine J_no rfl ?_))
    refine J_region ?_
    refine JL_callR [] (shown18_fn) rfl rfl rfl rfl (by kernel_rfl) trivial (fun _ => rfl) ?_
    rintro v H' ⟨rfl, rfl⟩
    refine ⟨rfl, ?_⟩
    refine JL_all [] rfl ?_
    (repeat' (first | refine J_seq ?_ | refine J_skip ?_ | refine J_yes rfl ?_ | refine J_no rfl ?_))
    refine J_region ?_
    refine JL_evO (gs := [999]) rfl ?_
    refine JL_evO (gs := [999]) rfl ?_
    refine JL_evO (gs := [999]) rfl ?_
    refine JL_set 12 (v' := .bool false) rfl rfl ?_
    refine JL_run [2] rfl ?_
    refine JL_val [2] (v := .slice A N.arcs.length c) (OpV_blk 0 rfl rfl rfl rfl) rfl ?_
    refine JL_evO (gs := [2]) rfl ?_
    refine JL_evO (gs := [2]) rfl ?_
    refine JL_evO (gs := [2]) rfl ?_
    refine JL_evO (gs := [2]) rfl ?_
    by_cases h60 : (60 : Int) < N.arcs.length
    · refine JL_set 18 (v' := .bool true) rfl (congrArg Value.bool (cdec_yes h60)) ?_
      refine JL_all [2, 8] rfl ?_
      (repeat' (first | refine J_seq ?_ | refine J_skip ?_ | refine J_yes rfl ?_ | refine J_no rfl ?_))
      (repeat' (first | refine J_seq ?_ | refine J_skip ?_ | refine J_yes rfl ?_ | refine J_no rfl ?_))
      refine J_region ?_
      refine JL_all [] rfl ?_
      exact J_ret ⟨_, rfl, rfl⟩
    refine JL_set 18 (v' := .bool false) rfl (congrArg Value.bool (cdec_no h60)) ?_
    refine JL_run [2, 8] rfl ?_
    refine JL_val [2, 8] (v := .int .i64 N.nodes) (OpV_blk 0 rfl rfl rfl rfl) rfl ?_
    refine JL_all [2, 8] rfl ?_
    (repeat' (first | refine J_seq ?_ | refine J_skip ?_ | refine J_yes rfl ?_ | refine J_no rfl ?_))
    refine J_dec rfl (fun _ => ?_) (fun h30 => J_skip ?_)
    · (repeat' (first | refine J_seq ?_ | refine J_skip ?_ | refine J_yes rfl ?_ | refine J_no rfl ?_))
      refine J_region ?_
      refine JL_all [] rfl ?_
      exact J_ret ⟨_, rfl, rfl⟩
    (repeat' (first | refine J_seq ?_ | refine J_skip ?_ | refine J_yes rfl ?_ | refine J_no rfl ?_))
    refine J_region ?_
    refine JL_val [] (v := netV N A c) (OpV_blk 0 rfl rfl rfl rfl) rfl ?_
    refine JL_callR [] (check_fn N hF A c b o hA') rfl rfl rfl rfl (by kernel_rfl) ⟨⟨1, _, by simp, rfl, shows_seg _ _ _, seen_seg⟩, trivial⟩ (fun _ => rfl) ?_
    rintro v H' ⟨rfl, rfl⟩
    refine ⟨rfl, ?_⟩
    refine JL_all [] rfl ?_
    (repeat' (first | refine J_seq ?_ | refine J_skip ?_ | refine J_yes rfl ?_ | refine J_no rfl ?_))
    refine J_region ?_
    refine JL_val [] (v := netV N A c) (OpV_blk 0 rfl rfl rfl rfl) rfl ?_
    refine JL_callR [] (bound_fn N hF A c b o hA') rfl rfl rfl rfl (by kernel_rfl) ⟨⟨1, _, by simp, rfl, shows_seg _ _ _, seen_seg⟩, trivial⟩ (fun _ => rfl) ?_
    rintro v H' ⟨rfl, rfl⟩
    refine ⟨rfl, ?_⟩
    by_cases hz : checkZ N = 0
    · have hR := checkZ_zero hz
      have hnn := hR.nodes
      have hln := hR.len
      obtain ⟨_, _, m1, m2⟩ := mostZ_in hnn.1 hnn.2 (show N.arcs.length ≤ 2001 by omega)
      obtain ⟨bz1, bz2⟩ := boundZ_in hnn.1 hnn.2 (show N.arcs.length ≤ 2001 by omega)
      rw [if_pos hz, hz]
      refine JL_all [] rfl ?_
      (repeat' (first | refine J_seq ?_ | refine J_skip ?_ | refine J_yes rfl ?_ | refine J_no rfl ?_))
      refine J_region ?_
      refine JL_val [] (v := netV N A c) (OpV_blk 0 rfl rfl rfl rfl) rfl ?_
      refine JL_callR [] (brun_fn N hF hR A c b o hA') rfl rfl rfl rfl (by kernel_rfl) ⟨⟨1, _, by simp, rfl, shows_seg _ _ _, seen_seg⟩, trivial⟩ (fun _ => rfl) ?_
      rintro v H' ⟨fb, p, k, s, hdb, hp, _, hs2, rfl, rfl⟩
      refine ⟨rfl, ?_⟩
      refine JL_run [] rfl ?_
      refine JL_alloc rfl rfl rfl (fun _ => rfl) fun b7 => ?_
      refine JL_store 0 rfl rfl rfl rfl rfl [] rfl ?_
      refine JL_all [] rfl ?_
      (repeat' (first | refine J_seq ?_ | refine J_skip ?_ | refine J_yes rfl ?_ | refine J_no rfl ?_))
      refine J_region ?_
      refine JL_evO (gs := [999]) rfl ?_
      refine JL_evO (gs := [999]) rfl ?_
      refine JL_evO (gs := [999]) rfl ?_
      refine JL_evO (gs := [999]) rfl ?_
      refine JL_set 39 (v' := .bool false) rfl (congrArg Value.bool (cdec_no (fun h => h rfl))) ?_
      refine JL_all [3] rfl ?_
      (repeat' (first | refine J_seq ?_ | refine J_skip ?_ | refine J_yes rfl ?_ | refine J_no rfl ?_))
      refine J_dec rfl (fun h => absurd rfl h) (fun _ => J_skip ?_)
      (repeat' (first | refine J_seq ?_ | refine J_skip ?_ | refine J_yes rfl ?_ | refine J_no rfl ?_))
      refine J_region ?_
      refine JL_all [] rfl ?_
      (repeat' (first | refine J_seq ?_ | refine J_skip ?_ | refine J_yes rfl ?_ | refine J_no rfl ?_))
      refine J_dec rfl (fun h => absurd rfl h) (fun _ => J_skip ?_)
      (repeat' (first | refine J_seq ?_ | refine J_skip ?_ | refine J_yes rfl ?_ | refine J_no rfl ?_))
      refine J_walk 26 [(0, true), (1, true), (2, true), (3, true), (4, true), (5, true), (6, true), (7, true), (8, true), (9, true), (10, true), (11, false), (12, true), (13, true), (14, true), (15, true), (16, true), (17, true), (20, true), (21, true), (22, true), (18, false), (19, true), (23, true), (24, true), (25, true)] [0, 1] (by kernel_rfl) (by decide) rfl ?_
      refine JW_evO (gs := []) rfl rfl ?_
      refine JW_evO (gs := []) rfl rfl ?_
      refine JW_evO (gs := []) rfl rfl ?_
      refine JW_set 55 (v' := .bool true) rfl (congrArg Value.bool (cdec_yes bz1)) ?_
      refine JW_run [2] rfl ?_
      refine JW_still [2] rfl (OpV_blk (v := .int .i64 (boundZ N)) 0 rfl rfl rfl rfl) rfl ?_
      refine JW_run [2] rfl ?_
      refine JW_set 61 (v' := .bool true) rfl (congrArg Value.bool (cdec_yes rfl)) ?_
      refine JW_run [2, 8] rfl ?_
      refine JW_still [2, 8] rfl (OpV_blk (v := netV N A c) 1 rfl rfl rfl rfl) rfl ?_
      refine JW_eff rfl ?_
      refine JL_callR [2, 8] (most_fn N hnn.1 hnn.2 (by omega) A c) rfl rfl rfl rfl (by kernel_rfl) trivial (fun _ => rfl) ?_
      rintro _ H' ⟨rfl, rfl⟩
      refine ⟨rfl, JL_nil ⟨⟨[0, 1], by decide, rfl⟩, ?_⟩⟩
      refine JW_still [2, 8] rfl (OpV_rem rfl rfl rfl (by omega)) rfl ?_
      have e1 : (boundZ N).tmod (mostZ N) = 0 := by unfold boundZ; exact Int.mul_tmod_left _ _
      have e2 : IntKind.i64.wrap ((boundZ N).tdiv (mostZ N)) = N.nodes - 1 := by
        have : (boundZ N).tdiv (mostZ N) = N.nodes - 1 := by unfold boundZ; exact Int.mul_tdiv_cancel _ (by omega)
        rw [this, w64 (by omega)]
      refine JW_set 65 (v' := .int .i64 0) rfl (congrArg (Value.int .i64) e1) ?_
      refine JW_run [2, 8] rfl ?_
      refine JW_set 68 (v' := .bool true) rfl (congrArg Value.bool (cdec_yes rfl)) ?_
      refine JW_run [2, 8, 15] rfl ?_
      refine JW_still [2, 8, 15] rfl (OpV_blk (v := netV N A c) 1 rfl rfl rfl rfl) rfl ?_
      refine JW_run [2, 8, 15] rfl ?_
      refine JW_still [2, 8, 15] rfl (OpV_blk (v := .int .i64 N.nodes) 1 rfl rfl rfl rfl) rfl ?_
      refine JW_run [2, 8, 15] rfl ?_
      refine JW_set 75 (v' := .int .i64 (N.nodes - 1)) rfl (congrArg (Value.int .i64) (w64 (by omega))) ?_
      refine JW_eff rfl ?_
      refine JL_callR [2, 8, 15] (most_fn N hnn.1 hnn.2 (by omega) A c) rfl rfl rfl rfl (by kernel_rfl) trivial (fun _ => rfl) ?_
      rintro _ H' ⟨rfl, rfl⟩
      refine ⟨rfl, JL_nil ⟨⟨[0, 1], by decide, rfl⟩, ?_⟩⟩
      refine JW_still [2, 8, 15] rfl (OpV_quo rfl rfl rfl (by omega)) rfl ?_
      refine JW_set 72 (v' := .int .i64 (N.nodes - 1)) rfl (congrArg (Value.int .i64) e2) ?_
      refine JW_all [2, 8, 15] rfl ?_
      refine JL_nil ?_
      exact J_ret ⟨_, rfl, congrArg Value.bool (cdec_yes rfl)⟩
    · rw [if_neg hz]
      refine JL_all [] rfl ?_
      (repeat' (first | refine J_seq ?_ | refine J_skip ?_ | refine J_yes rfl ?_ | refine J_no rfl ?_))
      refine J_region ?_
      refine JL_val [] (v := netV N A c) (OpV_blk 0 rfl rfl rfl rfl) rfl ?_
      refine JL_callR [] (brunErr_fn N hF hz A c b o hA') rfl rfl rfl rfl (by kernel_rfl) ⟨⟨1, _, by simp, rfl, shows_seg _ _ _, seen_seg⟩, trivial⟩ (fun _ => rfl) ?_
      rintro v H' ⟨rfl, rfl⟩
      refine ⟨rfl, ?_⟩
      refine JL_run [] rfl ?_
      refine JL_alloc rfl rfl rfl (fun _ => rfl) fun b7 => ?_
      refine JL_store 0 rfl rfl rfl rfl rfl [] rfl ?_
      refine JL_all [] rfl ?_
      (repeat' (first | refine J_seq ?_ | refine J_skip ?_ | refine J_yes rfl ?_ | refine J_no rfl ?_))
      refine J_region ?_
      refine JL_evO (gs := [999]) rfl ?_
      refine JL_evO (gs := [999]) rfl ?_
      refine JL_evO (gs := [999]) rfl ?_
      refine JL_evO (gs := [999]) rfl ?_
      refine JL_set 39 (v' := .bool false) rfl (congrArg Value.bool (cdec_no (fun h => h rfl))) ?_
      refine JL_all [3] rfl ?_
      (repeat' (first | refine J_seq ?_ | refine J_skip ?_ | refine J_yes rfl ?_ | refine J_no rfl ?_))
      refine J_dec rfl (fun h => absurd rfl h) (fun _ => J_skip ?_)
      (repeat' (first | refine J_seq ?_ | refine J_skip ?_ | refine J_yes rfl ?_ | refine J_no rfl ?_))
      refine J_region ?_
      refine JL_all [] rfl ?_
      (repeat' (first | refine J_seq ?_ | refine J_skip ?_ | refine J_yes rfl ?_ | refine J_no rfl ?_))
      refine J_dec rfl (fun _ => ?_) (fun h => absurd hz h)
      (repeat' (first | refine J_seq ?_ | refine J_skip ?_ | refine J_yes rfl ?_ | refine J_no rfl ?_))
      refine J_region ?_
      refine JL_evO (gs := [999]) rfl ?_
      refine JL_evO (gs := [999]) rfl ?_
      refine JL_evO (gs := [999]) rfl ?_
      refine JL_set 48 (v' := .bool true) rfl (congrArg Value.bool (cdec_yes rfl)) ?_
      refine JL_val [2] (v := countV 0 0 0 0 0) (OpV_blk 0 rfl rfl rfl rfl) rfl ?_
      refine JL_val [2] (v := countV 0 0 0 0 0) (OpV_build rfl rfl rfl rfl rfl rfl) rfl ?_
      refine JL_val [2] (OpV_count_same rfl rfl rfl) rfl ?_
      refine JL_all [2] rfl ?_
      exact J_ret ⟨_, rfl, rfl⟩
  rw [hN] at key
  exact key
end Go.Proofs.Ytdhenmmmkdhonaa
