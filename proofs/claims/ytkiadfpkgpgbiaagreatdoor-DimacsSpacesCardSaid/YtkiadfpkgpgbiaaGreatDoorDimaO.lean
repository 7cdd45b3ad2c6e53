
/- Networks read line by line: a line of the problem, of an end, of an arc. -/
import Derived.Test.YtkiadfpkgpgbiaaGreatDoorDimaN
set_option linter.unusedVariables false
set_option linter.unusedSimpArgs false
namespace Go.Proofs.YtkiadfpkgpgbiaaGreatDoor
open Go.RowKit
def lineR (p : Nat) (q : Rd × Int) (v : Value) (H' : Heap) : Prop := v = .int .i64 q.2 ∧ ∃ (A' : Option Addr) (c' : Nat), H' = rdH p A' c' q.1
theorem shows_part {b off : Nat} (k : Nat) {l m : List (List UInt8)} (h : ∀ i : Nat, l[k + i]? = m[i]?) : (Chunk.seg b off (strs l)).shows b (off + k) (strs m) := fun w hw i v hv => by
  have h1 : (strs l)[k + i]? = some v := by
    unfold strs at hv ⊢
    rw [List.getElem?_map] at hv ⊢
    rw [h i]; exact hv
  have h2 := hw (k + i) v h1
  rw [← Nat.add_assoc] at h2
  exact h2
theorem four {w : Ws} (h : w.length = 4) : ∃ a b c d, w = [a, b, c, d] := by
  match w, h with
  | [a, b, c, d], _ => exact ⟨a, b, c, d, rfl⟩
theorem problem_fn (V : LibV) (w : Ws) (hw : ∀ x ∈ w, x.length ≤ 10000000) (hn : w.length ≤ 10000000) (B : Option Addr) (n bb ob : Nat) (hB : w ≠ [] → B = some ⟨bb, ob, none⟩) (hnl : n = w.length) (p : Nat) (r : Rd) (ok : r.OK) (A : Option Addr) (c : Nat) :
    Fn 35 [.pointer (some ⟨p, 0, none⟩), .slice B n n] (mines (rdH p A c r)) ([.seg bb ob (strs w)] ++ V.heap ++ rdH p A c r) (lineR p (r.problem w)) := by
  subst hnl
  have bad : (w.length ≠ 4 ∨ w[1]? ≠ some [109, 97, 120] ∨ r.most ≠ -1) → lineR p (r.problem w) (.int .i64 2) (rdH p A c r) := fun h => by
    unfold Rd.problem; rw [if_pos h]; exact ⟨rfl, A, c, rfl⟩
  refine Fn_of Tryz.func35 rfl rfl fun w0 => ?_
  (repeat' (first | refine J_seq ?_ | refine J_skip ?_ | refine J_yes rfl ?_ | refine J_no rfl ?_))
  refine J_region ?_
  refine JL_all [] rfl ?_
  refine J_seq ?_
  (repeat' (first | refine J_seq ?_ | refine J_skip ?_ | refine J_yes rfl ?_ | refine J_no rfl ?_))
  refine J_region ?_
  refine JL_run [] rfl ?_
  by_cases h1 : w.length = 4
  · obtain ⟨x0, x1, x2, x3, rfl⟩ := four h1
    obtain rfl := hB (by simp)
    refine JL_set 10 (v' := .bool false) rfl (congrArg Value.bool (cdec_no (by simp))) ?_
    refine JL_run [3] rfl ?_
    refine JL_val [3] (idx1 rfl rfl rfl rfl rfl (by simp)) rfl ?_
    refine JL_val [3] (ldseg 0 rfl rfl rfl rfl (readT_str (x := x1) rfl)) rfl ?_
    refine JL_val [3] (OpV_nes (m := [109, 97, 120]) rfl rfl rfl) rfl ?_
    refine JL_run [3] rfl ?_
    by_cases h2 : x1 = [109, 97, 120]
    · subst h2
      refine JL_set 16 (v' := .bool false) rfl (congrArg Value.bool (cdec_no (by simp))) ?_
      refine JL_run [9] rfl ?_
      refine JL_val [9] (OpV_blk (i := 4) (v := .int .i64 r.most) 4 rfl rfl rfl rfl) rfl ?_
      refine JL_all [9] rfl ?_
      refine J_dec rfl (fun h3 => ?_) (fun h3 => J_skip ?_)
      · (repeat' (first | refine J_seq ?_ | refine J_skip ?_ | refine J_yes rfl ?_ | refine J_no rfl ?_))
        refine J_region ?_
        refine JL_all [] rfl ?_
        exact J_drop [4, 5] (by decide) rfl (J_ret ⟨_, rfl, bad (.inr (.inr h3))⟩)
      have h3' : r.most = -1 := Classical.not_not.1 h3
      (repeat' (first | refine J_seq ?_ | refine J_skip ?_ | refine J_yes rfl ?_ | refine J_no rfl ?_))
      refine J_region ?_
      refine JL_run [] rfl ?_
      refine JL_val [] (OpV_from (i := 2) rfl rfl rfl rfl rfl (by simp)) rfl ?_
      refine JL_callR [] (numbers_fn V [x2, x3] (fun x hx => hw x (List.mem_cons_of_mem _ (List.mem_cons_of_mem _ hx))) (by simp) _ 2 _ bb (ob + 2) (fun _ => rfl) rfl) rfl rfl rfl rfl (by kernel_rfl) ⟨⟨0, _, by simp, rfl, shows_part 2 (fun i => by rw [Nat.add_comm]; rfl), .inr rfl⟩, ⟨1, by simp, rfl⟩, ⟨2, by simp, rfl⟩, ⟨3, by simp, rfl⟩, trivial⟩ (fun _ => rfl) ?_
      rintro v H' ⟨An, cn, rfl, rfl⟩
      refine ⟨rfl, ?_⟩
      generalize hq : numsL [x2, x3] = q
      have hql := fun h => (numsL_len (ws := [x2, x3]) h).1
      have hqi := nums_in (ws := [x2, x3])
      rw [hq] at hql hqi
      obtain ⟨L, e⟩ := q
      have good : ∀ z : Rd × Int, (if e ≠ 0 then (r, e) else if L.getD 0 0 < 2 ∨ 500 < L.getD 0 0 ∨ L.getD 1 0 < 0 ∨ 2000 < L.getD 1 0 then (r, 3) else ({ r with nodes := L.getD 0 0, most := L.getD 1 0 }, 0)) = z → r.problem [x0, [109, 97, 120], x2, x3] = z := fun z hz => by
        unfold Rd.problem
        rw [if_neg (by simp [h3']), show List.drop 2 [x0, [109, 97, 120], x2, x3] = [x2, x3] from rfl, hq]
        exact hz
      refine JL_all [] rfl ?_
      refine J_seq (J_block ?_)
      (repeat' (first | refine J_seq ?_ | refine J_skip ?_ | refine J_yes rfl ?_ | refine J_no rfl ?_))
      refine J_region ?_
      refine JL_all [] rfl ?_
      refine J_dec rfl (fun he => ?_) (fun he => ?_)
      · (repeat' (first | refine J_seq ?_ | refine J_skip ?_ | refine J_yes rfl ?_ | refine J_no rfl ?_))
        refine J_region ?_
        refine JL_all [] rfl ?_
        exact J_drop [5, 6] (by decide) rfl (J_ret ⟨_, rfl, by rw [good _ (if_pos he)]; exact ⟨rfl, A, c, rfl⟩⟩)
      have he0 : e = 0 := Classical.not_not.1 he
      have hL := hql he0
      obtain ⟨a, b, rfl⟩ : ∃ a b, L = [a, b] := by
        match L, hL with
        | [a, b], _ => exact ⟨a, b, rfl⟩
      refine J_know (own_is 0 rfl) (fun ho => ?_)
      obtain ⟨g, rfl⟩ := ho.2.2.1 (by simp)
      have ha : inB a := hqi a (by simp)
      have hb : inB b := hqi b (by simp)
      simp only [List.getD_cons_zero, List.getD_cons_succ] at good
      rw [if_neg he] at good
      refine J_seq ?_
      (repeat' (first | refine J_seq ?_ | refine J_skip ?_ | refine J_yes rfl ?_ | refine J_no rfl ?_))
      refine J_region ?_
      refine JL_run [] rfl ?_
      refine JL_val [] (idx1 rfl rfl rfl rfl rfl (by simp)) rfl ?_
      refine JL_val [] (OpV_own (i := 0) 0 rfl rfl rfl (readT_int' rfl)) rfl ?_
      refine JL_run [] rfl ?_
      have h3bad : (a < 2 ∨ 500 < a ∨ b < 0 ∨ 2000 < b) → lineR p (r.problem [x0, [109, 97, 120], x2, x3]) (.int .i64 3) (rdH p A c r) := fun h => by
        rw [good _ (if_pos h)]; exact ⟨rfl, A, c, rfl⟩
      by_cases ha2 : a < 2
      · refine JL_set 38 (v' := .bool true) rfl (congrArg Value.bool (cdec_yes ha2)) ?_
        refine JL_run [4] rfl ?_
        refine JL_set 44 (v' := .bool true) rfl rfl ?_
        refine JL_run [4, 10] rfl ?_
        refine JL_set 50 (v' := .bool true) rfl rfl ?_
        refine JL_all [4, 10, 16] rfl ?_
        refine J_yes rfl ?_
        (repeat' (first | refine J_seq ?_ | refine J_skip ?_ | refine J_yes rfl ?_ | refine J_no rfl ?_))
        refine J_region ?_
        refine JL_all [] rfl ?_
        exact J_drop [5, 6] (by decide) rfl (J_ret ⟨_, rfl, h3bad (.inl ha2)⟩)
      refine JL_set 38 (v' := .bool false) rfl (congrArg Value.bool (cdec_no ha2)) ?_
      refine JL_run [4] rfl ?_
      refine JL_val [4] (idx1 rfl rfl rfl rfl rfl (by simp)) rfl ?_
      refine JL_val [4] (OpV_own (i := 0) 0 rfl rfl rfl (readT_int' rfl)) rfl ?_
      refine JL_run [4] rfl ?_
      by_cases ha5 : 500 < a
      · refine JL_set 44 (v' := .bool true) rfl (congrArg Value.bool (cdec_yes ha5)) ?_
        refine JL_run [4, 10] rfl ?_
        refine JL_set 50 (v' := .bool true) rfl rfl ?_
        refine JL_all [4, 10, 16] rfl ?_
        refine J_yes rfl ?_
        (repeat' (first | refine J_seq ?_ | refine J_skip ?_ | refine J_yes rfl ?_ | refine J_no rfl ?_))
        refine J_region ?_
        refine JL_all [] rfl ?_
        exact J_drop [5, 6] (by decide) rfl (J_ret ⟨_, rfl, h3bad (.inr (.inl ha5))⟩)
      refine JL_set 44 (v' := .bool false) rfl (congrArg Value.bool (cdec_no ha5)) ?_
      refine JL_run [4, 10] rfl ?_
      refine JL_val [4, 10] (idx1 rfl rfl rfl rfl rfl (by simp)) rfl ?_
      refine JL_val [4, 10] (OpV_own (i := 1) 0 rfl rfl rfl (readT_int' rfl)) rfl ?_
      refine JL_run [4, 10] rfl ?_
      by_cases hb0 : b < 0
      · refine JL_set 50 (v' := .bool true) rfl (congrArg Value.bool (cdec_yes hb0)) ?_
        refine JL_all [4, 10, 16] rfl ?_
        refine J_yes rfl ?_
        (repeat' (first | refine J_seq ?_ | refine J_skip ?_ | refine J_yes rfl ?_ | refine J_no rfl ?_))
        refine J_region ?_
        refine JL_all [] rfl ?_
        exact J_drop [5, 6] (by decide) rfl (J_ret ⟨_, rfl, h3bad (.inr (.inr (.inl hb0)))⟩)
      refine JL_set 50 (v' := .bool false) rfl (congrArg Value.bool (cdec_no hb0)) ?_
      refine JL_run [4, 10, 16] rfl ?_
      refine JL_val [4, 10, 16] (idx1 rfl rfl rfl rfl rfl (by simp)) rfl ?_
      refine JL_val [4, 10, 16] (OpV_own (i := 1) 0 rfl rfl rfl (readT_int' rfl)) rfl ?_
      refine JL_all [4, 10, 16] rfl ?_
      refine J_dec rfl (fun hb2 => ?_) (fun hb2 => J_skip ?_)
      · (repeat' (first | refine J_seq ?_ | refine J_skip ?_ | refine J_yes rfl ?_ | refine J_no rfl ?_))
        refine J_region ?_
        refine JL_all [] rfl ?_
        exact J_drop [5, 6] (by decide) rfl (J_ret ⟨_, rfl, h3bad (.inr (.inr (.inr hb2)))⟩)
      (repeat' (first | refine J_seq ?_ | refine J_skip ?_ | refine J_yes rfl ?_ | refine J_no rfl ?_))
      refine J_walk 15 [(0, true), (1, true), (2, true), (3, true), (4, true), (5, true), (6, true), (7, true), (8, true), (9, true), (10, true), (11, false), (12, true), (13, true), (14, false)] [0] (by kernel_rfl) (by decide) rfl ?_
      refine JW_run [] rfl ?_
      refine JW_still [] rfl (idx1 rfl rfl rfl rfl rfl (by simp)) rfl ?_
      refine JW_still [] rfl (OpV_own (i := 0) 0 rfl rfl rfl (readT_int' rfl)) rfl ?_
      refine JW_run [] rfl ?_
      refine JW_still [] rfl (idx1 rfl rfl rfl rfl rfl (by simp)) rfl ?_
      refine JW_still [] rfl (OpV_own (i := 1) 0 rfl rfl rfl (readT_int' rfl)) rfl ?_
      refine JW_run [] rfl ?_
      refine JW_eff rfl ?_
      refine JL_store 5 rfl rfl rfl rfl rfl [] rfl ?_
      refine JL_nil ⟨⟨[0], by decide, rfl⟩, ?_⟩
      refine JW_run [] rfl ?_
      refine JW_eff rfl ?_
      refine JL_store 5 rfl rfl rfl rfl rfl [] rfl ?_
      refine JL_nil ⟨⟨[0], by decide, rfl⟩, ?_⟩
      refine JW_nil (JL_nil ?_)
      (repeat' (first | refine J_seq ?_ | refine J_skip ?_ | refine J_yes rfl ?_ | refine J_no rfl ?_))
      refine J_region ?_
      refine JL_all [] rfl ?_
      exact J_drop [5, 6] (by decide) rfl (J_ret ⟨_, rfl, by rw [good _ (if_neg (by omega))]; exact ⟨rfl, A, c, rfl⟩⟩)
    · refine JL_set 16 (v' := .bool true) rfl (congrArg Value.bool (cdec_yes h2)) ?_
      refine JL_all [9] rfl ?_
      (repeat' (first | refine J_seq ?_ | refine J_skip ?_ | refine J_yes rfl ?_ | refine J_no rfl ?_))
      refine J_region ?_
      refine JL_all [] rfl ?_
      (repeat' (first | refine J_seq ?_ | refine J_skip ?_ | refine J_yes rfl ?_ | refine J_no rfl ?_))
      exact J_drop [4, 5] (by decide) rfl (J_ret ⟨_, rfl, bad (.inr (.inl (by simpa using h2)))⟩)
  · refine JL_set 10 (v' := .bool true) rfl (congrArg Value.bool (cdec_yes (by simp; omega))) ?_
    refine JL_run [3] rfl ?_
    refine JL_set 16 (v' := .bool true) rfl rfl ?_
    refine JL_all [3, 9] rfl ?_
    refine J_yes rfl ?_
    (repeat' (first | refine J_seq ?_ | refine J_skip ?_ | refine J_yes rfl ?_ | refine J_no rfl ?_))
    refine J_region ?_
    refine JL_all [] rfl ?_
    (repeat' (first | refine J_seq ?_ | refine J_skip ?_ | refine J_yes rfl ?_ | refine J_no rfl ?_))
    exact J_drop [4, 5] (by decide) rfl (J_ret ⟨_, rfl, bad (.inl h1)⟩)
end Go.Proofs.YtkiadfpkgpgbiaaGreatDoor
