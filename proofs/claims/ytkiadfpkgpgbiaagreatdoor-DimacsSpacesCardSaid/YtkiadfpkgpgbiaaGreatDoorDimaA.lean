
/- Networks read line by line: a line of an arc. -/
import Derived.Test.YtkiadfpkgpgbiaaGreatDoorDimaR
set_option linter.unusedVariables false
set_option linter.unusedSimpArgs false
namespace Go.Proofs.YtkiadfpkgpgbiaaGreatDoor
open Go.RowKit
theorem arc_fn (V : LibV) (w : Ws) (hw : ∀ x ∈ w, x.length ≤ 10000000) (hn : w.length ≤ 10000000) (B : Option Addr) (n bb ob : Nat) (hB : w ≠ [] → B = some ⟨bb, ob, none⟩) (hnl : n = w.length) (p : Nat) (r : Rd) (ok : r.OK) (A : Option Addr) (c : Nat) :
    Fn 37 [.pointer (some ⟨p, 0, none⟩), .slice B n n] (mines (rdH p A c r)) ([.seg bb ob (strs w)] ++ V.heap ++ rdH p A c r) (lineR p (r.arc w)) := by
  subst hnl
  have bad : (w.length ≠ 4 ∨ r.src = 0 ∨ r.snk = 0) → lineR p (r.arc w) (.int .i64 2) (rdH p A c r) := fun h => by
    unfold Rd.arc; rw [if_pos h]; exact ⟨rfl, A, c, rfl⟩
  have hlen := ok.len
  have hsum := ok.sum_ge
  have hml := ok.most_le
  refine Fn_of Tryz.func37 rfl rfl fun w0 => ?_
  (repeat' (first | refine J_seq ?_ | refine J_skip ?_ | refine J_yes rfl ?_ | refine J_no rfl ?_))
  refine J_region ?_
  refine JL_all [] rfl ?_
  refine J_seq ?_
  (repeat' (first | refine J_seq ?_ | refine J_skip ?_ | refine J_yes rfl ?_ | refine J_no rfl ?_))
  refine J_region ?_
  refine JL_run [] rfl ?_
  by_cases h1 : w.length = 4
  case neg =>
    refine JL_set 11 (v' := .bool true) rfl (congrArg Value.bool (cdec_yes (by simp; omega))) ?_
    refine JL_run [3] rfl ?_
    refine JL_set 19 (v' := .bool true) rfl rfl ?_
    refine JL_all [3, 11] rfl ?_
    refine J_yes rfl ?_
    (repeat' (first | refine J_seq ?_ | refine J_skip ?_ | refine J_yes rfl ?_ | refine J_no rfl ?_))
    refine J_region ?_
    refine JL_all [] rfl ?_
    exact J_drop [4, 5] (by decide) rfl (J_ret ⟨_, rfl, bad (.inl h1)⟩)
  obtain ⟨x0, x1, x2, x3, rfl⟩ := four h1
  obtain rfl := hB (by simp)
  refine JL_set 11 (v' := .bool false) rfl (congrArg Value.bool (cdec_no (by simp))) ?_
  refine JL_run [3] rfl ?_
  refine JL_val [3] (OpV_blk (i := 1) (v := .int .i64 r.src) 4 rfl rfl rfl rfl) rfl ?_
  refine JL_run [3] rfl ?_
  by_cases h2 : r.src = 0
  · refine JL_set 19 (v' := .bool true) rfl (congrArg Value.bool (cdec_yes h2)) ?_
    refine JL_all [3, 11] rfl ?_
    refine J_yes rfl ?_
    (repeat' (first | refine J_seq ?_ | refine J_skip ?_ | refine J_yes rfl ?_ | refine J_no rfl ?_))
    refine J_region ?_
    refine JL_all [] rfl ?_
    exact J_drop [4, 5] (by decide) rfl (J_ret ⟨_, rfl, bad (.inr (.inl h2))⟩)
  refine JL_set 19 (v' := .bool false) rfl (congrArg Value.bool (cdec_no h2)) ?_
  refine JL_run [3, 11] rfl ?_
  refine JL_val [3, 11] (OpV_blk (i := 2) (v := .int .i64 r.snk) 4 rfl rfl rfl rfl) rfl ?_
  refine JL_all [3, 11] rfl ?_
  refine J_dec rfl (fun h3 => ?_) (fun h3 => J_skip ?_)
  · (repeat' (first | refine J_seq ?_ | refine J_skip ?_ | refine J_yes rfl ?_ | refine J_no rfl ?_))
    refine J_region ?_
    refine JL_all [] rfl ?_
    exact J_drop [4, 5] (by decide) rfl (J_ret ⟨_, rfl, bad (.inr (.inr h3))⟩)
  (repeat' (first | refine J_seq ?_ | refine J_skip ?_ | refine J_yes rfl ?_ | refine J_no rfl ?_))
  refine J_region ?_
  refine JL_run [] rfl ?_
  refine JL_val [] (OpV_from (i := 1) rfl rfl rfl rfl rfl (by simp)) rfl ?_
  refine JL_callR [] (numbers_fn V [x1, x2, x3] (fun x hx => hw x (List.mem_cons_of_mem _ hx)) (by simp) _ 3 _ bb (ob + 1) (fun _ => rfl) rfl) rfl rfl rfl rfl (by kernel_rfl) ⟨⟨0, _, by simp, rfl, shows_part 1 (fun i => by rw [Nat.add_comm]; rfl), .inr rfl⟩, ⟨1, by simp, rfl⟩, ⟨2, by simp, rfl⟩, ⟨3, by simp, rfl⟩, trivial⟩ (fun _ => rfl) ?_
  rintro v H' ⟨An, cn, rfl, rfl⟩
  refine ⟨rfl, ?_⟩
  generalize hq : numsL [x1, x2, x3] = q
  have hql := fun h => (numsL_len (ws := [x1, x2, x3]) h).1
  have hqi := nums_in (ws := [x1, x2, x3])
  rw [hq] at hql hqi
  obtain ⟨L, e⟩ := q
  have good : ∀ z : Rd × Int, (if e ≠ 0 then (r, e) else
      if ¬ (1 ≤ L.getD 0 0 ∧ L.getD 0 0 ≤ r.nodes) ∨ ¬ (1 ≤ L.getD 1 0 ∧ L.getD 1 0 ≤ r.nodes) then (r, 4) else
      if L.getD 2 0 < 0 then (r, 3) else if (r.arcs.length : Int) = r.most then (r, 6) else
      if 4611686018427387903 < r.sum + L.getD 2 0 then (r, 7) else
      ({ r with sum := r.sum + L.getD 2 0, arcs := r.arcs ++ [⟨L.getD 0 0, L.getD 1 0, L.getD 2 0⟩] }, 0)) = z → r.arc [x0, x1, x2, x3] = z := fun z hz => by
    unfold Rd.arc
    rw [if_neg (by simp [h2, h3]), show List.drop 1 [x0, x1, x2, x3] = [x1, x2, x3] from rfl, hq]
    exact hz
  refine JL_all [] rfl ?_
  refine J_seq ?_
  (repeat' (first | refine J_seq ?_ | refine J_skip ?_ | refine J_yes rfl ?_ | refine J_no rfl ?_))
  refine J_region ?_
  refine JL_all [] rfl ?_
  refine J_dec rfl (fun he => ?_) (fun he => J_skip ?_)
  · (repeat' (first | refine J_seq ?_ | refine J_skip ?_ | refine J_yes rfl ?_ | refine J_no rfl ?_))
    refine J_region ?_
    refine JL_all [] rfl ?_
    exact J_drop [5, 6] (by decide) rfl (J_ret ⟨_, rfl, by rw [good _ (if_pos he)]; exact ⟨rfl, A, c, rfl⟩⟩)
  have he0 : e = 0 := Classical.not_not.1 he
  obtain ⟨a, b, d, rfl⟩ : ∃ a b d, L = [a, b, d] := by
    match L, hql he0 with
    | [a, b, d], _ => exact ⟨a, b, d, rfl⟩
  refine J_know (own_is 0 rfl) (fun ho => ?_)
  obtain ⟨g, rfl⟩ := ho.2.2.1 (by simp)
  have ha : inB a := hqi a (by simp)
  have hb : inB b := hqi b (by simp)
  have hd : inB d := hqi d (by simp)
  have hsi : inB r.sum := by unfold inB; omega
  simp only [List.getD_cons_zero, List.getD_cons_succ] at good
  rw [if_neg he] at good
  (repeat' (first | refine J_seq ?_ | refine J_skip ?_ | refine J_yes rfl ?_ | refine J_no rfl ?_))
  refine J_walk 13 [(0, true), (1, true), (2, true), (3, true), (4, true), (5, true), (6, true), (7, false), (8, true), (9, true), (10, true), (11, true), (12, true)] [0, 5] (by kernel_rfl) (by decide) rfl ?_
  refine JW_run [] rfl ?_
  refine JW_still [] rfl (OpV_blk (i := 5) (v := .int .i64 r.sum) 1 rfl rfl rfl rfl) rfl ?_
  refine JW_run [] rfl ?_
  refine JW_still [] rfl (idx1 rfl rfl rfl rfl rfl (by simp)) rfl ?_
  refine JW_still [] rfl (OpV_own (i := 2) 0 rfl rfl rfl (readT_int' rfl)) rfl ?_
  refine JW_run [] rfl ?_
  refine JW_eff rfl ?_
  refine JL_callR [] (add_fn hsi hd) rfl rfl rfl rfl (by kernel_rfl) trivial (fun _ => rfl) ?_
  rintro v H' ⟨rfl, rfl⟩
  have hse : ((orErr (r.sum + d)).2 = 0 → (orErr (r.sum + d)).1 = r.sum + d) ∧ ((orErr (r.sum + d)).2 ≠ 0 → 0 ≤ d → 4611686018427387903 < r.sum + d) := by
    unfold orErr
    split
    · exact ⟨fun _ => rfl, fun k => absurd rfl k⟩
    · rename_i hni
      refine ⟨fun k => by simp at k, fun _ h0 => ?_⟩
      unfold inB at hni
      omega
  generalize orErr (r.sum + d) = oe at hse
  obtain ⟨s, e2⟩ := oe
  refine ⟨rfl, JL_nil ⟨⟨[0, 5], by decide, rfl⟩, ?_⟩⟩
  refine JW_all [] rfl ?_
  refine JL_nil ?_
  refine J_seq (J_block ?_)
  refine J_seq ?_
  (repeat' (first | refine J_seq ?_ | refine J_skip ?_ | refine J_yes rfl ?_ | refine J_no rfl ?_))
  refine J_region ?_
  refine JL_run [] rfl ?_
  refine JL_val [] (idx1 rfl rfl rfl rfl rfl (by simp)) rfl ?_
  refine JL_val [] (OpV_own (i := 0) 0 rfl rfl rfl (readT_int' rfl)) rfl ?_
  refine JL_callR [] (there4_fn p r A c a) rfl rfl rfl rfl (by kernel_rfl) ⟨⟨5, _, by simp, rfl, shows_blk _ _ _ (0, 0), .inr rfl⟩, trivial⟩ (fun _ => rfl) ?_
  rintro v H' ⟨rfl, rfl⟩
  refine ⟨rfl, ?_⟩
  refine JL_run [] rfl ?_
  have h4bad : (¬ (1 ≤ a ∧ a ≤ r.nodes) ∨ ¬ (1 ≤ b ∧ b ≤ r.nodes)) → lineR p (r.arc [x0, x1, x2, x3]) (.int .i64 4) (rdH p A c r) := fun h => by
    rw [good _ (if_pos h)]; exact ⟨rfl, A, c, rfl⟩
  by_cases h4 : 1 ≤ a ∧ a ≤ r.nodes
  case neg =>
    refine JL_set 54 (v' := .bool true) rfl (by rw [cdec_no h4]; rfl) ?_
    refine JL_all [6] rfl ?_
    refine J_yes rfl ?_
    (repeat' (first | refine J_seq ?_ | refine J_skip ?_ | refine J_yes rfl ?_ | refine J_no rfl ?_))
    refine J_region ?_
    refine JL_all [] rfl ?_
    exact J_drop [5, 6] (by decide) rfl (J_ret ⟨_, rfl, h4bad (.inl h4)⟩)
  refine JL_set 54 (v' := .bool false) rfl (by rw [cdec_yes h4]; rfl) ?_
  refine JL_run [6] rfl ?_
  refine JL_val [6] (idx1 rfl rfl rfl rfl rfl (by simp)) rfl ?_
  refine JL_val [6] (OpV_own (i := 1) 0 rfl rfl rfl (readT_int' rfl)) rfl ?_
  refine JL_callR [6] (there4_fn p r A c b) rfl rfl rfl rfl (by kernel_rfl) ⟨⟨5, _, by simp, rfl, shows_blk _ _ _ (0, 0), .inr rfl⟩, trivial⟩ (fun _ => rfl) ?_
  rintro v H' ⟨rfl, rfl⟩
  refine ⟨rfl, ?_⟩
  refine JL_all [6] rfl ?_
  by_cases h5 : 1 ≤ b ∧ b ≤ r.nodes
  case neg =>
    refine J_set 47 (v' := .bool true) rfl (by rw [cdec_no h5]; rfl) ?_
    refine J_yes rfl ?_
    (repeat' (first | refine J_seq ?_ | refine J_skip ?_ | refine J_yes rfl ?_ | refine J_no rfl ?_))
    refine J_region ?_
    refine JL_all [] rfl ?_
    exact J_drop [5, 6] (by decide) rfl (J_ret ⟨_, rfl, h4bad (.inr h5)⟩)
  refine J_set 47 (v' := .bool false) rfl (by rw [cdec_yes h5]; rfl) ?_
  refine J_no rfl ?_
  rw [if_neg (fun k => k.elim (fun k => k h4) (fun k => k h5))] at good
  refine J_seq ?_
  (repeat' (first | refine J_seq ?_ | refine J_skip ?_ | refine J_yes rfl ?_ | refine J_no rfl ?_))
  refine J_region ?_
  refine JL_run [] rfl ?_
  refine JL_val [] (idx1 rfl rfl rfl rfl rfl (by simp)) rfl ?_
  refine JL_val [] (OpV_own (i := 2) 0 rfl rfl rfl (readT_int' rfl)) rfl ?_
  refine JL_all [] rfl ?_
  refine J_dec rfl (fun h6 => ?_) (fun h6 => ?_)
  · (repeat' (first | refine J_seq ?_ | refine J_skip ?_ | refine J_yes rfl ?_ | refine J_no rfl ?_))
    refine J_region ?_
    refine JL_all [] rfl ?_
    exact J_drop [5, 6] (by decide) rfl (J_ret ⟨_, rfl, by rw [good _ (if_pos h6)]; exact ⟨rfl, A, c, rfl⟩⟩)
  rw [if_neg h6] at good
  (repeat' (first | refine J_seq ?_ | refine J_skip ?_ | refine J_yes rfl ?_ | refine J_no rfl ?_))
  refine J_walk 12 [(0, true), (1, true), (2, true), (3, true), (4, true), (5, true), (6, true), (7, true), (8, true), (9, true), (10, true), (11, true)] [5] (by kernel_rfl) (by decide) rfl ?_
  refine JW_run [] rfl ?_
  refine JW_still [] rfl (OpV_blk (i := 3) (v := .slice A r.arcs.length c) 0 rfl rfl rfl rfl) rfl ?_
  refine JW_run [] rfl ?_
  refine JW_still [] rfl (OpV_blk (i := 4) (v := .int .i64 r.most) 0 rfl rfl rfl rfl) rfl ?_
  refine JW_all [] rfl ?_
  refine JL_nil ?_
  refine J_dec rfl (fun h7 => ?_) (fun h7 => ?_)
  · (repeat' (first | refine J_seq ?_ | refine J_skip ?_ | refine J_yes rfl ?_ | refine J_no rfl ?_))
    refine J_region ?_
    refine JL_all [] rfl ?_
    exact J_drop [5, 6] (by decide) rfl (J_ret ⟨_, rfl, by rw [good _ (if_pos h7)]; exact ⟨rfl, A, c, rfl⟩⟩)
  rw [if_neg h7] at good
  have h8bad : 4611686018427387903 < r.sum + d → lineR p (r.arc [x0, x1, x2, x3]) (.int .i64 7) (rdH p A c r) := fun h => by
    rw [good _ (if_pos h)]; exact ⟨rfl, A, c, rfl⟩
  refine J_seq ?_
  (repeat' (first | refine J_seq ?_ | refine J_skip ?_ | refine J_yes rfl ?_ | refine J_no rfl ?_))
  refine J_region ?_
  refine JL_run [] rfl ?_
  by_cases h8 : e2 = 0
  case neg =>
    refine JL_set 82 (v' := .bool true) rfl (congrArg Value.bool (cdec_yes h8)) ?_
    refine JL_all [2] rfl ?_
    refine J_yes rfl ?_
    (repeat' (first | refine J_seq ?_ | refine J_skip ?_ | refine J_yes rfl ?_ | refine J_no rfl ?_))
    refine J_region ?_
    refine JL_all [] rfl ?_
    exact J_drop [5, 6] (by decide) rfl (J_ret ⟨_, rfl, h8bad (hse.2 h8 (by omega))⟩)
  refine JL_set 82 (v' := .bool false) rfl (congrArg Value.bool (cdec_no (fun k => k h8))) ?_
  refine JL_all [2] rfl ?_
  have hs : s = r.sum + d := hse.1 h8
  refine J_dec rfl (fun h9 => ?_) (fun h9 => J_skip ?_)
  · (repeat' (first | refine J_seq ?_ | refine J_skip ?_ | refine J_yes rfl ?_ | refine J_no rfl ?_))
    refine J_region ?_
    refine JL_all [] rfl ?_
    exact J_drop [5, 6] (by decide) rfl (J_ret ⟨_, rfl, h8bad (by rw [← hs]; exact h9)⟩)
  have h9' : ¬ 4611686018427387903 < s := h9
  rw [if_neg (by omega)] at good
  (repeat' (first | refine J_seq ?_ | refine J_skip ?_ | refine J_yes rfl ?_ | refine J_no rfl ?_))
  (repeat' (first | refine J_seq ?_ | refine J_skip ?_ | refine J_yes rfl ?_ | refine J_no rfl ?_))
  refine J_region ?_
  refine JL_run [] rfl ?_
  refine JL_store 5 rfl rfl rfl rfl rfl [] rfl ?_
  refine JL_all [] rfl ?_
  (repeat' (first | refine J_seq ?_ | refine J_skip ?_ | refine J_yes rfl ?_ | refine J_no rfl ?_))
  refine J_walk 21 [(0, true), (1, true), (2, true), (3, true), (4, true), (5, true), (6, true), (7, true), (8, true), (9, true), (10, true), (11, true), (12, true), (13, true), (14, true), (15, true), (16, false), (17, false), (18, true), (19, true), (20, true)] [0, 5] (by kernel_rfl) (by decide) rfl ?_
  refine JW_run [] rfl ?_
  refine JW_still [] rfl (OpV_blk (i := 3) (v := .slice A r.arcs.length c) 1 rfl rfl rfl rfl) rfl ?_
  refine JW_run [] rfl ?_
  refine JW_still [] rfl (idx1 rfl rfl rfl rfl rfl (by simp)) rfl ?_
  refine JW_still [] rfl (OpV_own (i := 0) 0 rfl rfl rfl (readT_int' rfl)) rfl ?_
  refine JW_run [] rfl ?_
  refine JW_still [] rfl (idx1 rfl rfl rfl rfl rfl (by simp)) rfl ?_
  refine JW_still [] rfl (OpV_own (i := 1) 0 rfl rfl rfl (readT_int' rfl)) rfl ?_
  refine JW_run [] rfl ?_
  refine JW_still [] rfl (idx1 rfl rfl rfl rfl rfl (by simp)) rfl ?_
  refine JW_still [] rfl (OpV_own (i := 2) 0 rfl rfl rfl (readT_int' rfl)) rfl ?_
  refine JW_run [] rfl ?_
  refine JW_still [] rfl (OpV_build rfl rfl rfl rfl rfl rfl) rfl ?_
  refine JW_eff rfl ?_
  refine JL_lit rfl rfl rfl rfl rfl rfl rfl (fun _ => rfl) fun g2 => ?_
  refine JL_nil ⟨⟨[1, 6], by decide, rfl⟩, ?_⟩
  refine JW_eff rfl ?_
  refine JL_appendS (n := r.arcs.length) (m := 1) (off := 0) (news := arcs [Arc.mk a b d]) 7 0 rfl rfl rfl rfl rfl rfl (by decide) rfl rfl (shows_blk g2 _ _ (0, 0)) (fun _ => rfl) rfl rfl (by omega) (by omega) (fun _ _ => rfl) fun A2 c2 => ?_
  refine JL_nil ⟨⟨[1, 6], by decide, rfl⟩, ?_⟩
  refine JW_run [] rfl ?_
  refine JW_nil ?_
  refine JL_store 6 rfl rfl rfl rfl rfl [] rfl ?_
  refine JL_nil ?_
  (repeat' (first | refine J_seq ?_ | refine J_skip ?_ | refine J_yes rfl ?_ | refine J_no rfl ?_))
  refine J_region ?_
  refine JL_all [] rfl ?_
  refine J_drop [6, 7] (by decide) rfl (J_ret ⟨_, rfl, ?_⟩)
  rw [good _ rfl, ← hs]
  refine ⟨rfl, A2, c2, ?_⟩
  rw [← arcs_app, show r.arcs.length + 1 = (r.arcs ++ [Arc.mk a b d]).length by simp]
  rfl
end Go.Proofs.YtkiadfpkgpgbiaaGreatDoor
