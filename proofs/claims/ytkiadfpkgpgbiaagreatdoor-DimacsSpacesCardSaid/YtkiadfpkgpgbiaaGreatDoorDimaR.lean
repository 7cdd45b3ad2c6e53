
/- Networks read line by line: a line of an end. -/
import Derived.Test.YtkiadfpkgpgbiaaGreatDoorDimaO
set_option linter.unusedVariables false
set_option linter.unusedSimpArgs false
namespace Go.Proofs.YtkiadfpkgpgbiaaGreatDoor
open Go.RowKit
theorem three {w : Ws} (h : w.length = 3) : ∃ a b c, w = [a, b, c] := by
  match w, h with
  | [a, b, c], _ => exact ⟨a, b, c, rfl⟩
/-- The node that an end's line sets: the source, or the sink. -/
def Rd.at_ (r : Rd) (q : Nat) : Int := if q = 1 then r.src else r.snk
def Rd.put (r : Rd) (q : Nat) (v : Int) : Rd := if q = 1 then { r with src := v } else { r with snk := v }
def Rd.endAt (r : Rd) (q : Nat) (n : List Int × Int) : Rd × Int :=
  if r.at_ q ≠ 0 then (r, 2) else if n.2 ≠ 0 then (r, n.2) else
  if ¬ (1 ≤ n.1.getD 0 0 ∧ n.1.getD 0 0 ≤ r.nodes) then (r, 4) else
  if n.1.getD 0 0 = r.src ∨ n.1.getD 0 0 = r.snk then (r, 5) else (r.put q (n.1.getD 0 0), 0)
def endQ (x : List UInt8) (q : Nat) : Prop := q = 1 ∧ x = [115] ∨ q = 2 ∧ x = [116]
theorem Rd.end_at {r : Rd} {x0 x1 x2 : List UInt8} {q : Nat} (hm : r.most ≠ -1) (ha : r.arcs = []) (hq : endQ x2 q) : r.end_ [x0, x1, x2] = r.endAt q (numsL [x1]) := by
  unfold Rd.end_ Rd.endAt
  rw [if_neg (by simp [hm, ha])]
  rcases hq with ⟨rfl, rfl⟩ | ⟨rfl, rfl⟩
  · rw [if_pos (show [x0, x1, [115]][2]? = some [115] from rfl)]; rfl
  · rw [if_neg (show ¬ [x0, x1, [116]][2]? = some [115] by simp), if_pos (show [x0, x1, [116]][2]? = some [116] from rfl)]; rfl
theorem end_fn (V : LibV) (w : Ws) (hw : ∀ x ∈ w, x.length ≤ 10000000) (hn : w.length ≤ 10000000) (B : Option Addr) (n bb ob : Nat) (hB : w ≠ [] → B = some ⟨bb, ob, none⟩) (hnl : n = w.length) (p : Nat) (r : Rd) (ok : r.OK) (A : Option Addr) (c : Nat) :
    Fn 36 [.pointer (some ⟨p, 0, none⟩), .slice B n n] (mines (rdH p A c r)) ([.seg bb ob (strs w)] ++ V.heap ++ rdH p A c r) (lineR p (r.end_ w)) := by
  subst hnl
  have bad : (w.length ≠ 3 ∨ r.most = -1 ∨ r.arcs ≠ []) → lineR p (r.end_ w) (.int .i64 2) (rdH p A c r) := fun h => by
    unfold Rd.end_; rw [if_pos h]; exact ⟨rfl, A, c, rfl⟩
  have hlen := ok.len
  refine Fn_of Tryz.func36 rfl rfl fun w0 => ?_
  (repeat' (first | refine J_seq ?_ | refine J_skip ?_ | refine J_yes rfl ?_ | refine J_no rfl ?_))
  refine J_region ?_
  refine JL_all [] rfl ?_
  refine J_seq ?_
  (repeat' (first | refine J_seq ?_ | refine J_skip ?_ | refine J_yes rfl ?_ | refine J_no rfl ?_))
  refine J_region ?_
  refine JL_run [] rfl ?_
  by_cases h1 : w.length = 3
  case neg =>
    refine JL_set 11 (v' := .bool true) rfl (congrArg Value.bool (cdec_yes (by simp; omega))) ?_
    refine JL_run [3] rfl ?_
    refine JL_set 18 (v' := .bool true) rfl rfl ?_
    refine JL_all [3, 10] rfl ?_
    refine J_yes rfl ?_
    (repeat' (first | refine J_seq ?_ | refine J_skip ?_ | refine J_yes rfl ?_ | refine J_no rfl ?_))
    refine J_region ?_
    refine JL_all [] rfl ?_
    exact J_drop [4, 5] (by decide) rfl (J_ret ⟨_, rfl, bad (.inl h1)⟩)
  obtain ⟨x0, x1, x2, rfl⟩ := three h1
  obtain rfl := hB (by simp)
  refine JL_set 11 (v' := .bool false) rfl (congrArg Value.bool (cdec_no (by simp))) ?_
  refine JL_run [3] rfl ?_
  refine JL_val [3] (OpV_blk (i := 4) (v := .int .i64 r.most) 4 rfl rfl rfl rfl) rfl ?_
  refine JL_run [3] rfl ?_
  by_cases h2 : r.most = -1
  · refine JL_set 18 (v' := .bool true) rfl (congrArg Value.bool (cdec_yes h2)) ?_
    refine JL_all [3, 10] rfl ?_
    refine J_yes rfl ?_
    (repeat' (first | refine J_seq ?_ | refine J_skip ?_ | refine J_yes rfl ?_ | refine J_no rfl ?_))
    refine J_region ?_
    refine JL_all [] rfl ?_
    exact J_drop [4, 5] (by decide) rfl (J_ret ⟨_, rfl, bad (.inr (.inl h2))⟩)
  refine JL_set 18 (v' := .bool false) rfl (congrArg Value.bool (cdec_no h2)) ?_
  refine JL_run [3, 10] rfl ?_
  refine JL_val [3, 10] (OpV_blk (i := 3) (v := .slice A r.arcs.length c) 4 rfl rfl rfl rfl) rfl ?_
  refine JL_all [3, 10] rfl ?_
  refine J_dec rfl (fun h3 => ?_) (fun h3 => J_skip ?_)
  · (repeat' (first | refine J_seq ?_ | refine J_skip ?_ | refine J_yes rfl ?_ | refine J_no rfl ?_))
    refine J_region ?_
    refine JL_all [] rfl ?_
    exact J_drop [4, 5] (by decide) rfl (J_ret ⟨_, rfl, bad (.inr (.inr (by rintro e; rw [e] at h3; simp at h3)))⟩)
  have h3' : r.arcs = [] := List.eq_nil_of_length_eq_zero (by omega)
  (repeat' (first | refine J_seq ?_ | refine J_skip ?_ | refine J_yes rfl ?_ | refine J_no rfl ?_))
  refine J_region ?_
  refine JL_all [] rfl ?_
  refine J_cutE (σ := { q : Nat // endQ x2 q }) (fun q => [(5, .pointer (some ⟨p, q.1, none⟩)), (0, .pointer (some ⟨p, 0, none⟩)), (1, .slice (some ⟨bb, ob, none⟩) 3 3)]) (fun _ => [.seg bb ob (strs [x0, x1, x2])] ++ V.heap ++ rdH p A c r) ?_ ?_
  · refine J_seq ?_
    (repeat' (first | refine J_seq ?_ | refine J_skip ?_ | refine J_yes rfl ?_ | refine J_no rfl ?_))
    refine J_region ?_
    refine JL_run [] rfl ?_
    refine JL_val [] (idx1 rfl rfl rfl rfl rfl (by simp)) rfl ?_
    refine JL_val [] (ldseg 0 rfl rfl rfl rfl (readT_str (x := x2) rfl)) rfl ?_
    refine JL_all [] rfl ?_
    refine J_block ?_
    refine J_seq ?_
    (repeat' (first | refine J_seq ?_ | refine J_skip ?_ | refine J_yes rfl ?_ | refine J_no rfl ?_))
    refine J_region ?_
    refine JL_run [] rfl ?_
    refine JL_all [] rfl ?_
    refine J_set 34 (v' := .bool (cdec (x2 = [115]))) rfl (congrArg Value.bool (eq_str x2 [115])) ?_
    refine J_dec rfl (fun hs => J_skip ?_) (fun hs => ?_)
    · exact ⟨⟨1, .inl ⟨rfl, hs⟩⟩, ⟨rfl, rfl, rfl, trivial⟩, Fit.refl⟩
    refine J_seq ?_
    (repeat' (first | refine J_seq ?_ | refine J_skip ?_ | refine J_yes rfl ?_ | refine J_no rfl ?_))
    refine J_region ?_
    refine JL_run [] rfl ?_
    refine JL_all [] rfl ?_
    refine J_set 36 (v' := .bool (cdec (x2 = [116]))) rfl (congrArg Value.bool (eq_str x2 [116])) ?_
    refine J_dec rfl (fun ht => ?_) (fun ht => ?_)
    · (repeat' (first | refine J_seq ?_ | refine J_skip ?_ | refine J_yes rfl ?_ | refine J_no rfl ?_))
      refine J_region ?_
      refine JL_all [] rfl ?_
      exact ⟨⟨2, .inr ⟨rfl, ht⟩⟩, ⟨rfl, rfl, rfl, trivial⟩, Fit.refl⟩
    · (repeat' (first | refine J_seq ?_ | refine J_skip ?_ | refine J_yes rfl ?_ | refine J_no rfl ?_))
      refine J_region ?_
      refine JL_all [] rfl ?_
      refine J_drop [4, 5] (by decide) rfl (J_ret ⟨_, rfl, ?_⟩)
      unfold Rd.end_
      rw [if_neg (by simp [h2, h3']), if_neg (by simpa using hs), if_neg (by simpa using ht)]
      exact ⟨rfl, A, c, rfl⟩
  rintro ⟨q, hq⟩
  have hget : readT 3 (rdC r A c) q = some (.int .i64 (r.at_ q)) := by
    rcases hq with ⟨rfl, _⟩ | ⟨rfl, _⟩ <;> rfl
  have hput : ∀ v : Int, putT 3 (rdC r A c) q (Value.int .i64 v).cells.toList = some (rdC (r.put q v) A c) := by
    intro v
    rcases hq with ⟨rfl, _⟩ | ⟨rfl, _⟩ <;> rfl
  rw [Rd.end_at h2 h3' hq]
  refine J_seq ?_
  (repeat' (first | refine J_seq ?_ | refine J_skip ?_ | refine J_yes rfl ?_ | refine J_no rfl ?_))
  refine J_region ?_
  refine JL_run [] rfl ?_
  refine JL_val [] (OpV_blk 4 rfl rfl rfl hget) rfl ?_
  refine JL_all [] rfl ?_
  refine J_dec rfl (fun hz => ?_) (fun hz => J_skip ?_)
  · (repeat' (first | refine J_seq ?_ | refine J_skip ?_ | refine J_yes rfl ?_ | refine J_no rfl ?_))
    refine J_region ?_
    refine JL_all [] rfl ?_
    refine J_drop [4, 5] (by decide) rfl (J_ret ⟨_, rfl, ?_⟩)
    unfold Rd.endAt
    rw [if_pos hz]
    exact ⟨rfl, A, c, rfl⟩
  (repeat' (first | refine J_seq ?_ | refine J_skip ?_ | refine J_yes rfl ?_ | refine J_no rfl ?_))
  refine J_region ?_
  refine JL_run [] rfl ?_
  refine JL_val [] (idx1 rfl rfl rfl rfl rfl (by simp)) rfl ?_
  refine JL_val [] (ldseg 0 rfl rfl rfl rfl (readT_str (x := x1) rfl)) rfl ?_
  refine JL_lit rfl rfl rfl rfl rfl rfl rfl (fun _ => rfl) fun g => ?_
  refine JL_callR [] (numbers_fn V [x1] (fun x hx => hw x (by simp only [List.mem_cons, List.not_mem_nil, or_false] at hx ⊢; exact .inr (.inl hx))) (by simp) _ 1 _ g 0 (fun _ => rfl) rfl) rfl rfl rfl rfl (by kernel_rfl) ⟨⟨0, _, by simp, rfl, shows_blk _ _ _ (0, 0), .inr rfl⟩, ⟨2, by simp, rfl⟩, ⟨3, by simp, rfl⟩, ⟨4, by simp, rfl⟩, trivial⟩ (fun _ => rfl) ?_
  rintro v H' ⟨An, cn, rfl, rfl⟩
  refine ⟨rfl, ?_⟩
  generalize hqq : numsL [x1] = Q
  have hql := fun h => (numsL_len (ws := [x1]) h).1
  have hqi := nums_in (ws := [x1])
  rw [hqq] at hql hqi
  obtain ⟨L, e⟩ := Q
  refine JL_all [] rfl ?_
  refine J_seq (J_block ?_)
  have z0 : ¬ r.at_ q ≠ 0 := hz
  have fold : ∀ u : Rd × Int, (if e ≠ 0 then (r, e) else if ¬ (1 ≤ L.getD 0 0 ∧ L.getD 0 0 ≤ r.nodes) then (r, 4) else if L.getD 0 0 = r.src ∨ L.getD 0 0 = r.snk then (r, 5) else (r.put q (L.getD 0 0), 0)) = u → r.endAt q (L, e) = u := fun u hu => by
    unfold Rd.endAt
    rw [if_neg z0]
    exact hu
  (repeat' (first | refine J_seq ?_ | refine J_skip ?_ | refine J_yes rfl ?_ | refine J_no rfl ?_))
  refine J_region ?_
  refine JL_all [] rfl ?_
  refine J_dec rfl (fun he => ?_) (fun he => ?_)
  · (repeat' (first | refine J_seq ?_ | refine J_skip ?_ | refine J_yes rfl ?_ | refine J_no rfl ?_))
    refine J_region ?_
    refine JL_all [] rfl ?_
    exact J_drop [6, 7] (by decide) rfl (J_ret ⟨_, rfl, by rw [fold _ (if_pos he)]; exact ⟨rfl, A, c, rfl⟩⟩)
  have he0 : e = 0 := Classical.not_not.1 he
  obtain ⟨a, rfl⟩ : ∃ a, L = [a] := by
    match L, hql he0 with
    | [a], _ => exact ⟨a, rfl⟩
  refine J_know (own_is 0 rfl) (fun ho => ?_)
  obtain ⟨g', rfl⟩ := ho.2.2.1 (by simp)
  simp only [List.getD_cons_zero] at fold
  rw [if_neg he] at fold
  refine J_seq ?_
  (repeat' (first | refine J_seq ?_ | refine J_skip ?_ | refine J_yes rfl ?_ | refine J_no rfl ?_))
  refine J_region ?_
  refine JL_run [] rfl ?_
  refine JL_val [] (idx1 rfl rfl rfl rfl rfl (by simp)) rfl ?_
  refine JL_val [] (OpV_own (i := 0) 0 rfl rfl rfl (readT_int' rfl)) rfl ?_
  refine JL_callR [] (there4_fn p r A c a) rfl rfl rfl rfl (by kernel_rfl) ⟨⟨6, _, by simp, rfl, shows_blk _ _ _ (0, 0), .inr rfl⟩, trivial⟩ (fun _ => rfl) ?_
  rintro v H' ⟨rfl, rfl⟩
  refine ⟨rfl, ?_⟩
  refine JL_all [] rfl ?_
  by_cases h4 : 1 ≤ a ∧ a ≤ r.nodes
  case neg =>
    refine J_set 58 (v' := .bool true) rfl (by rw [cdec_no h4]; rfl) ?_
    refine J_yes rfl ?_
    (repeat' (first | refine J_seq ?_ | refine J_skip ?_ | refine J_yes rfl ?_ | refine J_no rfl ?_))
    refine J_region ?_
    refine JL_all [] rfl ?_
    exact J_drop [6, 7] (by decide) rfl (J_ret ⟨_, rfl, by rw [fold _ (if_pos h4)]; exact ⟨rfl, A, c, rfl⟩⟩)
  refine J_set 58 (v' := .bool false) rfl (by rw [cdec_yes h4]; rfl) ?_
  refine J_no rfl ?_
  rw [if_neg (fun k => k h4)] at fold
  refine J_seq ?_
  have h5bad : (a = r.src ∨ a = r.snk) → lineR p (r.endAt q ([a], e)) (.int .i64 5) (rdH p A c r) := fun h => by
    rw [fold _ (if_pos h)]; exact ⟨rfl, A, c, rfl⟩
  (repeat' (first | refine J_seq ?_ | refine J_skip ?_ | refine J_yes rfl ?_ | refine J_no rfl ?_))
  refine J_walk 21 [(0, true), (1, true), (2, true), (3, true), (4, true), (5, true), (6, true), (7, true), (8, true), (9, true), (10, true), (11, true), (12, true), (13, true), (14, true), (15, true), (16, true), (17, true), (18, true), (19, true), (20, true)] [0, 6] (by kernel_rfl) (by decide) rfl ?_
  refine JW_run [] rfl ?_
  refine JW_still [] rfl (idx1 rfl rfl rfl rfl rfl (by simp)) rfl ?_
  refine JW_still [] rfl (OpV_own (i := 0) 0 rfl rfl rfl (readT_int' rfl)) rfl ?_
  refine JW_run [] rfl ?_
  refine JW_still [] rfl (OpV_blk (i := 1) (v := .int .i64 r.src) 1 rfl rfl rfl rfl) rfl ?_
  refine JW_run [] rfl ?_
  by_cases h6 : a = r.src
  · refine JW_set 75 (v' := .bool true) rfl (congrArg Value.bool (cdec_yes h6)) ?_
    refine JW_all [9] rfl ?_
    refine JL_nil ?_
    refine J_yes rfl ?_
    (repeat' (first | refine J_seq ?_ | refine J_skip ?_ | refine J_yes rfl ?_ | refine J_no rfl ?_))
    refine J_region ?_
    refine JL_all [] rfl ?_
    exact J_drop [6, 7] (by decide) rfl (J_ret ⟨_, rfl, h5bad (.inl h6)⟩)
  refine JW_set 75 (v' := .bool false) rfl (congrArg Value.bool (cdec_no h6)) ?_
  refine JW_run [9] rfl ?_
  refine JW_still [9] rfl (idx1 rfl rfl rfl rfl rfl (by simp)) rfl ?_
  refine JW_still [9] rfl (OpV_own (i := 0) 0 rfl rfl rfl (readT_int' rfl)) rfl ?_
  refine JW_run [9] rfl ?_
  refine JW_still [9] rfl (OpV_blk (i := 2) (v := .int .i64 r.snk) 1 rfl rfl rfl rfl) rfl ?_
  refine JW_all [9] rfl ?_
  refine JL_nil ?_
  refine J_dec rfl (fun h7 => ?_) (fun h7 => J_skip ?_)
  · (repeat' (first | refine J_seq ?_ | refine J_skip ?_ | refine J_yes rfl ?_ | refine J_no rfl ?_))
    refine J_region ?_
    refine JL_all [] rfl ?_
    exact J_drop [6, 7] (by decide) rfl (J_ret ⟨_, rfl, h5bad (.inr h7)⟩)
  (repeat' (first | refine J_seq ?_ | refine J_skip ?_ | refine J_yes rfl ?_ | refine J_no rfl ?_))
  (repeat' (first | refine J_seq ?_ | refine J_skip ?_ | refine J_yes rfl ?_ | refine J_no rfl ?_))
  refine J_region ?_
  refine JL_run [] rfl ?_
  refine JL_val [] (idx1 rfl rfl rfl rfl rfl (by simp)) rfl ?_
  refine JL_val [] (OpV_own (i := 0) 0 rfl rfl rfl (readT_int' rfl)) rfl ?_
  refine JL_run [] rfl ?_
  refine JL_store 6 rfl rfl rfl rfl (hput a) [] rfl ?_
  refine JL_all [] rfl ?_
  (repeat' (first | refine J_seq ?_ | refine J_skip ?_ | refine J_yes rfl ?_ | refine J_no rfl ?_))
  refine J_region ?_
  refine JL_all [] rfl ?_
  refine J_drop [6, 7] (by decide) rfl (J_ret ⟨_, rfl, ?_⟩)
  rw [fold _ (if_neg (by omega))]
  refine ⟨rfl, A, c, ?_⟩
  rcases hq with ⟨rfl, _⟩ | ⟨rfl, _⟩ <;> rfl
end Go.Proofs.YtkiadfpkgpgbiaaGreatDoor
