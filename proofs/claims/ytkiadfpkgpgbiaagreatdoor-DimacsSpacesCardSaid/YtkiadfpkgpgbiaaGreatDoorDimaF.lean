
/- Networks read line by line: what a line is of. -/
import Derived.Test.YtkiadfpkgpgbiaaGreatDoorDimaA
set_option linter.unusedVariables false
set_option linter.unusedSimpArgs false
namespace Go.Proofs.YtkiadfpkgpgbiaaGreatDoor
open Go.RowKit
variable {V : LibV} {bb ob : Nat} {w : Ws}
theorem silent_fn (S : Heap) (hS : S = [.seg bb ob (strs w)] ++ V.heap) (B : Value) (p : Nat) (r : Rd) (A : Option Addr) (c : Nat) : Fn 34 [.pointer (some ⟨p, 0, none⟩), B] (mines (rdH p A c r)) (S ++ rdH p A c r) fun v H' => v = .int .i64 0 ∧ H' = rdH p A c r := by
  subst hS
  refine Fn_of Tryz.func34 rfl rfl fun w0 => ?_
  (repeat' (first | refine J_seq ?_ | refine J_skip ?_ | refine J_yes rfl ?_ | refine J_no rfl ?_))
  refine J_region ?_
  refine JL_all [] rfl ?_
  (repeat' (first | refine J_seq ?_ | refine J_skip ?_ | refine J_yes rfl ?_ | refine J_no rfl ?_))
  refine J_region ?_
  refine JL_all [] rfl ?_
  exact J_drop [4, 5] (by decide) rfl (J_ret ⟨_, rfl, rfl, rfl⟩)
theorem wrong_fn (S : Heap) (hS : S = [.seg bb ob (strs w)] ++ V.heap) (B : Value) (p : Nat) (r : Rd) (A : Option Addr) (c : Nat) : Fn 38 [.pointer (some ⟨p, 0, none⟩), B] (mines (rdH p A c r)) (S ++ rdH p A c r) fun v H' => v = .int .i64 2 ∧ H' = rdH p A c r := by
  subst hS
  refine Fn_of Tryz.func38 rfl rfl fun w0 => ?_
  (repeat' (first | refine J_seq ?_ | refine J_skip ?_ | refine J_yes rfl ?_ | refine J_no rfl ?_))
  refine J_region ?_
  refine JL_all [] rfl ?_
  (repeat' (first | refine J_seq ?_ | refine J_skip ?_ | refine J_yes rfl ?_ | refine J_no rfl ?_))
  refine J_region ?_
  refine JL_all [] rfl ?_
  exact J_drop [4, 5] (by decide) rfl (J_ret ⟨_, rfl, rfl, rfl⟩)
/-- The function that reads a line. -/
def doF (w : Ws) : FuncId := match w with
  | [] => 34
  | x :: _ => if x = [99] then 34 else if x = [112] then 35 else if x = [110] then 36 else if x = [97] then 37 else 38
def lnV (B : Option Addr) (n : Nat) (f : FuncId) : Value := .agg #[.slice B n n, .func (.func f) #[] #[]]
theorem of_fn (w : Ws) (hn : w.length ≤ 10000000) (B : Option Addr) (bb ob : Nat) (hB : w ≠ [] → B = some ⟨bb, ob, none⟩) : Fn 23 [.slice B w.length w.length] [] [.seg bb ob (strs w)] fun v H' => v = lnV B w.length (doF w) ∧ H' = [] := by
  refine Fn_ofC Tryz.func23 rfl rfl fun w0 => ?_
  (repeat' (first | refine J_seq ?_ | refine J_skip ?_ | refine J_yes rfl ?_ | refine J_no rfl ?_))
  refine J_region ?_
  refine JL_alloc rfl rfl rfl (fun _ => rfl) fun p2 => ?_
  refine JL_all [] rfl ?_
  (repeat' (first | refine J_seq ?_ | refine J_skip ?_ | refine J_yes rfl ?_ | refine J_no rfl ?_))
  refine J_region ?_
  refine JL_all [] rfl ?_
  refine J_dec rfl (fun h => ?_) (fun h => J_skip ?_)
  · obtain rfl : w = [] := List.eq_nil_of_length_eq_zero (by omega)
    (repeat' (first | refine J_seq ?_ | refine J_skip ?_ | refine J_yes rfl ?_ | refine J_no rfl ?_))
    refine J_region ?_
    refine JL_run [] rfl ?_
    refine JL_val [] (v := lnV B 0 34) (OpV_build rfl rfl rfl rfl rfl rfl) rfl ?_
    refine JL_store 0 rfl rfl rfl rfl rfl [] rfl ?_
    refine JL_all [] rfl ?_
    (repeat' (first | refine J_seq ?_ | refine J_skip ?_ | refine J_yes rfl ?_ | refine J_no rfl ?_))
    refine J_ret ?_
    exact ⟨[_], [], _, ⟨⟨p2, 0, _, _, rfl, rfl, rfl⟩, trivial⟩, by decide, rfl, rfl, rfl⟩
  obtain ⟨x, r, rfl⟩ : ∃ x r, w = x :: r := by
    match w, h with
    | x :: r, _ => exact ⟨x, r, rfl⟩
  obtain rfl := hB (by simp)
  refine J_seq ?_
  (repeat' (first | refine J_seq ?_ | refine J_skip ?_ | refine J_yes rfl ?_ | refine J_no rfl ?_))
  refine J_region ?_
  refine JL_run [] rfl ?_
  refine JL_val [] (idx1 rfl rfl rfl rfl rfl (by simp)) rfl ?_
  refine JL_val [] (ldseg (i := 0) 1 rfl rfl rfl rfl (readT_str (l := x :: r) (x := x) rfl)) rfl ?_
  refine JL_all [] rfl ?_
  refine J_block ?_
  (repeat' (first | refine J_seq ?_ | refine J_skip ?_ | refine J_yes rfl ?_ | refine J_no rfl ?_))
  refine J_region ?_
  refine JL_all [] rfl ?_
  refine J_set 11 (v' := .bool (cdec (x = [99]))) rfl (congrArg Value.bool (eq_str x [99])) ?_
  refine J_dec rfl (fun h1 => ?_) (fun h1 => ?_)
  · (repeat' (first | refine J_seq ?_ | refine J_skip ?_ | refine J_yes rfl ?_ | refine J_no rfl ?_))
    refine J_region ?_
    refine JL_run [] rfl ?_
    refine JL_val [] (v := lnV (some ⟨bb, ob, none⟩) (x :: r).length (34)) (OpV_build rfl rfl rfl rfl rfl rfl) rfl ?_
    refine JL_store 0 rfl rfl rfl rfl rfl [] rfl ?_
    refine JL_all [] rfl ?_
    (repeat' (first | refine J_seq ?_ | refine J_skip ?_ | refine J_yes rfl ?_ | refine J_no rfl ?_))
    refine J_ret ?_
    refine ⟨[_], [], _, ⟨⟨p2, 0, _, _, rfl, rfl, rfl⟩, trivial⟩, by decide, rfl, ?_, rfl⟩
    subst h1
    rfl
  (repeat' (first | refine J_seq ?_ | refine J_skip ?_ | refine J_yes rfl ?_ | refine J_no rfl ?_))
  refine J_region ?_
  refine JL_all [] rfl ?_
  refine J_set 15 (v' := .bool (cdec (x = [112]))) rfl (congrArg Value.bool (eq_str x [112])) ?_
  refine J_dec rfl (fun h2 => ?_) (fun h2 => ?_)
  · (repeat' (first | refine J_seq ?_ | refine J_skip ?_ | refine J_yes rfl ?_ | refine J_no rfl ?_))
    refine J_region ?_
    refine JL_run [] rfl ?_
    refine JL_val [] (v := lnV (some ⟨bb, ob, none⟩) (x :: r).length (35)) (OpV_build rfl rfl rfl rfl rfl rfl) rfl ?_
    refine JL_store 0 rfl rfl rfl rfl rfl [] rfl ?_
    refine JL_all [] rfl ?_
    (repeat' (first | refine J_seq ?_ | refine J_skip ?_ | refine J_yes rfl ?_ | refine J_no rfl ?_))
    refine J_ret ?_
    refine ⟨[_], [], _, ⟨⟨p2, 0, _, _, rfl, rfl, rfl⟩, trivial⟩, by decide, rfl, ?_, rfl⟩
    subst h2
    rfl
  (repeat' (first | refine J_seq ?_ | refine J_skip ?_ | refine J_yes rfl ?_ | refine J_no rfl ?_))
  refine J_region ?_
  refine JL_all [] rfl ?_
  refine J_set 19 (v' := .bool (cdec (x = [110]))) rfl (congrArg Value.bool (eq_str x [110])) ?_
  refine J_dec rfl (fun h3 => ?_) (fun h3 => ?_)
  · (repeat' (first | refine J_seq ?_ | refine J_skip ?_ | refine J_yes rfl ?_ | refine J_no rfl ?_))
    refine J_region ?_
    refine JL_run [] rfl ?_
    refine JL_val [] (v := lnV (some ⟨bb, ob, none⟩) (x :: r).length (36)) (OpV_build rfl rfl rfl rfl rfl rfl) rfl ?_
    refine JL_store 0 rfl rfl rfl rfl rfl [] rfl ?_
    refine JL_all [] rfl ?_
    (repeat' (first | refine J_seq ?_ | refine J_skip ?_ | refine J_yes rfl ?_ | refine J_no rfl ?_))
    refine J_ret ?_
    refine ⟨[_], [], _, ⟨⟨p2, 0, _, _, rfl, rfl, rfl⟩, trivial⟩, by decide, rfl, ?_, rfl⟩
    subst h3
    rfl
  (repeat' (first | refine J_seq ?_ | refine J_skip ?_ | refine J_yes rfl ?_ | refine J_no rfl ?_))
  refine J_region ?_
  refine JL_all [] rfl ?_
  refine J_set 23 (v' := .bool (cdec (x = [97]))) rfl (congrArg Value.bool (eq_str x [97])) ?_
  refine J_dec rfl (fun h4 => ?_) (fun h4 => ?_)
  · (repeat' (first | refine J_seq ?_ | refine J_skip ?_ | refine J_yes rfl ?_ | refine J_no rfl ?_))
    refine J_region ?_
    refine JL_run [] rfl ?_
    refine JL_val [] (v := lnV (some ⟨bb, ob, none⟩) (x :: r).length (37)) (OpV_build rfl rfl rfl rfl rfl rfl) rfl ?_
    refine JL_store 0 rfl rfl rfl rfl rfl [] rfl ?_
    refine JL_all [] rfl ?_
    (repeat' (first | refine J_seq ?_ | refine J_skip ?_ | refine J_yes rfl ?_ | refine J_no rfl ?_))
    refine J_ret ?_
    refine ⟨[_], [], _, ⟨⟨p2, 0, _, _, rfl, rfl, rfl⟩, trivial⟩, by decide, rfl, ?_, rfl⟩
    subst h4
    rfl
  refine J_skip ?_
  (repeat' (first | refine J_seq ?_ | refine J_skip ?_ | refine J_yes rfl ?_ | refine J_no rfl ?_))
  refine J_region ?_
  refine JL_run [] rfl ?_
  refine JL_val [] (v := lnV (some ⟨bb, ob, none⟩) (x :: r).length (38)) (OpV_build rfl rfl rfl rfl rfl rfl) rfl ?_
  refine JL_store 0 rfl rfl rfl rfl rfl [] rfl ?_
  refine JL_all [] rfl ?_
  (repeat' (first | refine J_seq ?_ | refine J_skip ?_ | refine J_yes rfl ?_ | refine J_no rfl ?_))
  refine J_ret ?_
  refine ⟨[_], [], _, ⟨⟨p2, 0, _, _, rfl, rfl, rfl⟩, trivial⟩, by decide, rfl, ?_, rfl⟩
  unfold doF
  simp only [if_neg h1, if_neg h2, if_neg h3, if_neg h4]
  rfl
theorem doF_call (w : Ws) : callable (doF w) = true := by
  unfold doF
  split
  · kernel_rfl
  · split
    · kernel_rfl
    · split
      · kernel_rfl
      · split
        · kernel_rfl
        · split <;> kernel_rfl
theorem line_fn (V : LibV) (w : Ws) (hw : ∀ x ∈ w, x.length ≤ 10000000) (hn : w.length ≤ 10000000) (B : Option Addr) (bb ob : Nat) (hB : w ≠ [] → B = some ⟨bb, ob, none⟩) (p : Nat) (r : Rd) (ok : r.OK) (A : Option Addr) (c : Nat) :
    Fn (doF w) [.pointer (some ⟨p, 0, none⟩), .slice B w.length w.length] (mines (rdH p A c r)) ([.seg bb ob (strs w)] ++ V.heap ++ rdH p A c r) (lineR p (r.line w)) := by
  have hs : Fn 34 [.pointer (some ⟨p, 0, none⟩), .slice B w.length w.length] (mines (rdH p A c r)) ([.seg bb ob (strs w)] ++ V.heap ++ rdH p A c r) (lineR p (r, 0)) := Fn.mono (silent_fn _ rfl _ p r A c) fun v H' h => ⟨h.1, A, c, h.2⟩
  have hwr : Fn 38 [.pointer (some ⟨p, 0, none⟩), .slice B w.length w.length] (mines (rdH p A c r)) ([.seg bb ob (strs w)] ++ V.heap ++ rdH p A c r) (lineR p (r, 2)) := Fn.mono (wrong_fn _ rfl _ p r A c) fun v H' h => ⟨h.1, A, c, h.2⟩
  unfold doF Rd.line
  cases w with
  | nil => exact hs
  | cons x l =>
    simp only
    by_cases h1 : x = [99]
    · rw [if_pos h1, if_pos h1]; exact hs
    rw [if_neg h1, if_neg h1]
    by_cases h2 : x = [112]
    · rw [if_pos h2, if_pos h2]; exact problem_fn V _ hw hn B _ bb ob hB rfl p r ok A c
    rw [if_neg h2, if_neg h2]
    by_cases h3 : x = [110]
    · rw [if_pos h3, if_pos h3]; exact end_fn V _ hw hn B _ bb ob hB rfl p r ok A c
    rw [if_neg h3, if_neg h3]
    by_cases h4 : x = [97]
    · rw [if_pos h4, if_pos h4]; exact arc_fn V _ hw hn B _ bb ob hB rfl p r ok A c
    rw [if_neg h4, if_neg h4]; exact hwr
end Go.Proofs.YtkiadfpkgpgbiaaGreatDoor
