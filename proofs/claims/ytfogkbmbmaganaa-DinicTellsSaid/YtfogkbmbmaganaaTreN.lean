
/- The engine by trees: a linked node is settled, step by step. -/
import Derived.Test.YtfogkbmbmaganaaQX8
set_option linter.unusedVariables false
set_option linter.unusedSimpArgs false
namespace Go.Proofs.Ytfogkbmbmaganaa
open Go.RowKit
section
variable {P : EP} {L : Nat → List Nat} {lv : Nat → Int} {gv : Nat → Nat} {rm0 tr : List Int} {pos : List Nat} {par : OV} {val : Nat → Int} {row : Nat → List Nat}
theorem list_at (hP : EPOk P L lv gv) {vals : List Value} (hV : VOK P.rowsL gv pos vals) {v q r : Nat} (hv : v ≤ P.n) (hq : pos[v]? = some q) (hr : (L v)[q]? = some r) :
    ∃ rw_ c', P.rowsL[v]? = some rw_ ∧ vals[v]? = some (.slice (some ⟨gv v, q, none⟩) (rw_.l.length - q) c') ∧ rw_.l.length - q ≤ c' ∧ q < rw_.l.length ∧ rw_.l[q]? = some (r : Int) ∧ rw_.A = some ⟨gv v, 0, none⟩ ∧ rw_.l.length ≤ 4000 := by
  have hrl := hP.rl
  obtain ⟨rw_, hrow⟩ : ∃ rw_, P.rowsL[v]? = some rw_ := ⟨P.rowsL[v]'(by omega), List.getElem?_eq_getElem (by omega)⟩
  obtain ⟨A', c', h1, h2, h3⟩ := hV.at_ v rw_ q hrow hq
  have hl := hP.rows v rw_ hrow
  have hlt : q < rw_.l.length := by rw [hl, List.length_map]; exact (List.getElem?_eq_some_iff.1 hr).1
  obtain rfl := h3 hlt
  refine ⟨rw_, c', hrow, h1, h2, hlt, by rw [hl, List.getElem?_map, hr]; rfl, hP.at_ v rw_ hrow (fun e => ?_), by rw [hl, List.length_map]; exact hP.len v⟩
  have : rw_.l.length = 0 := by rw [← ints_length, e]; rfl
  omega
theorem row_shows {rw_ : Row} {g q e : Nat} (hA : rw_.A = some ⟨g, 0, none⟩) : (rowC e rw_).shows g q ((ints rw_.l).drop q) := by
  have := shows_drop (shows_ownS (e := e) (sz := 1) (n := rw_.l.length) (cap := rw_.c) (fun _ => hA : ints rw_.l ≠ [] → rw_.A = some ⟨g, 0, none⟩)) q
  rw [Nat.zero_add] at this; exact this
theorem OpV_head {X : Cx} {E : Env} {H : Heap} {o : Oper} {t q r i g : Nat} {xo : Operand} {rw_ : Row} (ho : o.op = .load t xo) (hx : Proofs.Ytfogkbmbmaganaa.val E xo = some (.pointer (some ⟨g, q, none⟩))) (hk : H[i]? = some (rowC 3 rw_)) {k' : IntKind} {by' : Nat} {z' : Option Value} (ht : tab t = some ⟨.int k', 1, by', z'⟩)
    (hA : rw_.A = some ⟨g, 0, none⟩) (hl : rw_.l[q]? = some (r : Int)) : OpV X o E H (.int .i64 (r : Int)) := by
  refine OpV_load_of (b := g) (off := q) (i := 0) (cs := (ints rw_.l).drop q) (c := rowC 3 rw_) i ho hx hk (row_shows hA) ?_
  unfold readT
  rw [ht]
  show ((ints rw_.l).drop q)[0]? = _
  rw [List.getElem?_drop]; exact ints_get hl
theorem row_at {c0 c1 c2 c3 c4 c5 c6 c7 c8 : Chunk} {un : List Row} {v : Nat} {rw_ : Row} (h : P.rowsL[v]? = some rw_) : (c0 :: c1 :: c2 :: c3 :: c4 :: c5 :: c6 :: c7 :: c8 :: P.rows un)[9 + v]? = some (rowC 3 rw_) := by
  show ([c0, c1, c2, c3, c4, c5, c6, c7, c8] ++ P.rows un)[9 + v]? = _
  rw [List.getElem?_append_right (by simp)]
  show (P.rows un)[9 + v - 9]? = _
  rw [Nat.add_sub_cancel_left]
  unfold EP.rows
  rw [List.getElem?_map, List.getElem?_append_left (List.getElem?_eq_some_iff.1 h).1, h]
  rfl
theorem un_at {c0 c1 c2 c3 c4 c5 c6 c7 c8 : Chunk} {un : List Row} {v : Nat} {rw_ : Row} (h : un[v]? = some rw_) : (c0 :: c1 :: c2 :: c3 :: c4 :: c5 :: c6 :: c7 :: c8 :: P.rows un)[9 + (P.rowsL.length + v)]? = some (rowC 3 rw_) := by
  show ([c0, c1, c2, c3, c4, c5, c6, c7, c8] ++ P.rows un)[9 + (P.rowsL.length + v)]? = _
  rw [List.getElem?_append_right (by simp)]
  show (P.rows un)[9 + (P.rowsL.length + v) - 9]? = _
  rw [Nat.add_sub_cancel_left]
  unfold EP.rows
  rw [List.getElem?_map, List.getElem?_append_right (by omega), Nat.add_sub_cancel_left, h]
  rfl
theorem settle_fn (hP : EPOk P L lv gv) (s : ES) (hT : TA P L rm0 tr pos par val s.rm) (hF : FAb (P.n + 1) s.fs par val row) (hV : VOK P.rowsL gv pos s.vals) {v w q r : Nat} (hv : v ≤ P.n) (hw : par v = some w) (hq : pos[v]? = some q) (hr : (L v)[q]? = some r) (hval : val v = tr.getD r 0) :
    Fn 78 [.pointer (some ⟨P.pe, 0, none⟩), .int .i64 (v : Int)] (mines (engH P s)) ([P.sg] ++ engH P s)
      fun _ H' => ∃ fs' row', H' = engH P { s with fs := fs', rm := s.rm.set r (val v), k := s.k + 1 } ∧ FAb (P.n + 1) fs' (ovSet par v none) (valAt val v (4611686018427387904 - val v)) row' ∧ fs'.k ≤ s.fs.k + 2 * accN (P.n + 1) + 11 * (P.n + 1) := by
  have hN := hP.small
  have hvN : v < P.n + 1 := by omega
  obtain ⟨rw_, c', hrow, hvv, hlc, hql, hrl, hrA, hrlen⟩ := list_at hP hV hv hq hr
  have hvl : v < s.vals.length := (List.getElem?_eq_some_iff.1 hvv).1
  have hrm := List.mem_of_getElem? hr
  have hr2 := (lead_fr hP hrm).1
  have htb := hT.trb r
  generalize hM : mines _ = M
  refine Fn_of Try.func78 rfl rfl fun w0 => ?_
  refine J_fit work_in ?_
  (repeat' (first | refine J_seq ?_ | refine J_skip ?_ | refine J_yes rfl ?_ | refine J_no rfl ?_))
  refine J_region ?_
  (repeat' (first
    | refine JL_evO (gs := [999]) rfl ?_
    | refine JL_val [999] (OpV_blk 5 rfl rfl rfl rfl) rfl ?_))
  refine JL_fit (Fit.re (A := P.fo s.fs ++ [P.sg, P.pc s.k s.w, P.rc s.rm, P.lc s.vals, P.uc s.un]) (R := P.rows s.un) [5, 0, 1, 2, 3, 4, 6, 7, 8] rfl (by decide)) ?_
  refine JL_callK [999] (tick_fn P s.k s.w) rfl rfl rfl rfl (by kernel_rfl) Fit.refl trivial (fun _ => rfl) ?_
  rintro v0 H' rfl
  refine ⟨rfl, ?_⟩
  refine JL_fit (Fit.re (A := [P.pc (s.k + 1) s.w] ++ (P.fo s.fs ++ [P.sg, P.rc s.rm, P.lc s.vals, P.uc s.un])) (R := P.rows s.un) [1, 2, 3, 4, 5, 0, 6, 7, 8] rfl (by decide)) ?_
  refine JL_nil ?_
  (repeat' (first | refine J_seq ?_ | refine J_skip ?_ | refine J_yes rfl ?_ | refine J_no rfl ?_))
  refine J_region ?_
  (repeat' (first
    | refine JL_evO (gs := [999]) rfl ?_
    | refine JL_val [999] (OpV_blk 5 rfl rfl rfl rfl) rfl ?_))
  refine JL_callK [] (frValue hF hN hvN) rfl rfl rfl rfl (by kernel_rfl) Fit.refl trivial (fun _ => rfl) ?_
  rintro _ H' ⟨fs1, rfl, rfl, hF1, hk1⟩
  refine ⟨rfl, ?_⟩
  (repeat' (first
    | refine JL_evO (gs := [999]) rfl ?_
    | refine JL_val [999] (OpV_blk 5 rfl rfl rfl rfl) rfl ?_))
  refine JL_nil ?_
  (repeat' (first | refine J_seq ?_ | refine J_skip ?_ | refine J_yes rfl ?_ | refine J_no rfl ?_))
  refine J_walkE 16 [0, 1, 2, 3, 4, 5, 6, 7, 8, 9, 10, 11, 12, 13, 14] 15 [] (by kernel_rfl) ?_
  (repeat' (first
    | refine JE_evO (gs := [999]) rfl rfl ?_
    | refine JE_still [999] rfl rfl (OpV_blk 5 rfl rfl rfl rfl) rfl ?_))
  refine JE_addr [999] rfl (idx1z rfl rfl rfl rfl rfl hvN) rfl ?_
  refine JE_still [999] rfl rfl (OpV_own 7 rfl rfl rfl hvv) rfl ?_
  (repeat' (first
    | refine JE_evO (gs := [999]) rfl rfl ?_
    | refine JE_still [999] rfl rfl (OpV_blk 5 rfl rfl rfl rfl) rfl ?_))
  refine JE_addr [999] rfl (idx1 rfl rfl rfl rfl rfl (m := 0) (by omega)) rfl ?_
  refine JE_still [999] rfl rfl (OpV_head rfl rfl (row_at hrow) rfl hrA hrl) rfl ?_
  (repeat' (first
    | refine JE_evO (gs := [999]) rfl rfl ?_
    | refine JE_still [999] rfl rfl (OpV_blk 5 rfl rfl rfl rfl) rfl ?_))
  have hAr := hP.room hr2
  refine JE_addr [999] rfl (idx1z (b := P.gr) (n := 2 * P.N.arcs.length) (c := P.cr) rfl (congrArg (fun A => some (Value.slice A (2 * P.N.arcs.length) P.cr)) hAr) rfl rfl rfl hr2) rfl ?_
  refine JE_first rfl ?_
  refine JL_store_own (n := 2 * P.N.arcs.length) (cap := P.cr) 6 rfl rfl rfl (congrArg (fun A => some (Chunk.own (.slice A (2 * P.N.arcs.length) P.cr) 2 1 (2 * P.N.arcs.length) (ints s.rm))) hAr) (put_one rfl rfl rfl (by rw [ints_length, hT.rml]; exact hr2)) [] rfl ?_
  rw [show (ints s.rm).set r (.int .i64 (val v)) = ints (s.rm.set r (val v)) from by simp [ints]]
  rw [← hAr]
  refine JL_nil ⟨⟨[], by decide, rfl⟩, ?_⟩
  refine JW_nil ?_
  refine JL_nil ?_
  (repeat' (first | refine J_seq ?_ | refine J_skip ?_ | refine J_yes rfl ?_ | refine J_no rfl ?_))
  refine J_region ?_
  (repeat' (first
    | refine JL_evO (gs := [999]) rfl ?_
    | refine JL_val [999] (OpV_blk 5 rfl rfl rfl rfl) rfl ?_))
  refine JL_callK [] (frCut hF1 hN hvN hw) rfl rfl rfl rfl (by kernel_rfl) Fit.refl trivial (fun _ => rfl) ?_
  rintro _ H' ⟨fs2, row2, rfl, hF2, hk2⟩
  refine ⟨rfl, ?_⟩
  (repeat' (first
    | refine JL_evO (gs := [999]) rfl ?_
    | refine JL_val [999] (OpV_blk 5 rfl rfl rfl rfl) rfl ?_))
  refine JL_nil ?_
  (repeat' (first | refine J_seq ?_ | refine J_skip ?_ | refine J_yes rfl ?_ | refine J_no rfl ?_))
  refine J_region ?_
  (repeat' (first
    | refine JL_evO (gs := [999]) rfl ?_
    | refine JL_val [999] (OpV_blk 5 rfl rfl rfl rfl) rfl ?_))
  refine JL_set 40 (v' := .int .i64 (4611686018427387904 - val v)) rfl (congrArg (Value.int .i64) (w64 (by omega))) ?_
  refine JL_callK [] (frAdd hF2 hN hvN (p := [v]) ⟨rfl, by simp [ovSet]⟩ (d := 4611686018427387904 - val v) (by omega) (by intro y hy; rw [List.mem_singleton.1 hy]; omega)) rfl rfl rfl rfl (by kernel_rfl) Fit.refl trivial (fun _ => rfl) ?_
  rintro _ H' ⟨fs3, row3, rfl, hF3, hk3⟩
  refine ⟨rfl, ?_⟩
  (repeat' (first
    | refine JL_evO (gs := [999]) rfl ?_
    | refine JL_val [999] (OpV_blk 5 rfl rfl rfl rfl) rfl ?_))
  refine JL_fit (work_out (s := { s with fs := fs3, rm := s.rm.set r (val v), k := s.k + 1 })) ?_
  refine JL_nil ?_
  refine ⟨_, rfl, fs3, row3, rfl, hF3, ?_⟩
  have h0 : { s with fs := fs3, rm := s.rm.set r (val v), k := s.k + 1 }.fs = fs3 := rfl
  omega
end
end Go.Proofs.Ytfogkbmbmaganaa
