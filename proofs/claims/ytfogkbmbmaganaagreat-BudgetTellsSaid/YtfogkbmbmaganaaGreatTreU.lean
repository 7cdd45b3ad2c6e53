
/- The engine by trees: a linked node is cut off, step by step. -/
import Derived.Test.YtfogkbmbmaganaaGreatQX22
set_option linter.unusedVariables false
set_option linter.unusedSimpArgs false
namespace Go.Proofs.YtfogkbmbmaganaaGreat
open Go.RowKit
theorem rowC_own {g c : Nat} {W : List Nat} : rowC 3 ⟨some ⟨g, 0, none⟩, c, natZ W⟩ = ownI g W.length c W := by
  unfold rowC rowV
  simp only [natZ_length]
  rfl
section
variable {P : EP} {L : Nat → List Nat} {lv : Nat → Int} {gv : Nat → Nat} {rm0 tr : List Int} {pos : List Nat} {par : OV} {val : Nat → Int}
def workB (P : EP) (s : ES) (bE bV v : Nat) : Heap := (P.fo s.fs ++ [P.sg, P.pc s.k s.w, P.rc s.rm, P.lc s.vals, P.uc s.un, blk bE 195 [.pointer (some ⟨P.pe, 0, none⟩)], blk bV 3 [.int .i64 (v : Int)]]) ++ P.rows s.un
theorem workB_in {X : Cx} {s : ES} {bE bV v : Nat} : Fit X (blk bV 3 [.int .i64 (v : Int)] :: blk bE 195 [.pointer (some ⟨P.pe, 0, none⟩)] :: ([P.sg] ++ engH P s)) (workB P s bE bV v) :=
  Fit.re (A := [blk bV 3 [.int .i64 (v : Int)], blk bE 195 [.pointer (some ⟨P.pe, 0, none⟩)], P.sg] ++ (P.fo s.fs ++ [P.pc s.k s.w, P.rc s.rm, P.lc s.vals, P.uc s.un])) (R := P.rows s.un) [3, 4, 5, 6, 2, 7, 8, 9, 10, 1, 0] rfl (by decide)
theorem workB_call {X : Cx} {s : ES} {bE bV v : Nat} : Fit X (workB P s bE bV v) (engH P s ++ [P.sg, blk bE 195 [.pointer (some ⟨P.pe, 0, none⟩)], blk bV 3 [.int .i64 (v : Int)]]) :=
  Fit.mid (A := P.fo s.fs ++ [P.sg, P.pc s.k s.w, P.rc s.rm, P.lc s.vals, P.uc s.un, blk bE 195 [.pointer (some ⟨P.pe, 0, none⟩)], blk bV 3 [.int .i64 (v : Int)]]) (R := P.rows s.un) [0, 1, 2, 3, 5, 6, 7, 8] [4, 9, 10] rfl rfl (by decide)
theorem workB_back {X : Cx} {s : ES} {bE bV v : Nat} : Fit X (engH P s ++ [P.sg, blk bE 195 [.pointer (some ⟨P.pe, 0, none⟩)], blk bV 3 [.int .i64 (v : Int)]]) (workB P s bE bV v) := by
  refine Fit.trans (Fit.swap (A := P.fo s.fs ++ [P.pc s.k s.w, P.rc s.rm, P.lc s.vals, P.uc s.un]) (R := P.rows s.un) (B := [P.sg, blk bE 195 [.pointer (some ⟨P.pe, 0, none⟩)], blk bV 3 [.int .i64 (v : Int)]])) ?_
  exact Fit.re (A := (P.fo s.fs ++ [P.pc s.k s.w, P.rc s.rm, P.lc s.vals, P.uc s.un]) ++ [P.sg, blk bE 195 [.pointer (some ⟨P.pe, 0, none⟩)], blk bV 3 [.int .i64 (v : Int)]]) (R := P.rows s.un) [0, 1, 2, 3, 8, 4, 5, 6, 7, 9, 10] rfl (by decide)
theorem rowA {A : Heap} {un : List Row} {v : Nat} {rw_ : Row} (h : P.rowsL[v]? = some rw_) : (A ++ P.rows un)[A.length + v]? = some (rowC 3 rw_) := by
  rw [List.getElem?_append_right (by omega), Nat.add_sub_cancel_left]
  unfold EP.rows
  rw [List.getElem?_map, List.getElem?_append_left (List.getElem?_eq_some_iff.1 h).1, h]
  rfl
theorem rows_set {un : List Row} {w : Nat} {x : Row} : (P.rows un).set (P.rowsL.length + w) (rowC 3 x) = P.rows (un.set w x) := by
  unfold EP.rows
  rw [← List.map_set, List.set_append_right _ _ (by omega), Nat.add_sub_cancel_left]
theorem picks_row {A A1 : Heap} {un : List Row} {v : Nat} {rw_ : Row} (ix : List Nat) (h : Proofs.YtfogkbmbmaganaaGreat.picks A ix = some A1) (hr : P.rowsL[v]? = some rw_) : Proofs.YtfogkbmbmaganaaGreat.picks (A ++ P.rows un) (ix ++ [A.length + v]) = some (A1 ++ [rowC 3 rw_]) :=
  picks_app (picks_cons.2 ⟨_, [], rowA hr, rfl, rfl⟩) (picks_pre h).1
theorem nodup_row {A A1 : Heap} {v : Nat} (ix : List Nat) (h : Proofs.YtfogkbmbmaganaaGreat.picks A ix = some A1) (hn : ix.Nodup) : (ix ++ [A.length + v]).Nodup :=
  List.nodup_append.2 ⟨hn, by simp, fun x hx y hy => by have := (picks_pre (R := []) h).2 x hx; rw [List.mem_singleton.1 hy]; omega⟩
theorem unlink_fn (hP : EPOk P L lv gv) (s : ES) (hI : TInv P L gv rm0 tr pos par val s) {v w q r : Nat} (hv : v ≤ P.n) (hw : par v = some w) (hq : pos[v]? = some q) (hr : (L v)[q]? = some r) (hto : toN P.N r = w) (hval : val v = tr.getD r 0) :
    Fn 148 [.pointer (some ⟨P.pe, 0, none⟩), .int .i64 (v : Int)] (mines (engH P s)) ([P.sg] ++ engH P s)
      fun _ H' => ∃ s', H' = engH P s' ∧ TInv P L gv rm0 tr (pos.set v (q + 1)) (ovSet par v none) (valAt val v (4611686018427387904 - val v)) s' ∧ s'.w = s.w ∧ s'.cost ≤ s.cost + 2 * accN (P.n + 1) + 12 * (P.n + 1) + 1 := by
  have hN := hP.small
  have hvN : v < P.n + 1 := by omega
  obtain ⟨row, hF⟩ := hI.fa
  obtain ⟨rw_, c', hrow, hvv, hlc, hql, hrl, hrA, hrlen⟩ := list_at hP hI.vo hv hq hr
  have hvl : v < s.vals.length := (List.getElem?_eq_some_iff.1 hvv).1
  have hrm := List.mem_of_getElem? hr
  have hr2 := (lead_fr hP hrm).1
  have hte := toN_eq hP.right hr2
  rw [hto] at hte
  have hwn : w ≤ P.n := by have := hP.nodes; omega
  obtain ⟨Aw, cw, W, hun, hWd, hWm, hWl⟩ := hI.tb.get hwn
  obtain ⟨pre, post, rfl⟩ := List.append_of_mem ((hWm v).2 ⟨hv, hw⟩)
  generalize hM : mines _ = M
  refine Fn_of Tryz.func148 rfl rfl fun w0 => ?_
  (repeat' (first | refine J_seq ?_ | refine J_skip ?_ | refine J_yes rfl ?_ | refine J_no rfl ?_))
  refine J_region ?_
  refine JL_box rfl rfl rfl (fun _ => rfl) fun bE => ?_
  refine JL_box rfl rfl rfl (fun _ => rfl) fun bV => ?_
  refine JL_nil ?_
  refine J_fit workB_in ?_
  (repeat' (first | refine J_seq ?_ | refine J_skip ?_ | refine J_yes rfl ?_ | refine J_no rfl ?_))
  have hpk := picks_row (A := P.fo s.fs ++ [P.sg, P.pc s.k s.w, P.rc s.rm, P.lc s.vals, P.uc s.un, blk bE 195 [.pointer (some ⟨P.pe, 0, none⟩)], blk bV 3 [.int .i64 (v : Int)]]) (un := s.un) [4, 5, 7, 9, 10] rfl hrow
  have hnd := nodup_row (A := P.fo s.fs ++ [P.sg, P.pc s.k s.w, P.rc s.rm, P.lc s.vals, P.uc s.un, blk bE 195 [.pointer (some ⟨P.pe, 0, none⟩)], blk bV 3 [.int .i64 (v : Int)]]) (v := v) [4, 5, 7, 9, 10] rfl (by decide)
  refine J_walk 19 [(0, true), (1, true), (2, true), (3, true), (4, true), (5, true), (6, true), (7, true), (8, true), (9, true), (10, true), (11, true), (12, true), (13, false), (14, true), (15, true), (16, true), (17, true), (18, true)] _ (by kernel_rfl) hnd hpk ?_
  (repeat' (first
    | refine JW_evO (gs := [999]) rfl rfl ?_
    | refine JW_still [999] rfl (OpV_blk 1 rfl rfl rfl rfl) rfl ?_
    | refine JW_still [999] rfl (OpV_blk 3 rfl rfl rfl rfl) rfl ?_
    | refine JW_still [999] rfl (OpV_blk 4 rfl rfl rfl rfl) rfl ?_))
  refine JW_still [999] rfl (idx1z rfl rfl rfl rfl rfl hvN) rfl ?_
  refine JW_still [999] rfl (OpV_own 2 rfl rfl rfl hvv) rfl ?_
  refine JW_still [999] rfl (idx1 rfl rfl rfl rfl rfl (m := 0) (by omega)) rfl ?_
  refine JW_still [999] rfl (OpV_head rfl rfl (i := 5) rfl rfl hrA hrl) rfl ?_
  refine JW_eff rfl ?_
  refine JL_callR [] (ends_fn P.N P.A P.c P.b P.o hP.arcs hP.right.len r hr2) rfl rfl rfl rfl (by kernel_rfl) ⟨⟨4, _, by simp [workB], rfl, shows_seg _ _ _, seen_seg⟩, trivial⟩ (fun _ => rfl) ?_
  rintro _ H' ⟨rfl, rfl⟩
  refine ⟨rfl, ?_⟩
  refine JL_nil ⟨⟨_, hnd, hpk⟩, ?_⟩
  (repeat' (first
    | refine JW_evO (gs := [999]) rfl rfl ?_
    | refine JW_still [999] rfl (OpV_blk 1 rfl rfl rfl rfl) rfl ?_
    | refine JW_still [999] rfl (OpV_blk 3 rfl rfl rfl rfl) rfl ?_
    | refine JW_still [999] rfl (OpV_blk 4 rfl rfl rfl rfl) rfl ?_))
  refine JW_nil ?_
  refine JL_nil ?_
  refine J_set 5 (v' := .int .i64 (w : Int)) rfl (congrArg (Value.int .i64) hte.1) ?_
  show J _ _ _ _ (workB P s bE bV v)
  (repeat' (first | refine J_seq ?_ | refine J_skip ?_ | refine J_yes rfl ?_ | refine J_no rfl ?_))
  refine J_region ?_
  (repeat' (first
    | refine JL_evO (gs := [999]) rfl ?_
    | refine JL_val [999] (OpV_blk 5 rfl rfl rfl rfl) rfl ?_
    | refine JL_val [999] (OpV_blk 9 rfl rfl rfl rfl) rfl ?_
    | refine JL_val [999] (OpV_blk 10 rfl rfl rfl rfl) rfl ?_))
  refine JL_callK [] (settle_fn hP s hI.ta hF hI.vo hv hw hq hr hval) rfl rfl rfl rfl (by kernel_rfl) workB_call ⟨⟨0, _, by simp, rfl, shows_seg _ _ _, seen_seg⟩, trivial⟩ (fun _ => rfl) ?_
  rintro _ H' ⟨fs', row', rfl, hF', hk'⟩
  refine ⟨noSeg_app rfl (noSeg_rows _ _), ?_⟩
  refine JL_fit workB_back ?_
  refine JL_nil ?_
  (repeat' (first | refine J_seq ?_ | refine J_skip ?_ | refine J_yes rfl ?_ | refine J_no rfl ?_))
  refine J_walkE 15 [0, 1, 2, 3, 4, 5, 6, 7, 8, 9, 10, 11, 12, 13] 14 [] (by kernel_rfl) ?_
  (repeat' (first
    | refine JE_evO (gs := [999]) rfl rfl ?_
    | refine JE_still [999] rfl rfl (OpV_blk 5 rfl rfl rfl rfl) rfl ?_
    | refine JE_still [999] rfl rfl (OpV_blk 9 rfl rfl rfl rfl) rfl ?_
    | refine JE_still [999] rfl rfl (OpV_blk 10 rfl rfl rfl rfl) rfl ?_))
  refine JE_addr [999] rfl (idx1z rfl rfl rfl rfl rfl hvN) rfl ?_
  refine JE_still [999] rfl rfl (OpV_own 7 rfl rfl rfl hvv) rfl ?_
  refine JE_addr [999] rfl (OpV_from (i := 1) rfl rfl rfl rfl rfl (by omega)) rfl ?_
  refine JE_addr [999] rfl (idx1z rfl rfl rfl rfl rfl hvN) rfl ?_
  refine JE_first rfl ?_
  refine JL_store_own 7 rfl rfl rfl rfl (put_one rfl rfl rfl hvl) [] rfl ?_
  refine JL_nil ⟨⟨[], by decide, rfl⟩, ?_⟩
  refine JW_nil ?_
  refine JL_nil ?_
  obtain ⟨vals', hvals'⟩ : ∃ x, x = s.vals.set v (.slice (cutA (some ⟨gv v, q, none⟩) c' 1 1) (rw_.l.length - q - 1) (c' - 1)) := ⟨_, rfl⟩
  refine J_fit (K := workB P { s with fs := fs', rm := s.rm.set r (val v), k := s.k + 1, vals := vals' } bE bV v) (by rw [hvals']; exact Fit.refl) ?_
  have hrl2 := hP.rl
  have hul := hI.tb.len
  have hwu : w < s.un.length := by omega
  refine J_fit (Fit.front (A := P.fo fs' ++ [P.sg, P.pc (s.k + 1) s.w, P.rc (s.rm.set r (val v)), P.lc vals', P.uc s.un, blk bE 195 [.pointer (some ⟨P.pe, 0, none⟩)], blk bV 3 [.int .i64 (v : Int)]]) (R := P.rows s.un) (i := P.rowsL.length + w) (c := rowC 3 ⟨Aw, cw, natZ (pre ++ v :: post)⟩) (by unfold EP.rows; rw [List.getElem?_map, List.getElem?_append_right (by omega), Nat.add_sub_cancel_left, hun]; rfl)) ?_
  refine J_know (own_is 0 rfl) fun ⟨_, hcw, hAw, _⟩ => ?_
  obtain ⟨gw, rfl⟩ := hAw (by rw [natZ_length]; simp; omega)
  rw [rowC_own]
  rw [natZ_length] at hcw
  obtain ⟨R, hR⟩ : ∃ R, R = (P.rows s.un).eraseIdx (P.rowsL.length + w) := ⟨_, rfl⟩
  rw [← hR]
  refine J_fit (K := (P.fo fs' ++ [P.sg, P.pc (s.k + 1) s.w, P.rc (s.rm.set r (val v)), P.lc vals', P.uc s.un, blk bE 195 [.pointer (some ⟨P.pe, 0, none⟩)], blk bV 3 [.int .i64 (v : Int)], ownI gw (pre ++ v :: post).length cw (pre ++ v :: post)]) ++ R) (Fit.re (A := ownI gw (pre ++ v :: post).length cw (pre ++ v :: post) :: (P.fo fs' ++ [P.sg, P.pc (s.k + 1) s.w, P.rc (s.rm.set r (val v)), P.lc vals', P.uc s.un, blk bE 195 [.pointer (some ⟨P.pe, 0, none⟩)], blk bV 3 [.int .i64 (v : Int)]])) (R := R) [1, 2, 3, 4, 5, 6, 7, 8, 9, 10, 11, 0] rfl (by decide)) ?_
  have hfs : ∀ {kk : Nat} {W : List Nat} {X : Cx}, Fit X ((P.fo fs' ++ [P.sg, P.pc kk s.w, P.rc (s.rm.set r (val v)), P.lc vals', P.uc s.un, blk bE 195 [.pointer (some ⟨P.pe, 0, none⟩)], blk bV 3 [.int .i64 (v : Int)], ownI gw W.length cw W]) ++ R)
      ([.seg P.pe 0 ((engC P 0 0).take 9), P.uc s.un, blk bE 195 [.pointer (some ⟨P.pe, 0, none⟩)], blk bV 3 [.int .i64 (v : Int)]] ++ R) := by
    intro kk W X
    refine Fit.trans (Fit.re (A1 := [P.pc kk s.w, P.uc s.un, blk bE 195 [.pointer (some ⟨P.pe, 0, none⟩)], blk bV 3 [.int .i64 (v : Int)]]) [5, 8, 9, 10] rfl (by decide)) ?_
    refine Fit.seg (off := 0) 0 rfl fun i v hi => ?_
    rw [Nat.zero_add]
    have hi9 : i < 9 := by have := (List.getElem?_eq_some_iff.1 hi).1; simpa [engC] using this
    rw [List.getElem?_take, if_pos hi9] at hi
    rw [← hi]
    match i, hi9 with
    | 0, _ => rfl
    | 1, _ => rfl
    | 2, _ => rfl
    | 3, _ => rfl
    | 4, _ => rfl
    | 5, _ => rfl
    | 6, _ => rfl
    | 7, _ => rfl
    | 8, _ => rfl
  refine J_walkF 15 [(0, true), (1, true), (2, true), (3, true), (4, true), (5, true), (6, true), (7, true), (8, true), (9, true), (10, true), (11, true), (12, true), (13, false), (14, true)] (by kernel_rfl) (hfs (W := pre ++ v :: post)) ?_
  (repeat' (first
    | refine JW_evO (gs := [999]) rfl rfl ?_
    | refine JW_still [999] rfl (ldseg (i := 7) 0 rfl rfl rfl rfl rfl) rfl ?_
    | refine JW_still [999] rfl (OpV_blk 2 rfl rfl rfl rfl) rfl ?_
    | refine JW_still [999] rfl (idx1z rfl rfl rfl rfl rfl (show w < P.n + 1 by omega)) rfl ?_))
  have hunv : (s.un.map rowV)[w]? = some (.slice (some ⟨gw, 0, none⟩) (pre ++ v :: post).length cw) := by
    rw [List.getElem?_map, hun]
    show some (Value.slice _ (natZ (pre ++ v :: post)).length _) = _
    rw [natZ_length]
  refine JW_still [999] rfl (OpV_own 1 rfl rfl rfl hunv) rfl ?_
  refine JW_evO (gs := [999]) rfl rfl ?_
  refine JW_effF rfl ?_
  have hvp : v ∉ pre ∧ v ∉ post := by
    obtain ⟨_, d2, d3⟩ := List.nodup_append.1 hWd
    exact ⟨fun hx => d3 v hx v (by simp) rfl, (List.nodup_cons.1 d2).1⟩
  refine JL_callK (K := P.fo fs' ++ [P.sg, P.rc (s.rm.set r (val v)), P.lc vals', P.uc s.un, blk bE 195 [.pointer (some ⟨P.pe, 0, none⟩)], blk bV 3 [.int .i64 (v : Int)]] ++ R) [999] (deldel_fn P (s.k + 1) s.w bE bV v pre post hvp.1 hvp.2 gw (pre ++ v :: post).length cw rfl (by omega) hcw) rfl rfl rfl rfl (by kernel_rfl)
    (Fit.re (A := P.fo fs' ++ [P.sg, P.pc (s.k + 1) s.w, P.rc (s.rm.set r (val v)), P.lc vals', P.uc s.un, blk bE 195 [.pointer (some ⟨P.pe, 0, none⟩)], blk bV 3 [.int .i64 (v : Int)], ownI gw (pre ++ v :: post).length cw (pre ++ v :: post)]) (R := R) [5, 11, 0, 1, 2, 3, 4, 6, 7, 8, 9, 10] rfl (by decide)) ⟨⟨8, _, by simp, rfl, shows_blk _ _ _ (0, 0), .inr rfl⟩, ⟨9, _, by simp, rfl, shows_blk _ _ _ (0, 0), .inr rfl⟩, trivial⟩ (fun _ => rfl) ?_
  rintro _ H' ⟨rfl, rfl⟩
  refine ⟨rfl, ?_⟩
  obtain ⟨k2, hk2⟩ : ∃ x, x = s.k + 1 + (pre ++ v :: post).length := ⟨_, rfl⟩
  rw [← hk2]
  refine JL_fit (K := (P.fo fs' ++ [P.sg, P.pc k2 s.w, P.rc (s.rm.set r (val v)), P.lc vals', P.uc s.un, blk bE 195 [.pointer (some ⟨P.pe, 0, none⟩)], blk bV 3 [.int .i64 (v : Int)], ownI gw (pre.length + post.length) cw (pre ++ post)]) ++ R)
    (Fit.re (A := [P.pc k2 s.w, ownI gw (pre.length + post.length) cw (pre ++ post)] ++ (P.fo fs' ++ [P.sg, P.rc (s.rm.set r (val v)), P.lc vals', P.uc s.un, blk bE 195 [.pointer (some ⟨P.pe, 0, none⟩)], blk bV 3 [.int .i64 (v : Int)]])) (R := R) [2, 3, 4, 5, 6, 0, 7, 8, 9, 10, 11, 1] rfl (by decide)) ?_
  rw [show pre.length + post.length = (pre ++ post).length by simp]
  refine JL_nil ⟨hfs (W := pre ++ post), ?_⟩
  refine JW_still [999] rfl (idx1z rfl rfl rfl rfl rfl (show w < P.n + 1 by omega)) rfl ?_
  refine JW_nil ?_
  refine JL_store_own 8 rfl rfl rfl rfl (put_one rfl rfl rfl (by rw [List.length_map]; exact hwu)) [] rfl ?_
  obtain ⟨un', hun'⟩ : ∃ x, x = s.un.set w ⟨some ⟨gw, 0, none⟩, cw, natZ (pre ++ post)⟩ := ⟨_, rfl⟩
  rw [show (s.un.map rowV).set w (.slice (some ⟨gw, 0, none⟩) (pre ++ post).length cw) = un'.map rowV from by
    rw [hun', List.map_set]; unfold rowV; simp only [natZ_length]]
  have hfin : ∀ {X : Cx}, Fit X ((P.fo fs' ++ [P.sg, P.pc k2 s.w, P.rc (s.rm.set r (val v)), P.lc vals', P.uc un', blk bE 195 [.pointer (some ⟨P.pe, 0, none⟩)], blk bV 3 [.int .i64 (v : Int)], ownI gw (pre ++ post).length cw (pre ++ post)]) ++ R)
      (engH P ⟨vals', un', fs', s.rm.set r (val v), k2, s.w⟩) := by
    intro X
    refine Fit.trans (Fit.re (A1 := ownI gw (pre ++ post).length cw (pre ++ post) :: (P.fo fs' ++ [P.pc k2 s.w, P.rc (s.rm.set r (val v)), P.lc vals', P.uc un'])) [11, 0, 1, 2, 3, 5, 6, 7, 8] rfl (by decide)) ?_
    rw [hR, ← rowC_own]
    refine Fit.trans (Fit.back (A := P.fo fs' ++ [P.pc k2 s.w, P.rc (s.rm.set r (val v)), P.lc vals', P.uc un']) (by unfold EP.rows; rw [List.length_map, List.length_append]; omega)) ?_
    rw [rows_set, ← hun']
    exact Fit.refl
  refine JL_fit hfin ?_
  refine JL_nil ?_
  refine ⟨_, rfl, ⟨vals', un', fs', s.rm.set r (val v), k2, s.w⟩, rfl, ⟨⟨row', hF'⟩, (hI.ta.settle hP hv hw hq hr hval).bump (by simp [ovSet]), ?_, ?_⟩, rfl, ?_⟩
  · rw [hvals']
    exact hI.vo.bump hrow hq hql hlc
  · rw [hun']
    exact hI.tb.del hun hWd hWm hw
  · show k2 + fs'.k ≤ s.k + s.fs.k + _ + _ + 1
    omega
end
end Go.Proofs.YtfogkbmbmaganaaGreat
