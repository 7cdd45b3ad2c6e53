/- The engine and the words that all chapters share: several texts in one. -/
import Derived.Test.YtfogkbmbmaganaaQB
import Derived.Test.YtfogkbmbmaganaaTreV

/- Rows that are cloned. -/
set_option linter.unusedVariables false
set_option linter.unusedSimpArgs false
namespace Go.Proofs.Ytfogkbmbmaganaa
open Go.RowKit
theorem one_ints' (l : List Int) : one (ints l) = true := by
  induction l with
  | nil => rfl
  | cons x l ih => exact ih
theorem cloneI_fn (A : Option Addr) (c b o : Nat) (l : List Int) (hA : l ≠ [] → A = some ⟨b, o, none⟩) (hl : l.length ≤ 100000) :
    Fn 62 [.slice A l.length c] [] [.seg b o (ints l)] fun v H' => ∃ (A' : Option Addr) (c' : Nat), v = .slice A' l.length c' ∧ H' = [.own (.slice A' l.length c') 3 1 l.length (ints l)] := by
  refine Fn_of Try.func62 rfl rfl fun w0 => ?_
  (repeat' (first | refine J_seq ?_ | refine J_skip ?_ | refine J_yes rfl ?_ | refine J_no rfl ?_))
  refine J_region ?_
  refine JL_all [] rfl ?_
  (repeat' (first | refine J_seq ?_ | refine J_skip ?_ | refine J_yes rfl ?_ | refine J_no rfl ?_))
  refine J_region ?_
  refine JL_run [] rfl ?_
  refine JL_val [] (OpV_isnil rfl rfl rfl rfl) rfl ?_
  refine JL_nil ?_
  cases A with
  | none =>
    have h0 : l = [] := Classical.byContradiction fun h => by have := hA h; simp at this
    subst h0
    refine J_yes rfl ?_
    (repeat' (first | refine J_seq ?_ | refine J_skip ?_ | refine J_yes rfl ?_ | refine J_no rfl ?_))
    refine J_region ?_
    refine JL_all [] rfl ?_
    refine J_addnil 3 1 ?_
    exact J_drop [0] (by decide) rfl (J_ret ⟨_, rfl, none, 0, rfl, rfl⟩)
  | some a =>
    refine J_no rfl (J_skip ?_)
    (repeat' (first | refine J_seq ?_ | refine J_skip ?_ | refine J_yes rfl ?_ | refine J_no rfl ?_))
    refine J_region ?_
    refine JL_lit rfl rfl rfl rfl rfl rfl rfl (fun _ => rfl) fun g => ?_
    refine JL_own 1 0 rfl (by decide) ?_
    refine JL_run [] rfl ?_
    refine JL_appendS (n := 0) (m := l.length) (off := o) (b := b) (news := ints l) 0 1 rfl rfl rfl rfl rfl rfl (by decide) rfl rfl (shows_seg _ _ _) (fun h => hA (fun e => h (by rw [e]; rfl))) (by rw [ints_length]; omega) (one_ints' l) (by omega) (by omega) (fun _ _ => rfl) fun A2 c2 => ?_
    rw [Nat.zero_add]
    refine JL_all [] rfl ?_
    exact J_drop [0] (by decide) rfl (J_ret ⟨_, rfl, A2, c2, rfl, rfl⟩)
theorem cloneL_fn (A : Option Addr) (c b o : Nat) (l : List Int) (hA : l ≠ [] → A = some ⟨b, o, none⟩) (hl : l.length ≤ 100000) :
    Fn 12 [.slice A l.length c] [] [.seg b o (ints l)] fun v H' => ∃ (A' : Option Addr) (c' : Nat), v = .slice A' l.length c' ∧ H' = [.own (.slice A' l.length c') 2 1 l.length (ints l)] := by
  refine Fn_of Try.func12 rfl rfl fun w0 => ?_
  (repeat' (first | refine J_seq ?_ | refine J_skip ?_ | refine J_yes rfl ?_ | refine J_no rfl ?_))
  refine J_region ?_
  refine JL_all [] rfl ?_
  (repeat' (first | refine J_seq ?_ | refine J_skip ?_ | refine J_yes rfl ?_ | refine J_no rfl ?_))
  refine J_region ?_
  refine JL_run [] rfl ?_
  refine JL_val [] (OpV_isnil rfl rfl rfl rfl) rfl ?_
  refine JL_nil ?_
  cases A with
  | none =>
    have h0 : l = [] := Classical.byContradiction fun h => by have := hA h; simp at this
    subst h0
    refine J_yes rfl ?_
    (repeat' (first | refine J_seq ?_ | refine J_skip ?_ | refine J_yes rfl ?_ | refine J_no rfl ?_))
    refine J_region ?_
    refine JL_all [] rfl ?_
    refine J_addnil 2 1 ?_
    exact J_drop [0] (by decide) rfl (J_ret ⟨_, rfl, none, 0, rfl, rfl⟩)
  | some a =>
    refine J_no rfl (J_skip ?_)
    (repeat' (first | refine J_seq ?_ | refine J_skip ?_ | refine J_yes rfl ?_ | refine J_no rfl ?_))
    refine J_region ?_
    refine JL_lit rfl rfl rfl rfl rfl rfl rfl (fun _ => rfl) fun g => ?_
    refine JL_own 1 0 rfl (by decide) ?_
    refine JL_run [] rfl ?_
    refine JL_appendS (n := 0) (m := l.length) (off := o) (b := b) (news := ints l) 0 1 rfl rfl rfl rfl rfl rfl (by decide) rfl rfl (shows_seg _ _ _) (fun h => hA (fun e => h (by rw [e]; rfl))) (by rw [ints_length]; omega) (one_ints' l) (by omega) (by omega) (fun _ _ => rfl) fun A2 c2 => ?_
    rw [Nat.zero_add]
    refine JL_all [] rfl ?_
    exact J_drop [0] (by decide) rfl (J_ret ⟨_, rfl, A2, c2, rfl, rfl⟩)
end Go.Proofs.Ytfogkbmbmaganaa


/- The engine by trees: what a dead node is linked by is cut off, step by step. -/
set_option linter.unusedVariables false
set_option linter.unusedSimpArgs false
namespace Go.Proofs.Ytfogkbmbmaganaa
open Go.RowKit
def lkN (par : OV) (n : Nat) : Nat := ((List.range (n + 1)).map fun v => if (par v).isSome then 1 else 0).sum
theorem lkN_cut {par : OV} {n v w : Nat} (hv : v ≤ n) (hw : par v = some w) : lkN (ovSet par v none) n + 1 = lkN par n := by
  unfold lkN
  refine sum_map_one (v := v) List.nodup_range (List.mem_range.2 (by omega)) (fun u _ hu => by simp [ovSet, hu]) ?_
  simp [ovSet, hw]
theorem lkN_link {par : OV} {n v w : Nat} (hv : v ≤ n) (hn : par v = none) : lkN (ovSet par v (some w)) n = lkN par n + 1 := by
  unfold lkN
  refine (sum_map_one (v := v) (f := fun v => if (par v).isSome then 1 else 0) (g := fun u => if (ovSet par v (some w) u).isSome then 1 else 0) List.nodup_range (List.mem_range.2 (by omega)) (fun u _ hu => by simp [ovSet, hu]) ?_).symm
  simp [ovSet, hn]
theorem lkN_le (par : OV) (n : Nat) : lkN par n ≤ n + 1 := by
  unfold lkN
  have : ∀ l : List Nat, (l.map fun v => if (par v).isSome then 1 else 0).sum ≤ l.length := by
    intro l
    induction l with
    | nil => simp
    | cons a l ih =>
      simp only [List.map_cons, List.sum_cons, List.length_cons]
      split <;> omega
  have h := this (List.range (n + 1))
  rwa [List.length_range] at h
def Sub (par par' : OV) (val val' : Nat → Int) : Prop := ∀ u w, par' u = some w → par u = some w ∧ val' u = val u
theorem Sub.refl {par : OV} {val : Nat → Int} : Sub par par val val := fun _ _ h => ⟨h, rfl⟩
theorem Sub.cut {par par' : OV} {val val' : Nat → Int} (h : Sub par par' val val') {v : Nat} {d : Int} : Sub par (ovSet par' v none) val (valAt val' v d) := by
  intro u w hu
  by_cases e : u = v
  · subst e; simp [ovSet] at hu
  · have h1 := h u w (by simpa [ovSet, e] using hu)
    exact ⟨h1.1, by rw [← h1.2]; simp [valAt, e]⟩
section
variable {P : EP} {L : Nat → List Nat} {lv : Nat → Int} {gv : Nat → Nat} {rm0 tr : List Int} {pos : List Nat} {par : OV} {val : Nat → Int}
def workC (P : EP) (s : ES) (c : Chunk) : Heap := (P.fo s.fs ++ [P.sg, P.pc s.k s.w, P.rc s.rm, P.lc s.vals, P.uc s.un, c]) ++ P.rows s.un
theorem workC_in {X : Cx} {s : ES} {c : Chunk} : Fit X (c :: work P s) (workC P s c) :=
  Fit.re (A := c :: (P.fo s.fs ++ [P.sg, P.pc s.k s.w, P.rc s.rm, P.lc s.vals, P.uc s.un])) (R := P.rows s.un) [1, 2, 3, 4, 5, 6, 7, 8, 9, 0] rfl (by decide)
theorem workC_call {X : Cx} {s : ES} {c : Chunk} : Fit X (workC P s c) (engH P s ++ [P.sg, c]) :=
  Fit.mid (A := P.fo s.fs ++ [P.sg, P.pc s.k s.w, P.rc s.rm, P.lc s.vals, P.uc s.un, c]) (R := P.rows s.un) [0, 1, 2, 3, 5, 6, 7, 8] [4, 9] rfl rfl (by decide)
theorem workC_back {X : Cx} {s : ES} {c : Chunk} : Fit X (engH P s ++ [P.sg, c]) (workC P s c) := by
  refine Fit.trans (Fit.swap (A := P.fo s.fs ++ [P.pc s.k s.w, P.rc s.rm, P.lc s.vals, P.uc s.un]) (R := P.rows s.un) (B := [P.sg, c])) ?_
  exact Fit.re (A := (P.fo s.fs ++ [P.pc s.k s.w, P.rc s.rm, P.lc s.vals, P.uc s.un]) ++ [P.sg, c]) (R := P.rows s.un) [0, 1, 2, 3, 8, 4, 5, 6, 7, 9] rfl (by decide)
theorem workC_out {X : Cx} {s : ES} {c : Chunk} : Fit X (workC P s c) (engH P s) :=
  Fit.re (A := P.fo s.fs ++ [P.sg, P.pc s.k s.w, P.rc s.rm, P.lc s.vals, P.uc s.un, c]) (R := P.rows s.un) [0, 1, 2, 3, 5, 6, 7, 8] rfl (by decide)
structure CutsP (P : EP) (L : Nat → List Nat) (gv : Nat → Nat) (rm0 tr : List Int) (pos : List Nat) (par : OV) (val : Nat → Int) (s : ES) (u : Nat) (pos' : List Nat) (par' : OV) (val' : Nat → Int) (s' : ES) : Prop where
  ti : TInv P L gv rm0 tr pos' par' val' s'
  pi : PI P.N L P.least tr pos' []
  sub : Sub par par' val val'
  rem : remL L P.n pos' + u = remL L P.n pos
  lk : lkN par' P.n + u = lkN par P.n
  w : s'.w = s.w
theorem back_fn (hP : EPOk P L lv gv) (s : ES) (hI : TInv P L gv rm0 tr pos par val s) (hPI : PI P.N L P.least tr pos []) {v : Nat} (hv : v ≤ P.n) (hd : Dead L pos v) (hvs : v ≠ P.N.snk.toNat) {v0 : Nat} (hv0 : v0 ≤ P.n) (hpv : par v0 = some v) :
    Fn 77 [.pointer (some ⟨P.pe, 0, none⟩), .int .i64 (v : Int)] (mines (engH P s)) ([P.sg] ++ engH P s)
      fun _ H' => ∃ u pos' par' val' s', H' = engH P s' ∧ 1 ≤ u ∧ CutsP P L gv rm0 tr pos par val s u pos' par' val' s' ∧ s'.cost ≤ s.cost + u * (2 * accN (P.n + 1) + 12 * (P.n + 1) + 1) := by
  have hN := hP.small
  have hvN : v < P.n + 1 := by omega
  obtain ⟨A, c, W, hun, hWd, hWm, hWl⟩ := hI.tb.get hv
  have hul := hI.tb.len
  have hrl0 := hP.rl
  generalize hM : mines _ = M
  refine Fn_of Try.func77 rfl rfl fun w0 => ?_
  refine J_fit work_in ?_
  refine J_know (own_is (9 + (P.rowsL.length + v)) (un_at hun)) fun ⟨_, _, hA, hlA⟩ => ?_
  obtain ⟨g, hA⟩ := own_at hA hlA
  (repeat' (first | refine J_seq ?_ | refine J_skip ?_ | refine J_yes rfl ?_ | refine J_no rfl ?_))
  refine J_region ?_
  (repeat' (first
    | refine JL_evO (gs := [999]) rfl ?_
    | refine JL_val [999] (OpV_blk 5 rfl rfl rfl rfl) rfl ?_))
  refine JL_val [999] (idx1z rfl rfl rfl rfl rfl hvN) rfl ?_
  refine JL_val [999] (OpV_own (v := .slice A (natZ W).length c) 8 rfl rfl rfl (show (s.un.map rowV)[v]? = _ by rw [List.getElem?_map, hun]; rfl)) rfl ?_
  refine JL_callR [] (cloneI_fn A c g 0 (natZ W) (fun h => hA (by intro h0; apply h; exact List.length_eq_zero_iff.1 (by rw [← ints_length, h0]; rfl))) (by rw [natZ_length]; omega)) rfl rfl rfl rfl (by kernel_rfl) ⟨⟨9 + (P.rowsL.length + v), _, by simp, un_at hun, shows_ownS hA, seen_ownS hA⟩, trivial⟩ (fun _ => rfl) ?_
  rintro _ H' ⟨Ac, cc, rfl, rfl⟩
  refine ⟨rfl, ?_⟩
  rw [natZ_length]
  (repeat' (first
    | refine JL_evO (gs := [999]) rfl ?_
    | refine JL_val [999] (OpV_blk 5 rfl rfl rfl rfl) rfl ?_))
  refine JL_nil ?_
  refine J_fit workC_in ?_
  refine J_know (own_is 9 rfl) fun ⟨_, _, hAc, hlAc⟩ => ?_
  obtain ⟨gc, hAc⟩ := own_at hAc hlAc
  have hAcW : W ≠ [] → Ac = some ⟨gc, 0, none⟩ := fun h => hAc (natsI_ne h)
  refine J_block ?_
  refine J_loopF (σ := Nat × List Nat × OV × (Nat → Int) × ES) (fun t => [(15, .int .i64 (t.1 : Int)), (14, .int .i64 (W.length : Int)), (13, .slice Ac W.length cc), (0, .pointer (some ⟨P.pe, 0, none⟩))]) (fun t => workC P t.2.2.2.2 (.own (.slice Ac W.length cc) 3 1 W.length (natsI W)))
    (fun t => t.1 ≤ W.length ∧ CutsP P L gv rm0 tr pos par val s t.1 t.2.1 t.2.2.1 t.2.2.2.1 t.2.2.2.2 ∧ t.2.2.2.2.cost ≤ s.cost + t.1 * (2 * accN (P.n + 1) + 12 * (P.n + 1) + 1) ∧ Dead L t.2.1 v ∧ ∀ j u, t.1 ≤ j → W[j]? = some u → t.2.2.1 u = some v) (fun t => W.length - t.1) (0, pos, par, val, s) ⟨rfl, rfl, rfl, rfl, trivial⟩ Fit.refl
    ⟨Nat.zero_le _, ⟨hI, hPI, Sub.refl, rfl, rfl, rfl⟩, by simp, hd, fun j u _ hu => ((hWm u).1 (List.mem_of_getElem? hu)).2⟩ ?_
  rintro ⟨i, pos1, par1, val1, s1⟩ ⟨hi, hC, h3, hd1, hin⟩
  simp only at hi hC h3 hd1 hin ⊢
  (repeat' (first | refine J_seq ?_ | refine J_skip ?_ | refine J_yes rfl ?_ | refine J_no rfl ?_))
  refine J_region ?_
  refine JL_all [] rfl ?_
  (repeat' (first | refine J_seq ?_ | refine J_skip ?_ | refine J_yes rfl ?_ | refine J_no rfl ?_))
  refine J_dec rfl (fun hlt => J_skip ?_) (fun hge => ?_)
  · have hiW : i < W.length := by omega
    obtain ⟨u, hu⟩ : ∃ u, W[i]? = some u := ⟨W[i], List.getElem?_eq_getElem hiW⟩
    have hu2 := (hWm u).1 (List.mem_of_getElem? hu)
    have hpu := hin i u (Nat.le_refl _) hu
    obtain ⟨q, r, hq, hr, hto, hval⟩ := hC.ti.ta.link u v hu2.1 hpu
    obtain rfl := hAcW (by intro h; rw [h] at hiW; simp at hiW)
    refine J_seq (J_block ?_)
    (repeat' (first | refine J_seq ?_ | refine J_skip ?_ | refine J_yes rfl ?_ | refine J_no rfl ?_))
    refine J_region ?_
    refine JL_val [] (idx1z rfl rfl rfl rfl rfl hiW) rfl ?_
    refine JL_val [] (OpV_own 9 rfl rfl rfl (natsI_get hu)) rfl ?_
    refine JL_all [] rfl ?_
    (repeat' (first | refine J_seq ?_ | refine J_skip ?_ | refine J_yes rfl ?_ | refine J_no rfl ?_))
    refine J_region ?_
    (repeat' (first
      | refine JL_evO (gs := [999]) rfl ?_
      | refine JL_val [999] (OpV_blk 5 rfl rfl rfl rfl) rfl ?_))
    refine JL_callK [] (unlink_fn hP s1 hC.ti hu2.1 hpu hq hr hto hval) rfl rfl rfl rfl (by kernel_rfl) workC_call ⟨⟨0, _, by simp, rfl, shows_seg _ _ _, seen_seg⟩, trivial⟩ (fun _ => rfl) ?_
    rintro _ H' ⟨s2, rfl, hI2, hw2, hk2⟩
    refine ⟨noSeg_app rfl (noSeg_rows _ _), ?_⟩
    refine JL_fit workC_back ?_
    refine JL_nil ?_
    (repeat' (first | refine J_seq ?_ | refine J_skip ?_ | refine J_yes rfl ?_ | refine J_no rfl ?_))
    refine J_region ?_
    refine JL_all [] rfl ?_
    have hrem := remL_bump (L := L) hq hu2.1 (List.getElem?_eq_some_iff.1 hr).1
    have hlk := lkN_cut hu2.1 hpu
    have h1 := hC.rem
    have h2 := hC.lk
    refine ⟨(i + 1, pos1.set u (q + 1), ovSet par1 u none, valAt val1 u (4611686018427387904 - val1 u), s2), ⟨?_, rfl, rfl, rfl, trivial⟩, Fit.refl, ⟨hiW, ⟨hI2, hC.pi.bump (fun _ h => by cases h) hq hr (.inr ⟨by rw [hto]; exact hvs, by rw [hto]; exact hd1⟩), hC.sub.cut, by show remL L P.n (pos1.set u (q + 1)) + (i + 1) = _; omega, by show lkN (ovSet par1 u none) P.n + (i + 1) = _; omega, by rw [hw2]; exact hC.w⟩, ?_, hd1.more hq, fun j z hj hz => ?_⟩, ?_⟩
    · show some (Value.int .i64 (IntKind.i64.wrap ((i : Int) + 1))) = _
      rw [w64 (by omega)]; rfl
    · show s2.cost ≤ s.cost + (i + 1) * _
      rw [Nat.add_mul, Nat.one_mul]; omega
    · have hne : z ≠ u := by
        rintro rfl
        have e1 := (List.getElem?_eq_some_iff.1 hz)
        have e2 := (List.getElem?_eq_some_iff.1 hu)
        have := (List.getElem_inj hWd).1 (e1.2.trans e2.2.symm)
        simp only at hj
        omega
      have := hin j z (by simp only at hj; omega) hz
      simpa [ovSet, hne] using this
    · simp only; omega
  · obtain rfl : i = W.length := by omega
    have hpos : 0 < W.length := List.length_pos_of_mem ((hWm v0).2 ⟨hv0, hpv⟩)
    refine J_fit workC_out (J_exit ?_)
    exact ⟨_, rfl, W.length, pos1, par1, val1, s1, rfl, hpos, hC, h3⟩
end
end Go.Proofs.Ytfogkbmbmaganaa
