
/- The engine by trees: all that is linked still is settled, step by step. -/
import Derived.Test.YtfogkbmbmaganaaGreatTreZ
set_option linter.unusedVariables false
set_option linter.unusedSimpArgs false
namespace Go.Proofs.YtfogkbmbmaganaaGreat
open Go.RowKit
section
variable {P : EP} {L : Nat → List Nat} {lv : Nat → Int} {gv : Nat → Nat} {rm0 tr : List Int} {pos : List Nat} {par : OV} {val : Nat → Int}
structure FlS where
  i : Nat
  par : OV
  val : Nat → Int
  s : ES
structure FlP (P : EP) (L : Nat → List Nat) (gv : Nat → Nat) (rm0 tr : List Int) (pos : List Nat) (par : OV) (s : ES) (ok : Nat → Nat → Prop) (par' : OV) (val' : Nat → Int) (s' : ES) (i : Nat) : Prop where
  fa : ∃ row, FAb (P.n + 1) s'.fs par' val' row
  ta : TA P L rm0 tr pos par' val' s'.rm
  vals : s'.vals = s.vals
  un : s'.un = s.un
  w : s'.w = s.w
  sub : ∀ u w, u ≤ P.n → (par' u = some w ↔ par u = some w ∧ ok u w)
  cost : s'.cost + (2 * accN (P.n + 1) + 11 * (P.n + 1) + 1) * lkN par' P.n ≤ s.cost + (2 * accN (P.n + 1) + 11 * (P.n + 1) + 1) * lkN par P.n + i
set_option maxHeartbeats 1000000 in
theorem flush_fn (hP : EPOk P L lv gv) (s : ES) (hI : TInv P L gv rm0 tr pos par val s) :
    Fn 127 [.pointer (some ⟨P.pe, 0, none⟩)] (mines (engH P s)) ([P.sg] ++ engH P s) fun _ H' => ∃ par' val' s', H' = engH P s' ∧ TA P L rm0 tr pos par' val' s'.rm ∧ (∀ u, u ≤ P.n → par' u = none) ∧ s'.w = s.w ∧ s'.cost ≤ s.cost + (2 * accN (P.n + 1) + 11 * (P.n + 1) + 1) * (P.n + 1) + (P.n + 1) := by
  have hN := hP.small
  have hul := hI.tb.len
  obtain ⟨KS, hKS⟩ : ∃ x, x = 2 * accN (P.n + 1) + 11 * (P.n + 1) + 1 := ⟨_, rfl⟩
  generalize hM : mines _ = M
  refine Fn_of Tryz.func127 rfl rfl fun w0 => ?_
  refine J_fit work_in ?_
  (repeat' (first | refine J_seq ?_ | refine J_skip ?_ | refine J_yes rfl ?_ | refine J_no rfl ?_))
  refine J_region ?_
  (repeat' (first
    | refine JL_evO (gs := [999]) rfl ?_
    | refine JL_val [999] (OpV_blk 5 rfl rfl rfl rfl) rfl ?_))
  refine JL_nil ?_
  refine J_block ?_
  refine J_loopF (σ := FlS) (fun t => [(11, .int .i64 (t.i : Int)), (10, .int .i64 ((P.n + 1 : Nat) : Int)), (9, .slice (some ⟨P.gu, 0, none⟩) (P.n + 1) (P.n + 1)), (0, .pointer (some ⟨P.pe, 0, none⟩))]) (fun t => work P t.s)
    (fun t => t.i ≤ P.n + 1 ∧ FlP P L gv rm0 tr pos par s (fun _ w => t.i ≤ w) t.par t.val t.s t.i) (fun t => P.n + 1 - t.i) ⟨0, par, val, s⟩ ⟨rfl, rfl, rfl, rfl, trivial⟩ Fit.refl
    ⟨Nat.zero_le _, ⟨hI.fa, hI.ta, rfl, rfl, rfl, fun u w _ => ⟨fun h => ⟨h, Nat.zero_le _⟩, fun h => h.1⟩, Nat.le_refl _⟩⟩ ?_
  rintro ⟨i, par1, val1, s1⟩ ⟨hi, hF1⟩
  simp only at hi hF1 ⊢
  (repeat' (first | refine J_seq ?_ | refine J_skip ?_ | refine J_yes rfl ?_ | refine J_no rfl ?_))
  refine J_region ?_
  refine JL_all [] rfl ?_
  (repeat' (first | refine J_seq ?_ | refine J_skip ?_ | refine J_yes rfl ?_ | refine J_no rfl ?_))
  refine J_dec rfl (fun hlt => J_skip ?_) (fun hge => ?_)
  · have hin : i ≤ P.n := by omega
    obtain ⟨A, c, W, hun, hWd, hWm, hWl⟩ := hI.tb.get hin
    have hun1 : s1.un[i]? = some ⟨A, c, natZ W⟩ := by rw [hF1.un]; exact hun
    refine J_seq (J_block ?_)
    (repeat' (first | refine J_seq ?_ | refine J_skip ?_ | refine J_yes rfl ?_ | refine J_no rfl ?_))
    refine J_region ?_
    refine JL_val [999] (idx1z rfl rfl rfl rfl rfl (show i < P.n + 1 by omega)) rfl ?_
    refine JL_val [999] (OpV_own (v := .slice A (natZ W).length c) 8 rfl rfl rfl (show (s1.un.map rowV)[i]? = _ by rw [List.getElem?_map, hun1]; rfl)) rfl ?_
    rw [natZ_length]
    refine JL_all [] rfl ?_
    (repeat' (first | refine J_seq ?_ | refine J_skip ?_ | refine J_yes rfl ?_ | refine J_no rfl ?_))
    refine J_region ?_
    refine JL_evO (gs := [999]) rfl ?_
    refine JL_fit (Fit.re (A := P.fo s1.fs ++ [P.sg, P.pc s1.k s1.w, P.rc s1.rm, P.lc s1.vals, P.uc s1.un]) (R := P.rows s1.un) [5, 0, 1, 2, 3, 4, 6, 7, 8] rfl (by decide)) ?_
    refine JL_callK [999] (tick_fn P s1.k s1.w) rfl rfl rfl rfl (by kernel_rfl) Fit.refl trivial (fun _ => rfl) ?_
    rintro v0 H' rfl
    refine ⟨rfl, ?_⟩
    refine JL_fit (Fit.re (A := [P.pc (s1.k + 1) s1.w] ++ (P.fo s1.fs ++ [P.sg, P.rc s1.rm, P.lc s1.vals, P.uc s1.un])) (R := P.rows s1.un) [1, 2, 3, 4, 5, 0, 6, 7, 8] rfl (by decide)) ?_
    refine JL_nil ?_
    obtain ⟨s2, hs2⟩ : ∃ x : ES, x = { s1 with k := s1.k + 1 } := ⟨_, rfl⟩
    refine J_fit (K := work P s2) (by rw [hs2]; exact Fit.refl) ?_
    have hF2 : FlP P L gv rm0 tr pos par s (fun u w => i < w ∨ w = i ∧ ∃ j, 0 ≤ j ∧ W[j]? = some u) par1 val1 s2 (i + 1) := by
      rw [hs2]
      refine ⟨hF1.fa, hF1.ta, hF1.vals, hF1.un, hF1.w, fun u w hu => ?_, ?_⟩
      · rw [hF1.sub u w hu]
        refine ⟨fun ⟨h1, h2⟩ => ⟨h1, ?_⟩, fun ⟨h1, h2⟩ => ⟨h1, by rcases h2 with h2 | h2 <;> omega⟩⟩
        rcases Nat.lt_or_ge i w with h3 | h3
        · exact .inl h3
        · have : w = i := by omega
          subst this
          obtain ⟨j, hj, hju⟩ := List.mem_iff_getElem.1 ((hWm u).2 ⟨hu, h1⟩)
          exact .inr ⟨rfl, j, Nat.zero_le _, by rw [List.getElem?_eq_getElem hj, hju]⟩
      · have := hF1.cost
        show s1.k + 1 + s1.fs.k + _ ≤ _
        have h2 : s1.cost = s1.k + s1.fs.k := rfl
        omega
    clear hs2
    (repeat' (first | refine J_seq ?_ | refine J_skip ?_ | refine J_yes rfl ?_ | refine J_no rfl ?_))
    refine J_region ?_
    refine JL_all [] rfl ?_
    (repeat' (first | refine J_seq ?_ | refine J_skip ?_ | refine J_yes rfl ?_ | refine J_no rfl ?_))
    refine J_block ?_
    refine J_loopF (σ := FlS) (fun t => [(19, .int .i64 (t.i : Int)), (18, .int .i64 (W.length : Int)), (17, .slice A W.length c), (11, .int .i64 (i : Int)), (10, .int .i64 ((P.n + 1 : Nat) : Int)), (9, .slice (some ⟨P.gu, 0, none⟩) (P.n + 1) (P.n + 1)), (0, .pointer (some ⟨P.pe, 0, none⟩))]) (fun t => work P t.s)
      (fun t => t.i ≤ W.length ∧ FlP P L gv rm0 tr pos par s (fun u w => i < w ∨ w = i ∧ ∃ j, t.i ≤ j ∧ W[j]? = some u) t.par t.val t.s (i + 1)) (fun t => W.length - t.i) ⟨0, par1, val1, s2⟩ ⟨rfl, rfl, rfl, rfl, rfl, rfl, rfl, trivial⟩ Fit.refl
      ⟨Nat.zero_le _, hF2⟩ ?_
    clear hF1 hF2
    rintro ⟨j, par3, val3, s3⟩ ⟨hj, hF3⟩
    simp only at hj hF3 ⊢
    (repeat' (first | refine J_seq ?_ | refine J_skip ?_ | refine J_yes rfl ?_ | refine J_no rfl ?_))
    refine J_region ?_
    refine JL_all [] rfl ?_
    (repeat' (first | refine J_seq ?_ | refine J_skip ?_ | refine J_yes rfl ?_ | refine J_no rfl ?_))
    refine J_dec rfl (fun hlt3 => J_skip ?_) (fun hge3 => J_exit ?_)
    · have hjW : j < W.length := by omega
      obtain ⟨u, hu⟩ : ∃ u, W[j]? = some u := ⟨W[j], List.getElem?_eq_getElem hjW⟩
      have hu2 := (hWm u).1 (List.mem_of_getElem? hu)
      have hpu : par3 u = some i := (hF3.sub u i hu2.1).2 ⟨hu2.2, .inr ⟨rfl, j, Nat.le_refl _, hu⟩⟩
      obtain ⟨row3, hfa⟩ := hF3.fa
      obtain ⟨q, r, hq, hr, hto, hval⟩ := hF3.ta.link u i hu2.1 hpu
      have hun3 : s3.un[i]? = some ⟨A, c, natZ W⟩ := by rw [hF3.un]; exact hun
      refine J_know (own_is (9 + (P.rowsL.length + i)) (un_at hun3)) fun ⟨_, _, hA, _⟩ => ?_
      obtain ⟨g, rfl⟩ := hA (by rw [natZ_length]; omega)
      refine J_seq (J_block ?_)
      (repeat' (first | refine J_seq ?_ | refine J_skip ?_ | refine J_yes rfl ?_ | refine J_no rfl ?_))
      refine J_region ?_
      refine JL_val [] (idx1z rfl rfl rfl rfl rfl hjW) rfl ?_
      refine JL_val [] (OpV_own (9 + (P.rowsL.length + i)) rfl rfl (un_at hun3) (natsI_get hu)) rfl ?_
      refine JL_all [] rfl ?_
      (repeat' (first | refine J_seq ?_ | refine J_skip ?_ | refine J_yes rfl ?_ | refine J_no rfl ?_))
      refine J_region ?_
      (repeat' (first
        | refine JL_evO (gs := [999]) rfl ?_
        | refine JL_val [999] (OpV_blk 5 rfl rfl rfl rfl) rfl ?_))
      refine JL_callK [] (settle_fn hP s3 hF3.ta hfa (by rw [hF3.vals]; exact hI.vo) hu2.1 hpu hq hr hval) rfl rfl rfl rfl (by kernel_rfl) work_call ⟨⟨0, _, by simp, rfl, shows_seg _ _ _, seen_seg⟩, trivial⟩ (fun _ => rfl) ?_
      rintro _ H' ⟨fs', row', rfl, hF', hk'⟩
      refine ⟨noSeg_app rfl (noSeg_rows _ _), ?_⟩
      refine JL_fit work_back ?_
      refine JL_nil ?_
      (repeat' (first | refine J_seq ?_ | refine J_skip ?_ | refine J_yes rfl ?_ | refine J_no rfl ?_))
      refine J_region ?_
      refine JL_all [] rfl ?_
      have hlk := lkN_cut hu2.1 hpu
      have hco := hF3.cost
      refine ⟨⟨j + 1, ovSet par3 u none, valAt val3 u (4611686018427387904 - val3 u), { s3 with fs := fs', rm := s3.rm.set r (val3 u), k := s3.k + 1 }⟩, ⟨?_, rfl, rfl, rfl, rfl, rfl, rfl, trivial⟩, Fit.refl, ⟨hjW, ⟨⟨row', hF'⟩, hF3.ta.settle hP hu2.1 hpu hq hr hval, hF3.vals, hF3.un, hF3.w, fun z w hz => ?_, ?_⟩⟩, ?_⟩
      · show some (Value.int .i64 (IntKind.i64.wrap ((j : Int) + 1))) = _
        rw [w64 (by omega)]; rfl
      · by_cases e : z = u
        · subst e
          simp only [ovSet, if_true]
          refine ⟨fun h => (by cases h), fun ⟨h1, h2⟩ => ?_⟩
          rw [hu2.2] at h1
          simp only [Option.some.injEq] at h1
          rcases h2 with h2 | ⟨_, j', hj', hz'⟩
          · omega
          · have e1 := (List.getElem?_eq_some_iff.1 hu)
            have e2 := (List.getElem?_eq_some_iff.1 hz')
            have := (List.getElem_inj hWd).1 (e1.2.trans e2.2.symm)
            have hj2 : j + 1 ≤ j' := hj'
            omega
        · simp only [ovSet, if_neg e]
          rw [hF3.sub z w hz]
          refine ⟨fun ⟨h1, h2⟩ => ⟨h1, ?_⟩, fun ⟨h1, h2⟩ => ⟨h1, ?_⟩⟩
          · rcases h2 with h2 | ⟨h2, j', hj', hz'⟩
            · exact .inl h2
            · refine .inr ⟨h2, j', ?_, hz'⟩
              rcases Nat.lt_or_ge j j' with h3 | h3
              · exact h3
              · have : j' = j := by omega
                subst this
                rw [hu] at hz'
                simp only [Option.some.injEq] at hz'
                exact absurd hz'.symm e
          · rcases h2 with h2 | ⟨h2, j', hj', hz'⟩
            · exact .inl h2
            · exact .inr ⟨h2, j', Nat.le_of_succ_le hj', hz'⟩
      · rw [← hlk, Nat.mul_add, Nat.mul_one] at hco
        have h1 : s3.cost = s3.k + s3.fs.k := rfl
        show s3.k + 1 + fs'.k + _ * lkN (ovSet par3 u none) P.n ≤ _
        omega
      · show W.length - (j + 1) < W.length - j
        omega
    · obtain rfl : j = W.length := by omega
      (repeat' (first | refine J_seq ?_ | refine J_skip ?_ | refine J_yes rfl ?_ | refine J_no rfl ?_))
      refine J_region ?_
      refine JL_all [] rfl ?_
      refine ⟨⟨i + 1, par3, val3, s3⟩, ⟨?_, rfl, rfl, rfl, trivial⟩, Fit.refl, ⟨by show i + 1 ≤ P.n + 1; omega, ⟨hF3.fa, hF3.ta, hF3.vals, hF3.un, hF3.w, fun u w hu => ?_, hF3.cost⟩⟩, ?_⟩
      · show some (Value.int .i64 (IntKind.i64.wrap ((i : Int) + 1))) = _
        rw [w64 (by omega)]; rfl
      · rw [hF3.sub u w hu]
        refine ⟨fun ⟨h1, h2⟩ => ⟨h1, ?_⟩, fun ⟨h1, h2⟩ => ⟨h1, .inl h2⟩⟩
        rcases h2 with h2 | ⟨_, j', hj', hz'⟩
        · exact h2
        · have := (List.getElem?_eq_some_iff.1 hz').1
          omega
      · show P.n + 1 - (i + 1) < P.n + 1 - i
        omega
  · have hi2 : i = P.n + 1 := by omega
    refine J_fit work_out (J_exit ?_)
    have hlk := lkN_le par P.n
    have hco := hF1.cost
    refine ⟨_, rfl, par1, val1, s1, rfl, hF1.ta, fun u hu => ?_, hF1.w, ?_⟩
    · cases hp : par1 u with
      | none => rfl
      | some w =>
        obtain ⟨h1, h2⟩ := (hF1.sub u w hu).1 hp
        obtain ⟨q, r, _, h4, h5, _⟩ := hI.ta.link u w hu h1
        have h6 := toN_eq hP.right (lead_fr hP (List.mem_of_getElem? h4)).1
        have h7 := hP.nodes
        have h8 : i ≤ w := h2
        omega
    · rw [← hKS] at hco ⊢
      have h1 : KS * lkN par P.n ≤ KS * (P.n + 1) := Nat.mul_le_mul_left _ hlk
      omega
end
end Go.Proofs.YtfogkbmbmaganaaGreat
