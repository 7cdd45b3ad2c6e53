
/- The engine by trees: a whole run, step by step. -/
import Derived.Test.YtfogkbmbmaganaaGreatTreY
set_option linter.unusedVariables false
set_option linter.unusedSimpArgs false
namespace Go.Proofs.YtfogkbmbmaganaaGreat
open Go.RowKit
inductive TR (N : Net) (L : Nat → List Nat) (least : Int) : List Int → List (List Nat × Int) → List Int → Prop
  | stop {tr : List Int} {pos : List Nat} : PI N L least tr pos [] → Dead L pos N.src.toNat → TR N L least tr [] tr
  | walk {tr tr' : List Int} {pos W : List Nat} {ws : List (List Nat × Int)} : PI N L least tr pos W → endN N W = N.snk.toNat → TR N L least (pushR (mostR tr W) W tr) ws tr' → TR N L least tr ((W, mostR tr W) :: ws) tr'
def costL (n : Nat) : Nat := 5 * accN (n + 1) + 17 * (n + 1) + 2
def costU (n : Nat) : Nat := 15 * accN (n + 1) + 87 * (n + 1) + 7
section
variable {P : EP} {L : Nat → List Nat} {lv : Nat → Int} {gv : Nat → Nat} {rm0 tr : List Int} {pos : List Nat} {par : OV} {val : Nat → Int}
structure RS where
  ws : List (List Nat × Int)
  f : List Int
  tr : List Int
  pos : List Nat
  par : OV
  val : Nat → Int
  s : ES
def RunP (P : EP) (L : Nat → List Nat) (gv : Nat → Nat) (rm0 tr : List Int) (pos : List Nat) (par : OV) (s : ES) (H' : Heap) : Prop :=
  ∃ t : RS, H' = engH P t.s ∧ TR P.N L P.least tr t.ws t.tr ∧ TInv P L gv rm0 t.tr t.pos t.par t.val t.s ∧ IsFlow P.N t.f ∧ t.tr = roomL (P.N.arcs.zip t.f) ∧ t.s.w = s.w + t.ws.length ∧
    t.s.cost + costU P.n * remL L P.n t.pos + costL P.n * lkN par P.n ≤ s.cost + costU P.n * remL L P.n pos + costL P.n * lkN t.par P.n + (accN (P.n + 1) + 5 * (P.n + 1) + 1)
structure RunI (P : EP) (L : Nat → List Nat) (gv : Nat → Nat) (rm0 tr : List Int) (pos : List Nat) (par : OV) (s : ES) (t : RS) : Prop where
  acc : ∀ ws tr', TR P.N L P.least t.tr ws tr' → TR P.N L P.least tr (t.ws ++ ws) tr'
  ti : TInv P L gv rm0 t.tr t.pos t.par t.val t.s
  pi : PI P.N L P.least t.tr t.pos []
  room : Roomy P t.par t.val
  flow : IsFlow P.N t.f
  tre : t.tr = roomL (P.N.arcs.zip t.f)
  w : t.s.w = s.w + t.ws.length
  cost : t.s.cost + costU P.n * remL L P.n t.pos + costL P.n * lkN par P.n ≤ s.cost + costU P.n * remL L P.n pos + costL P.n * lkN t.par P.n
set_option maxHeartbeats 1000000 in
theorem run_fn (hP : EPOk P L lv gv) (hle : 1 ≤ P.least) (s : ES) (hI : TInv P L gv rm0 tr pos par val s) (hPI : PI P.N L P.least tr pos []) (hroom : Roomy P par val) {f : List Int} (hf : IsFlow P.N f) (he : tr = roomL (P.N.arcs.zip f)) :
    Fn 126 [.pointer (some ⟨P.pe, 0, none⟩)] (mines (engH P s)) ([P.sg] ++ engH P s) fun _ H' => RunP P L gv rm0 tr pos par s H' := by
  have hN := hP.small
  have hsr := hP.right.src
  have hsk := hP.right.snk
  have hdf := hP.right.diff
  have hnn := hP.nodes
  obtain ⟨s0, hs0⟩ : ∃ x, x = P.N.src.toNat := ⟨_, rfl⟩
  obtain ⟨k0, hk0⟩ : ∃ x, x = P.N.snk.toNat := ⟨_, rfl⟩
  have hs1 : P.N.src = (s0 : Int) := by omega
  have hk1 : P.N.snk = (k0 : Int) := by omega
  have hsN : s0 < P.n + 1 := by omega
  have hkN : k0 < P.n + 1 := by omega
  generalize hM : mines _ = M
  refine Fn_of Tryz.func126 rfl rfl fun w0 => ?_
  refine J_fit work_in ?_
  refine J_block ?_
  refine J_loopF (σ := RS) (fun _ => [(0, .pointer (some ⟨P.pe, 0, none⟩))]) (fun t => work P t.s) (fun t => RunI P L gv rm0 tr pos par s t) (fun t => 2 * remL L P.n t.pos + (P.n + 2 - lkN t.par P.n))
    ⟨[], f, tr, pos, par, val, s⟩ ⟨rfl, trivial⟩ Fit.refl ⟨fun _ _ h => h, hI, hPI, hroom, hf, he, rfl, Nat.le_refl _⟩ ?_
  rintro ⟨ws, f1, tr1, pos1, par1, val1, s1⟩ hR
  have hti := hR.ti
  have hpi := hR.pi
  have hrm := hR.room
  have hw1 := hR.w
  have hco := hR.cost
  simp only at hti hpi hrm hw1 hco ⊢
  have hlk := lkN_le par1 P.n
  refine J_block ?_
  (repeat' (first | refine J_seq ?_ | refine J_skip ?_ | refine J_yes rfl ?_ | refine J_no rfl ?_))
  refine J_region ?_
  (repeat' (first
    | refine JL_evO (gs := [999]) rfl ?_
    | refine JL_val [999] (OpV_blk 5 rfl rfl rfl rfl) rfl ?_))
  refine JL_fit (Fit.re (A := P.fo s1.fs ++ [P.sg, P.pc s1.k s1.w, P.rc s1.rm, P.lc s1.vals, P.uc s1.un]) (R := P.rows s1.un) [5, 0, 1, 2, 3, 4, 6, 7, 8] rfl (by decide)) ?_
  refine JL_callK [999] (tick_fn P s1.k s1.w) rfl rfl rfl rfl (by kernel_rfl) Fit.refl trivial (fun _ => rfl) ?_
  rintro v0 H' rfl
  refine ⟨rfl, ?_⟩
  refine JL_fit (Fit.re (A := [P.pc (s1.k + 1) s1.w] ++ (P.fo s1.fs ++ [P.sg, P.rc s1.rm, P.lc s1.vals, P.uc s1.un])) (R := P.rows s1.un) [1, 2, 3, 4, 5, 0, 6, 7, 8] rfl (by decide)) ?_
  refine JL_nil ?_
  obtain ⟨row, hF⟩ := hti.fa
  obtain ⟨p, hp⟩ := hF.path s0 hsN
  (repeat' (first | refine J_seq ?_ | refine J_skip ?_ | refine J_yes rfl ?_ | refine J_no rfl ?_))
  refine J_walk 11 [(0, true), (1, true), (2, true), (3, true), (4, true), (5, true), (6, true), (7, true), (8, true), (9, false), (10, true)] [5] (by kernel_rfl) (by decide) rfl ?_
  (repeat' (first
    | refine JW_evO (gs := [999]) rfl rfl ?_
    | refine JW_still [999] rfl (OpV_blk 0 rfl rfl rfl rfl) rfl ?_))
  refine JW_set 13 (v' := .int .i64 (s0 : Int)) rfl (congrArg (Value.int .i64) hs1) ?_
  refine JW_eff rfl ?_
  refine JL_callK [] (frRoot hF hN hsN hp) rfl rfl rfl rfl (by kernel_rfl) Fit.refl trivial (fun _ => rfl) ?_
  rintro _ H' ⟨fs2, row2, y, rfl, rfl, hF2, hpy, hk2⟩
  refine ⟨rfl, JL_nil ⟨⟨[5], by decide, rfl⟩, ?_⟩⟩
  refine JW_evO (gs := [999]) rfl rfl ?_
  refine JW_nil ?_
  refine JL_nil ?_
  obtain ⟨s2, hs2⟩ : ∃ x : ES, x = { s1 with k := s1.k + 1, fs := fs2 } := ⟨_, rfl⟩
  refine J_fit (K := work P s2) (by rw [hs2]; exact Fit.refl) ?_
  have hI2 : TInv P L gv rm0 tr1 pos1 par1 val1 s2 := by rw [hs2]; exact ⟨⟨_, hF2⟩, hti.ta, hti.vo, hti.tb⟩
  have hc2 : s2.cost ≤ s1.cost + accN (P.n + 1) + 5 * (P.n + 1) + 1 := by
    rw [hs2]
    show s1.k + 1 + fs2.k ≤ s1.k + s1.fs.k + _ + _ + 1
    omega
  have hw2 : s2.w = s1.w := by rw [hs2]
  clear hs2
  have hyn : par1 y = none := hp.root_last hpy
  have hyp : y ∈ p := List.mem_of_getLast? hpy
  have hpl : ∀ z ∈ p, z ≤ P.n := fun z hz => by have := PathTo.lt hF.lt hp hsN z hz; omega
  have hyl := hpl y hyp
  refine J_block ?_
  (repeat' (first | refine J_seq ?_ | refine J_skip ?_ | refine J_yes rfl ?_ | refine J_no rfl ?_))
  refine J_region ?_
  (repeat' (first
    | refine JL_evO (gs := [999]) rfl ?_
    | refine JL_val [999] (OpV_blk 5 rfl rfl rfl rfl) rfl ?_))
  refine JL_set 24 (v' := .int .i64 (k0 : Int)) rfl (congrArg (Value.int .i64) hk1) ?_
  (repeat' (first
    | refine JL_evO (gs := [999]) rfl ?_
    | refine JL_val [999] (OpV_blk 5 rfl rfl rfl rfl) rfl ?_))
  refine JL_nil ?_
  (repeat' (first | refine J_seq ?_ | refine J_skip ?_ | refine J_yes rfl ?_ | refine J_no rfl ?_))
  refine J_dec rfl (fun heq => ?_) (fun hneq => ?_)
  · have hyk : y = k0 := by omega
    subst hyk
    (repeat' (first | refine J_seq ?_ | refine J_skip ?_ | refine J_yes rfl ?_ | refine J_no rfl ?_))
    refine J_region ?_
    (repeat' (first
      | refine JL_evO (gs := [999]) rfl ?_
      | refine JL_val [999] (OpV_blk 5 rfl rfl rfl rfl) rfl ?_))
    refine JL_callK [] (tpush_fn hP hle s2 hI2 hpi hrm hR.flow hR.tre (p := p) (by rw [← hs0]; exact hp) (by rw [← hk0]; exact hpy)) rfl rfl rfl rfl (by kernel_rfl) work_call ⟨⟨0, _, by simp, rfl, shows_seg _ _ _, seen_seg⟩, trivial⟩ (fun _ => rfl) ?_
    rintro _ H' ⟨u, pos2, par2, val2, s3, W, rfl, hu, hPW, hend, hti2, hpi2, hrm2, hrem2, hlk2, hw3, hc3⟩
    refine ⟨noSeg_app rfl (noSeg_rows _ _), ?_⟩
    refine JL_fit work_back ?_
    refine JL_nil ?_
    obtain ⟨_, _, _, _, _, _, ⟨f2, hf2, hf2e⟩, _⟩ := push_keeps hP.right hP.graded hle hR.flow hR.tre hPW hend
    have g1 : costU P.n * remL L P.n pos1 = costU P.n * remL L P.n pos2 + costU P.n * u := by rw [← hrem2, Nat.mul_add]
    have g2 : costL P.n * lkN par1 P.n = costL P.n * lkN par2 P.n + costL P.n * u := by rw [← hlk2, Nat.mul_add]
    have g3 : costU P.n * u = costL P.n * u + u * (10 * accN (P.n + 1) + 70 * (P.n + 1) + 5) := by
      rw [Nat.mul_comm u, ← Nat.add_mul]; congr 1; unfold costU costL; omega
    have g4 : u * (10 * accN (P.n + 1) + 70 * (P.n + 1) + 5) = u * (9 * accN (P.n + 1) + 65 * (P.n + 1) + 4) + u * (accN (P.n + 1) + 5 * (P.n + 1) + 1) := by
      rw [← Nat.mul_add]; congr 1; omega
    have g5 : 1 * (accN (P.n + 1) + 5 * (P.n + 1) + 1) ≤ u * (accN (P.n + 1) + 5 * (P.n + 1) + 1) := Nat.mul_le_mul_right _ hu
    refine ⟨⟨ws ++ [(W, mostR tr1 W)], f2, pushR (mostR tr1 W) W tr1, pos2, par2, val2, s3⟩, ⟨rfl, trivial⟩, Fit.refl, ⟨fun ws' tr' h => ?_, hti2, hpi2, hrm2, hf2, hf2e, ?_, ?_⟩, ?_⟩
    · show TR P.N L P.least tr ((ws ++ [(W, mostR tr1 W)]) ++ ws') tr'
      rw [List.append_assoc]
      exact hR.acc _ _ (TR.walk hPW hend h)
    · show s3.w = s.w + (ws ++ [(W, mostR tr1 W)]).length
      rw [List.length_append, List.length_singleton]; omega
    · show s3.cost + costU P.n * remL L P.n pos2 + costL P.n * lkN par P.n ≤ s.cost + costU P.n * remL L P.n pos + costL P.n * lkN par2 P.n
      omega
    · show 2 * remL L P.n pos2 + (P.n + 2 - lkN par2 P.n) < 2 * remL L P.n pos1 + (P.n + 2 - lkN par1 P.n)
      omega
  · have hyk : y ≠ k0 := by omega
    (repeat' (first | refine J_seq ?_ | refine J_skip ?_ | refine J_yes rfl ?_ | refine J_no rfl ?_))
    (repeat' (first | refine J_seq ?_ | refine J_skip ?_ | refine J_yes rfl ?_ | refine J_no rfl ?_))
    refine J_region ?_
    (repeat' (first
      | refine JL_evO (gs := [999]) rfl ?_
      | refine JL_val [999] (OpV_blk 5 rfl rfl rfl rfl) rfl ?_))
    refine JL_callK [] (link_fn hP s2 hI2 hpi hyl hyn) rfl rfl rfl rfl (by kernel_rfl) work_call ⟨⟨0, _, by simp, rfl, shows_seg _ _ _, seen_seg⟩, trivial⟩ (fun _ => rfl) ?_
    rintro _ H' ⟨b, s3, rfl, rfl, pos2, hpi2, hw3, hrem3, hb⟩
    refine ⟨noSeg_app rfl (noSeg_rows _ _), ?_⟩
    refine JL_fit work_back ?_
    (repeat' (first
      | refine JL_evO (gs := [999]) rfl ?_
      | refine JL_val [999] (OpV_blk 5 rfl rfl rfl rfl) rfl ?_))
    refine JL_nil ?_
    (repeat' (first | refine J_seq ?_ | refine J_skip ?_ | refine J_yes rfl ?_ | refine J_no rfl ?_))
    obtain ⟨d, hd⟩ : ∃ d, remL L P.n pos1 = remL L P.n pos2 + d := ⟨remL L P.n pos1 - remL L P.n pos2, by omega⟩
    have g1 : costU P.n * remL L P.n pos1 = costU P.n * remL L P.n pos2 + costU P.n * d := by rw [hd, Nat.mul_add]
    have g2 : d ≤ costU P.n * d := Nat.le_mul_of_pos_left d (by unfold costU; omega)
    rcases hb with ⟨rfl, q, r, hq, hr, hlr, hti2, hc3⟩ | ⟨rfl, hdead, hti2, hc3⟩
    · refine J_yes rfl (J_skip ?_)
      have hlk2 := lkN_link (w := toN P.N r) hyl hyn
      have g3 : costL P.n * (lkN par1 P.n + 1) = costL P.n * lkN par1 P.n + costL P.n := by rw [Nat.mul_add, Nat.mul_one]
      have g4 : costL P.n = 5 * accN (P.n + 1) + 17 * (P.n + 1) + 2 := rfl
      have hlk3 := lkN_le (ovSet par1 y (some (toN P.N r))) P.n
      refine ⟨⟨ws, f1, tr1, pos2, ovSet par1 y (some (toN P.N r)), valAt val1 y (tr1.getD r 0 - 4611686018427387904), s3⟩, ⟨rfl, trivial⟩, Fit.refl, ⟨hR.acc, hti2, hpi2, fun u w hu hw => ?_, hR.flow, hR.tre, ?_, ?_⟩, ?_⟩
      · simp only [valAt, List.mem_singleton]
        by_cases e : u = y
        · subst e
          rw [if_pos rfl, hti.ta.free u hu hyn]; omega
        · rw [if_neg e]
          exact hrm u w hu (by simpa [ovSet, e] using hw)
      · show s3.w = s.w + ws.length
        omega
      · show s3.cost + costU P.n * remL L P.n pos2 + costL P.n * lkN par P.n ≤ s.cost + costU P.n * remL L P.n pos + costL P.n * lkN (ovSet par1 y (some (toN P.N r))) P.n
        rw [hlk2, g3]
        omega
      · show 2 * remL L P.n pos2 + (P.n + 2 - lkN (ovSet par1 y (some (toN P.N r))) P.n) < 2 * remL L P.n pos1 + (P.n + 2 - lkN par1 P.n)
        omega
    · refine J_no rfl ?_
      (repeat' (first | refine J_seq ?_ | refine J_skip ?_ | refine J_yes rfl ?_ | refine J_no rfl ?_))
      (repeat' (first | refine J_seq ?_ | refine J_skip ?_ | refine J_yes rfl ?_ | refine J_no rfl ?_))
      refine J_region ?_
      (repeat' (first
        | refine JL_evO (gs := [999]) rfl ?_
        | refine JL_val [999] (OpV_blk 5 rfl rfl rfl rfl) rfl ?_))
      refine JL_set 38 (v' := .int .i64 (s0 : Int)) rfl (congrArg (Value.int .i64) hs1) ?_
      (repeat' (first
        | refine JL_evO (gs := [999]) rfl ?_
        | refine JL_val [999] (OpV_blk 5 rfl rfl rfl rfl) rfl ?_))
      refine JL_nil ?_
      (repeat' (first | refine J_seq ?_ | refine J_skip ?_ | refine J_yes rfl ?_ | refine J_no rfl ?_))
      refine J_dec rfl (fun heq => ?_) (fun hns => ?_)
      · have hys : y = s0 := by omega
        refine J_fit work_out (J_ret ⟨_, rfl, ⟨ws, f1, tr1, pos2, par1, val1, s3⟩, rfl, ?_, hti2, hR.flow, hR.tre, ?_, ?_⟩)
        · have := hR.acc [] tr1 (TR.stop hpi2 (by rw [← hs0, ← hys]; exact hdead))
          rwa [List.append_nil] at this
        · show s3.w = s.w + ws.length
          omega
        · show s3.cost + costU P.n * remL L P.n pos2 + costL P.n * lkN par P.n ≤ s.cost + costU P.n * remL L P.n pos + costL P.n * lkN par1 P.n + _
          omega
      · have hys : y ≠ s0 := by omega
        obtain ⟨v0, hv0n, hpv⟩ : ∃ v0, v0 ≤ P.n ∧ par1 v0 = some y := by
          obtain ⟨A, z, hAz⟩ := hp.ne
          rw [hAz, List.getLast?_append] at hpy
          simp only [List.getLast?_singleton, Option.some_or, Option.some.injEq] at hpy
          subst hpy
          rcases List.eq_nil_or_concat A with rfl | ⟨B, b, rfl⟩
          · rw [hAz] at hp
            exact absurd hp.1.symm hys
          · rw [List.concat_eq_append] at hAz
            refine ⟨b, hpl b (by rw [hAz]; simp), PathTo.next (A := B) (B := []) (x := s0) (by rw [hAz] at hp; simpa using hp)⟩
        (repeat' (first | refine J_seq ?_ | refine J_skip ?_ | refine J_yes rfl ?_ | refine J_no rfl ?_))
        refine J_region ?_
        (repeat' (first
          | refine JL_evO (gs := [999]) rfl ?_
          | refine JL_val [999] (OpV_blk 5 rfl rfl rfl rfl) rfl ?_))
        refine JL_callK [] (back_fn hP s3 hti2 hpi2 hyl hdead (by rw [← hk0]; exact hyk) hv0n hpv) rfl rfl rfl rfl (by kernel_rfl) work_call ⟨⟨0, _, by simp, rfl, shows_seg _ _ _, seen_seg⟩, trivial⟩ (fun _ => rfl) ?_
        rintro _ H' ⟨u, pos4, par4, val4, s4, rfl, hu, hC, hc4⟩
        refine ⟨noSeg_app rfl (noSeg_rows _ _), ?_⟩
        refine JL_fit work_back ?_
        refine JL_nil ?_
        have hrem4 := hC.rem
        have hlk4 := hC.lk
        have hw4 := hC.w
        have e1 : costU P.n * remL L P.n pos2 = costU P.n * remL L P.n pos4 + costU P.n * u := by rw [← hrem4, Nat.mul_add]
        have e2 : costL P.n * lkN par1 P.n = costL P.n * lkN par4 P.n + costL P.n * u := by rw [← hlk4, Nat.mul_add]
        have e3 : costU P.n * u = costL P.n * u + u * (10 * accN (P.n + 1) + 70 * (P.n + 1) + 5) := by
          rw [Nat.mul_comm u, ← Nat.add_mul]; congr 1; unfold costU costL; omega
        have e4 : u * (10 * accN (P.n + 1) + 70 * (P.n + 1) + 5) = u * (2 * accN (P.n + 1) + 12 * (P.n + 1) + 1) + u * (8 * accN (P.n + 1) + 58 * (P.n + 1) + 4) := by
          rw [← Nat.mul_add]; congr 1; omega
        have e5 : 1 * (8 * accN (P.n + 1) + 58 * (P.n + 1) + 4) ≤ u * (8 * accN (P.n + 1) + 58 * (P.n + 1) + 4) := Nat.mul_le_mul_right _ hu
        refine ⟨⟨ws, f1, tr1, pos4, par4, val4, s4⟩, ⟨rfl, trivial⟩, Fit.refl, ⟨hR.acc, hC.ti, hC.pi, fun z w hz hw => ?_, hR.flow, hR.tre, ?_, ?_⟩, ?_⟩
        · obtain ⟨h1, h2⟩ := hC.sub z w hw
          show P.least ≤ val4 z
          rw [h2]
          exact hrm z w hz h1
        · show s4.w = s.w + ws.length
          omega
        · show s4.cost + costU P.n * remL L P.n pos4 + costL P.n * lkN par P.n ≤ s.cost + costU P.n * remL L P.n pos + costL P.n * lkN par4 P.n
          omega
        · show 2 * remL L P.n pos4 + (P.n + 2 - lkN par4 P.n) < 2 * remL L P.n pos1 + (P.n + 2 - lkN par1 P.n)
          omega
end
end Go.Proofs.YtfogkbmbmaganaaGreat
