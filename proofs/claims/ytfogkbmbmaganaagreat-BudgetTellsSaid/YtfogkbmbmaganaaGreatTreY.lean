
/- The engine by trees: an amount is led, step by step. -/
import Derived.Test.YtfogkbmbmaganaaGreatQX25
set_option linter.unusedVariables false
set_option linter.unusedSimpArgs false
namespace Go.Proofs.YtfogkbmbmaganaaGreat
open Go.RowKit
section
variable {P : EP} {L : Nat → List Nat} {lv : Nat → Int} {gv : Nat → Nat} {rm0 tr : List Int} {pos : List Nat} {par : OV} {val : Nat → Int}
theorem lead_le (hP : EPOk P L lv gv) {u r : Nat} (h : r ∈ L u) : frN P.N r ≤ P.n := by
  have h1 := frN_eq hP.right (lead_fr hP h).1
  have h2 := hP.nodes
  omega
theorem TA.val_in {rm : List Int} (h : TA P L rm0 tr pos par val rm) {v : Nat} (hv : v ≤ P.n) : 0 ≤ val v ∧ val v ≤ 4611686018427387904 ∧ ((par v).isSome → val v < 4611686018427387904) := by
  cases hp : par v with
  | none => have := h.free v hv hp; exact ⟨by omega, by omega, fun h => by cases h⟩
  | some w =>
    obtain ⟨q, r, _, _, _, h4⟩ := h.link v w hv hp
    have := h.trb r
    exact ⟨by omega, by omega, fun _ => by omega⟩
def Roomy (P : EP) (par : OV) (val : Nat → Int) : Prop := ∀ u w, u ≤ P.n → par u = some w → P.least ≤ val u
abbrev waitC (Aw : Option Addr) (cw : Nat) (wt : List Nat) : Chunk := .own (.slice Aw wt.length cw) 3 1 wt.length (natsI wt)
structure WS where
  u : Nat
  pos : List Nat
  par : OV
  val : Nat → Int
  s : ES
  wt : List Nat
  A : Option Addr
  c : Nat
def PushP (P : EP) (L : Nat → List Nat) (gv : Nat → Nat) (rm0 tr : List Int) (pos : List Nat) (par : OV) (s : ES) (H' : Heap) : Prop :=
  ∃ u pos' par' val' s' W, H' = engH P s' ∧ 1 ≤ u ∧ PI P.N L P.least tr pos W ∧ endN P.N W = P.N.snk.toNat ∧ TInv P L gv rm0 (pushR (mostR tr W) W tr) pos' par' val' s' ∧ PI P.N L P.least (pushR (mostR tr W) W tr) pos' [] ∧ Roomy P par' val' ∧
    remL L P.n pos' + u = remL L P.n pos ∧ lkN par' P.n + u = lkN par P.n ∧ s'.w = s.w + 1 ∧ s'.cost ≤ s.cost + u * (9 * accN (P.n + 1) + 65 * (P.n + 1) + 4)
set_option maxHeartbeats 1000000 in
theorem tpush_fn (hP : EPOk P L lv gv) (hle : 1 ≤ P.least) (s : ES) (hI : TInv P L gv rm0 tr pos par val s) (hPI : PI P.N L P.least tr pos []) (hroom : Roomy P par val) {f : List Int} (hf : IsFlow P.N f) (he : tr = roomL (P.N.arcs.zip f)) {p : List Nat} (hp : PathTo par P.N.src.toNat p) (hl : p.getLast? = some P.N.snk.toNat) :
    Fn 133 [.pointer (some ⟨P.pe, 0, none⟩)] (mines (engH P s)) ([P.sg] ++ engH P s) fun _ H' => PushP P L gv rm0 tr pos par s H' := by
  have hN := hP.small
  have hsr := hP.right.src
  have hsk := hP.right.snk
  have hdf := hP.right.diff
  have hnn := hP.nodes
  obtain ⟨s0, hs0⟩ : ∃ x, x = P.N.src.toNat := ⟨_, rfl⟩
  obtain ⟨k0, hk0⟩ : ∃ x, x = P.N.snk.toNat := ⟨_, rfl⟩
  rw [← hs0] at hp
  rw [← hk0] at hl
  have hs1 : P.N.src = (s0 : Int) := by omega
  have hk1 : P.N.snk = (k0 : Int) := by omega
  have hsN : s0 < P.n + 1 := by omega
  have hkN : k0 < P.n + 1 := by omega
  obtain ⟨W, hW⟩ := hI.ta.walk_of hP hp (by omega) hl
  obtain ⟨hPW, hend⟩ := hW.pi hs0 hPI (fun _ _ h => lead_le hP h) hroom
  obtain ⟨hWne, hWlt, hWnd, hWfl, hWlen, hma, ⟨f', hf', hf'e⟩, hPI', hmono, _⟩ := push_keeps hP.right hP.graded hle hf he hPW (by rw [hend, hk0])
  have hkn : par k0 = none := hp.root_last hl
  have hkp : k0 ∈ p := List.mem_of_getLast? hl
  have hPI2 : PI P.N L P.least (pushR (mostR tr W) W tr) pos [] := ⟨hPI'.pl, ⟨_, rfl⟩, fun _ h => (by cases h), hPI'.pass⟩
  have hb := rooms_bound hP.right hf'.toRanged
  rw [← hf'e] at hb
  have hget : ∀ u r, r ∈ L u → (pushR (mostR tr W) W tr).getD r 0 = tr.getD r 0 - if r ∈ W then mostR tr W else 0 := by
    intro u r hr
    rw [pushR_get (a := mostR tr W) (by rw [he]; exact rooms_len hf.len) hWlt hWnd r]
    have : flipT r ∉ W := by
      intro hin
      have g1 := (hP.graded.ok _ _ hr)
      have g2 := (hP.graded.ok _ _ (hPW.mem _ hin)).2.2
      have g3 := g1.2.2
      rw [toN_flip, frN_flip] at g2
      rw [← g1.2.1] at g3
      omega
    rw [if_neg this]; omega
  have hpn : ∀ z ∈ p, z ≤ P.n := by
    intro z hz
    rcases hW.all z hz with e | ⟨r, hr, e⟩
    · omega
    · rw [← e]; exact lead_le hP (hPW.mem r hr)
  obtain ⟨a, ha⟩ : ∃ x, x = mostR tr W := ⟨_, rfl⟩
  obtain ⟨tr', htr'⟩ : ∃ x, x = pushR (mostR tr W) W tr := ⟨_, rfl⟩
  rw [← htr'] at hPI2 hb hget
  rw [← ha] at hget hma
  have hab : 1 ≤ a ∧ a ≤ 4611686018427387903 := by
    obtain ⟨r, _, h1⟩ := mostR_at (rm := tr) hWne
    have := hI.ta.trb r
    omega
  obtain ⟨row, hF⟩ := hI.fa
  generalize hM : mines _ = M
  refine Fn_of Tryz.func133 rfl rfl fun w0 => ?_
  refine J_fit work_in ?_
  (repeat' (first | refine J_seq ?_ | refine J_skip ?_ | refine J_yes rfl ?_ | refine J_no rfl ?_))
  refine J_region ?_
  (repeat' (first
    | refine JL_evO (gs := [999]) rfl ?_
    | refine JL_val [999] (OpV_blk 5 rfl rfl rfl rfl) rfl ?_))
  refine JL_nil ?_
  refine J_set 2 (v' := .int .i64 (s0 : Int)) rfl (congrArg (Value.int .i64) hs1) ?_
  (repeat' (first | refine J_seq ?_ | refine J_skip ?_ | refine J_yes rfl ?_ | refine J_no rfl ?_))
  refine J_walk 12 [(0, true), (1, true), (2, true), (3, true), (4, true), (5, true), (6, true), (7, true), (8, true), (9, false), (10, false), (11, true)] [5] (by kernel_rfl) (by decide) rfl ?_
  (repeat' (first
    | refine JW_evO (gs := [999]) rfl rfl ?_
    | refine JW_still [999] rfl (OpV_blk 0 rfl rfl rfl rfl) rfl ?_))
  refine JW_eff rfl ?_
  refine JL_callK [] (frLeast hF hN hsN hp) rfl rfl rfl rfl (by kernel_rfl) Fit.refl trivial (fun _ => rfl) ?_
  rintro _ H' ⟨fs1, row1, y, rfl, rfl, hF1, hmin, hyp, hk1'⟩
  refine ⟨rfl, JL_nil ⟨⟨[5], by decide, rfl⟩, ?_⟩⟩
  have hya : val y = a := by
    rw [ha]
    exact hW.most hWne hyp hmin.le (fun r => by rw [hI.ta.free k0 (by omega) hkn]; have := hI.ta.trb r; omega)
  refine JW_eff rfl ?_
  refine JL_callK [] (frValue hF1 hN (show y < P.n + 1 by have := hpn y hyp; omega)) rfl rfl rfl rfl (by kernel_rfl) Fit.refl trivial (fun _ => rfl) ?_
  rintro _ H' ⟨fs2, rfl, rfl, hF2, hk2'⟩
  refine ⟨rfl, JL_nil ⟨⟨[5], by decide, rfl⟩, ?_⟩⟩
  refine JW_evO (gs := [999]) rfl rfl ?_
  refine JW_nil ?_
  refine JL_nil ?_
  refine J_set 3 (v' := .int .i64 a) rfl (congrArg (Value.int .i64) hya) ?_
  (repeat' (first | refine J_seq ?_ | refine J_skip ?_ | refine J_yes rfl ?_ | refine J_no rfl ?_))
  refine J_region ?_
  (repeat' (first
    | refine JL_evO (gs := [999]) rfl ?_
    | refine JL_val [999] (OpV_blk 5 rfl rfl rfl rfl) rfl ?_))
  have hna : IntKind.i64.wrap (0 - a) = -a := (w64 (by omega)).trans (by omega)
  refine JL_set 29 (v' := .int .i64 (-a)) rfl (congrArg (Value.int .i64) hna) ?_
  refine JL_callK [] (frAdd hF2 hN hsN hp (d := -a) (by omega) (by intro z hz; have h1 := hmin.le z hz; have h2 := (hI.ta.val_in (hpn z hz)).2.1; omega)) rfl rfl rfl rfl (by kernel_rfl) Fit.refl trivial (fun _ => rfl) ?_
  rintro _ H' ⟨fs3, row3, rfl, hF3, hk3'⟩
  refine ⟨rfl, ?_⟩
  (repeat' (first
    | refine JL_evO (gs := [999]) rfl ?_
    | refine JL_val [999] (OpV_blk 5 rfl rfl rfl rfl) rfl ?_))
  refine JL_nil ?_
  (repeat' (first | refine J_seq ?_ | refine J_skip ?_ | refine J_yes rfl ?_ | refine J_no rfl ?_))
  refine J_walk 11 [(0, true), (1, true), (2, true), (3, true), (4, true), (5, true), (6, true), (7, true), (8, true), (9, true), (10, false)] [5] (by kernel_rfl) (by decide) rfl ?_
  (repeat' (first
    | refine JW_evO (gs := [999]) rfl rfl ?_
    | refine JW_still [999] rfl (OpV_blk 0 rfl rfl rfl rfl) rfl ?_))
  refine JW_set 39 (v' := .int .i64 (k0 : Int)) rfl (congrArg (Value.int .i64) hk1) ?_
  refine JW_eff rfl ?_
  have hkfr := hI.ta.free k0 (by omega) hkn
  refine JL_callK [] (frAdd hF3 hN hkN (p := [k0]) ⟨rfl, hkn⟩ (d := a) (by omega) (by intro z hz; rw [List.mem_singleton.1 hz]; simp only [if_pos hkp]; omega)) rfl rfl rfl rfl (by kernel_rfl) Fit.refl trivial (fun _ => rfl) ?_
  rintro _ H' ⟨fs4, row4, rfl, hF4, hk4'⟩
  refine ⟨rfl, JL_nil ⟨⟨[5], by decide, rfl⟩, ?_⟩⟩
  refine JW_nil ?_
  refine JL_nil ?_
  (repeat' (first | refine J_seq ?_ | refine J_skip ?_ | refine J_yes rfl ?_ | refine J_no rfl ?_))
  refine J_region ?_
  (repeat' (first
    | refine JL_evO (gs := [999]) rfl ?_
    | refine JL_val [999] (OpV_blk 5 rfl rfl rfl rfl) rfl ?_))
  refine JL_set 46 (v' := .int .i64 (W64 ((s.w + 1 : Nat) : Int))) rfl (congrArg (Value.int .i64) (w64_w64 _ _)) ?_
  (repeat' (first
    | refine JL_evO (gs := [999]) rfl ?_
    | refine JL_val [999] (OpV_blk 5 rfl rfl rfl rfl) rfl ?_))
  refine JL_store 5 rfl rfl rfl rfl rfl [] rfl ?_
  refine JL_nil ?_
  obtain ⟨s2, hs2⟩ : ∃ x : ES, x = { s with fs := fs4, w := s.w + 1 } := ⟨_, rfl⟩
  refine J_fit (K := work P s2) (by rw [hs2]; exact Fit.refl) ?_
  have hI2 : TInv P L gv rm0 tr' pos par (pushV p a k0 val) s2 := by
    rw [hs2]
    exact ⟨⟨row4, hF4⟩, hI.ta.push hp hl hW hget (fun u r h => (lead_fr hP h).2.1) hb, hI.vo, hI.tb⟩
  have hk2 : s2.cost ≤ s.cost + 3 * accN (P.n + 1) + 15 * (P.n + 1) := by
    rw [hs2]
    show s.k + fs4.k ≤ s.k + s.fs.k + _ + _
    omega
  have hw2 : s2.w = s.w + 1 := by rw [hs2]
  have hcov : Cov P.n P.least par (pushV p a k0 val) [s0] := by
    intro u w hu hw hlt
    refine ⟨s0, by simp, p, hp, Classical.byContradiction fun hin => ?_⟩
    have hne : u ≠ k0 := fun e => hin (e ▸ hkp)
    simp only [pushV, List.mem_singleton, if_neg hne, if_neg hin] at hlt
    have := hroom u w hu hw
    omega
  have hbad : ∃ w, par y = some w ∧ pushV p a k0 val y < P.least := by
    have hyk : y ≠ k0 := fun e => by rw [e] at hya; omega
    rcases hW.all y hyp with e | ⟨r, hr, e⟩
    · exact absurd e hyk
    · refine ⟨_, by rw [← e]; exact (hW.at_ r hr).2.2.1, ?_⟩
      simp only [pushV, List.mem_singleton, if_neg hyk, if_pos hyp]
      omega
  clear hs2
  (repeat' (first | refine J_seq ?_ | refine J_skip ?_ | refine J_yes rfl ?_ | refine J_no rfl ?_))
  refine J_region ?_
  refine JL_evO (gs := [999]) rfl ?_
  refine JL_lit rfl rfl rfl rfl rfl rfl rfl (fun _ => rfl) fun g2 => ?_
  refine JL_own 1 1 rfl (by decide) ?_
  refine JL_all [] rfl ?_
  refine J_fit workC_in ?_
  obtain ⟨K1, hK1⟩ : ∃ x, x = accN (P.n + 1) + 11 * (P.n + 1) + 1 := ⟨_, rfl⟩
  obtain ⟨KU, hKU⟩ : ∃ x, x = 5 * accN (P.n + 1) + 39 * (P.n + 1) + 3 := ⟨_, rfl⟩
  refine J_block ?_
  refine J_loopF (σ := WS) (fun t => [(4, .slice t.A t.wt.length t.c), (0, .pointer (some ⟨P.pe, 0, none⟩))]) (fun t => workC P t.s (waitC t.A t.c t.wt))
    (fun t => CutsP P L gv rm0 tr' pos par (pushV p a k0 val) s2 t.u t.pos t.par t.val t.s ∧ Cov P.n P.least t.par t.val t.wt ∧ (∀ x ∈ t.wt, x ≤ P.n) ∧ (t.u = 0 → t.par = par ∧ t.val = pushV p a k0 val) ∧ t.wt.length ≤ t.u + 1 ∧
      t.s.cost + t.wt.length * K1 ≤ s2.cost + t.u * KU + K1) (fun t => 2 * lkN t.par P.n + t.wt.length)
    ⟨0, pos, par, pushV p a k0 val, s2, [s0], some ⟨g2, 0, none⟩, 1⟩ ⟨rfl, rfl, trivial⟩ Fit.refl
    ⟨⟨hI2, hPI2, Sub.refl, rfl, rfl, rfl⟩, hcov, (by intro x hx; rw [List.mem_singleton.1 hx]; omega), fun _ => ⟨rfl, rfl⟩, by simp, by simp⟩ ?_
  rintro ⟨u, pos1, par1, val1, s3, wt, Aw, cw⟩ ⟨hC, hcv, hwn, hu0, hwl, hco⟩
  simp only at hC hcv hwn hu0 hwl hco ⊢
  have hlk1 := lkN_le par P.n
  have hlk2 := hC.lk
  (repeat' (first | refine J_seq ?_ | refine J_skip ?_ | refine J_yes rfl ?_ | refine J_no rfl ?_))
  refine J_region ?_
  refine JL_all [] rfl ?_
  (repeat' (first | refine J_seq ?_ | refine J_skip ?_ | refine J_yes rfl ?_ | refine J_no rfl ?_))
  refine J_dec rfl (fun hlt => J_skip ?_) (fun hge => ?_)
  · rcases List.eq_nil_or_concat wt with h0 | ⟨wt0, x, rfl⟩
    · rw [h0] at hlt; simp at hlt
    rw [List.concat_eq_append] at *
    have hlen : (wt0 ++ [x]).length = wt0.length + 1 := by simp
    have hxn : x ≤ P.n := hwn x (by simp)
    refine J_know (own_is 9 rfl) fun ⟨_, hcw, hAw, _⟩ => ?_
    obtain ⟨gw, rfl⟩ := hAw (by omega)
    refine J_block ?_
    (repeat' (first | refine J_seq ?_ | refine J_skip ?_ | refine J_yes rfl ?_ | refine J_no rfl ?_))
    refine J_region ?_
    refine JL_evO (gs := [999]) rfl ?_
    refine JL_fit (Fit.re (A := P.fo s3.fs ++ [P.sg, P.pc s3.k s3.w, P.rc s3.rm, P.lc s3.vals, P.uc s3.un, waitC (some ⟨gw, 0, none⟩) cw (wt0 ++ [x])]) (R := P.rows s3.un) [5, 0, 1, 2, 3, 4, 6, 7, 8, 9] rfl (by decide)) ?_
    refine JL_callK [999] (tick_fn P s3.k s3.w) rfl rfl rfl rfl (by kernel_rfl) Fit.refl trivial (fun _ => rfl) ?_
    rintro v0 H' rfl
    refine ⟨rfl, ?_⟩
    refine JL_fit (Fit.re (A := [P.pc (s3.k + 1) s3.w] ++ (P.fo s3.fs ++ [P.sg, P.rc s3.rm, P.lc s3.vals, P.uc s3.un, waitC (some ⟨gw, 0, none⟩) cw (wt0 ++ [x])])) (R := P.rows s3.un) [1, 2, 3, 4, 5, 0, 6, 7, 8, 9] rfl (by decide)) ?_
    refine JL_nil ?_
    obtain ⟨s4, hs4⟩ : ∃ x : ES, x = { s3 with k := s3.k + 1 } := ⟨_, rfl⟩
    refine J_fit (K := workC P s4 (waitC (some ⟨gw, 0, none⟩) cw (wt0 ++ [x]))) (by rw [hs4]; exact Fit.refl) ?_
    have hI4 : TInv P L gv rm0 tr' pos1 par1 val1 s4 := by rw [hs4]; exact ⟨hC.ti.fa, hC.ti.ta, hC.ti.vo, hC.ti.tb⟩
    have hk4 : s4.cost = s3.cost + 1 := by rw [hs4]; show s3.k + 1 + s3.fs.k = s3.k + s3.fs.k + 1; omega
    have hw4 : s4.w = s3.w := by rw [hs4]
    clear hs4
    (repeat' (first | refine J_seq ?_ | refine J_skip ?_ | refine J_yes rfl ?_ | refine J_no rfl ?_))
    refine J_region ?_
    (repeat' (first
      | refine JL_evO (gs := [999]) rfl ?_
      | refine JL_val [999] (OpV_blk 5 rfl rfl rfl rfl) rfl ?_))
    have hwl2 : (wt0 ++ [x]).length ≤ 10002 := by omega
    refine JL_set 59 (v' := .int .i64 (wt0.length : Int)) rfl (congrArg (Value.int .i64) ((w64 (by omega)).trans (by omega))) ?_
    refine JL_val [999] (idx1z rfl rfl rfl rfl rfl (show wt0.length < (wt0 ++ [x]).length by omega)) rfl ?_
    refine JL_val [999] (OpV_own 9 rfl rfl rfl (natsI_get (show (wt0 ++ [x])[wt0.length]? = some x by simp))) rfl ?_
    (repeat' (first
      | refine JL_evO (gs := [999]) rfl ?_
      | refine JL_val [999] (OpV_blk 5 rfl rfl rfl rfl) rfl ?_))
    refine JL_nil ?_
    obtain ⟨row5, hF5⟩ := hI4.fa
    obtain ⟨px, hpx⟩ := hF5.path x (by omega)
    have hpl : ∀ z ∈ px, z ≤ P.n := fun z hz => by have := PathTo.lt hF5.lt hpx (show x < P.n + 1 by omega) z hz; omega
    (repeat' (first | refine J_seq ?_ | refine J_skip ?_ | refine J_yes rfl ?_ | refine J_no rfl ?_))
    refine J_region ?_
    (repeat' (first
      | refine JL_evO (gs := [999]) rfl ?_
      | refine JL_val [999] (OpV_blk 5 rfl rfl rfl rfl) rfl ?_))
    refine JL_callK [] (frLeast hF5 hN (show x < P.n + 1 by omega) hpx) rfl rfl rfl rfl (by kernel_rfl) Fit.refl trivial (fun _ => rfl) ?_
    rintro _ H' ⟨fs6, row6, v, rfl, rfl, hF6, hmin6, hvp, hk6⟩
    refine ⟨rfl, ?_⟩
    (repeat' (first
      | refine JL_evO (gs := [999]) rfl ?_
      | refine JL_val [999] (OpV_blk 5 rfl rfl rfl rfl) rfl ?_))
    refine JL_nil ?_
    have hvn := hpl v hvp
    (repeat' (first | refine J_seq ?_ | refine J_skip ?_ | refine J_yes rfl ?_ | refine J_no rfl ?_))
    refine J_walk 11 [(0, true), (1, true), (2, true), (3, true), (4, true), (6, true), (7, true), (8, true), (9, true), (5, false), (10, true)] [5] (by kernel_rfl) (by decide) rfl ?_
    (repeat' (first
      | refine JW_evO (gs := [999]) rfl rfl ?_
      | refine JW_still [999] rfl (OpV_blk 0 rfl rfl rfl rfl) rfl ?_))
    refine JW_eff rfl ?_
    refine JL_callK [] (frValue hF6 hN (show v < P.n + 1 by omega)) rfl rfl rfl rfl (by kernel_rfl) Fit.refl trivial (fun _ => rfl) ?_
    rintro _ H' ⟨fs7, rfl, rfl, hF7, hk7⟩
    refine ⟨rfl, JL_nil ⟨⟨[5], by decide, rfl⟩, ?_⟩⟩
    refine JW_evO (gs := [999]) rfl rfl ?_
    refine JW_nil ?_
    refine JL_nil ?_
    obtain ⟨s7, hs7⟩ : ∃ x : ES, x = { s4 with fs := fs7 } := ⟨_, rfl⟩
    refine J_fit (K := workC P s7 (waitC (some ⟨gw, 0, none⟩) cw (wt0 ++ [x]))) (by rw [hs7]; exact Fit.refl) ?_
    have hI7 : TInv P L gv rm0 tr' pos1 par1 val1 s7 := by rw [hs7]; exact ⟨⟨_, hF7⟩, hI4.ta, hI4.vo, hI4.tb⟩
    have hk8 : s7.cost ≤ s3.cost + K1 := by
      have h1 : s4.cost = s4.k + s4.fs.k := rfl
      have h2 : s7.cost = s4.k + fs7.k := by rw [hs7]; rfl
      omega
    have hw7 : s7.w = s3.w := by rw [hs7]; exact hw4
    clear hs7
    (repeat' (first | refine J_seq ?_ | refine J_skip ?_ | refine J_yes rfl ?_ | refine J_no rfl ?_))
    refine J_dec rfl (fun hge => ?_) (fun hlt7 => J_skip ?_)
    · (repeat' (first | refine J_seq ?_ | refine J_skip ?_ | refine J_yes rfl ?_ | refine J_no rfl ?_))
      refine J_region ?_
      refine JL_evO (gs := [999]) rfl ?_
      refine JL_evO (gs := [999]) rfl ?_
      refine JL_evO (gs := [999]) rfl ?_
      refine JL_evO (gs := [999]) rfl ?_
      refine JL_set 82 (v' := .int .i64 (wt0.length : Int)) rfl (congrArg (Value.int .i64) ((w64 (by omega)).trans (by omega))) ?_
      refine JL_val [999] (OpV_upto (i := wt0.length) rfl rfl rfl rfl rfl (by omega)) rfl ?_
      refine JL_all [] rfl ?_
      refine J_exit ?_
      have h1 : (wt0.length + 1) * K1 = wt0.length * K1 + K1 := by rw [Nat.add_mul, Nat.one_mul]
      rw [hlen, h1] at hco
      refine ⟨⟨u, pos1, par1, val1, s7, wt0, some ⟨gw, 0, none⟩, cw⟩, ⟨rfl, rfl, trivial⟩, ?_, ⟨⟨hI7, hC.pi, hC.sub, hC.rem, hC.lk, by rw [hw7]; exact hC.w⟩, hcv.pop hpx (fun z hz => by have h1 := hmin6.le z hz; omega), fun z hz => hwn z (by simp [hz]), hu0, by show wt0.length ≤ u + 1; omega, ?_⟩, ?_⟩
      · refine Fit.trans (Fit.shrink (m := wt0.length) 9 rfl (by omega)) ?_
        show Fit _ (workC P s7 (.own (.slice _ _ _) _ _ _ (List.take (wt0.length * 1) (natsI (wt0 ++ [x]))))) _
        rw [Nat.mul_one, natsI_take, List.take_left]
        exact Fit.refl
      · show s7.cost + wt0.length * K1 ≤ s2.cost + u * KU + K1
        omega
      · show 2 * lkN par1 P.n + wt0.length < 2 * lkN par1 P.n + (wt0 ++ [x]).length
        omega
    · obtain ⟨w, hw⟩ : ∃ w, par1 v = some w := by
        cases hp1 : par1 v with
        | some w => exact ⟨w, rfl⟩
        | none => have := hI7.ta.free v hvn hp1; omega
      obtain ⟨q, r, hq, hr, hto, hval⟩ := hI7.ta.link v w hvn hw
      have hrm := List.mem_of_getElem? hr
      have hwn7 : w ≤ P.n := by
        have := (toN_eq hP.right (lead_fr hP hrm).1).2.2
        omega
      obtain ⟨row7, hF7'⟩ := hI7.fa
      (repeat' (first | refine J_seq ?_ | refine J_skip ?_ | refine J_yes rfl ?_ | refine J_no rfl ?_))
      refine J_region ?_
      (repeat' (first
        | refine JL_evO (gs := [999]) rfl ?_
        | refine JL_val [999] (OpV_blk 5 rfl rfl rfl rfl) rfl ?_))
      refine JL_callK [] (frAbove hF7' hN (show v < P.n + 1 by omega)) rfl rfl rfl rfl (by kernel_rfl) Fit.refl trivial (fun _ => rfl) ?_
      rintro _ H' ⟨fs8, row8, rfl, rfl, hF8, hk9⟩
      refine ⟨rfl, ?_⟩
      refine JL_set 90 (v' := .int .i64 (w : Int)) rfl (congrArg (Value.int .i64) (enc_nat hw)) ?_
      refine JL_lit rfl rfl rfl rfl rfl rfl rfl (fun _ => rfl) fun g3 => ?_
      refine JL_appendS (n := (wt0 ++ [x]).length) (m := 1) (off := 0) (news := ints [(w : Int)]) 10 0 rfl rfl rfl rfl rfl rfl (by decide) rfl rfl (shows_blk g3 _ _ (0, 0)) (fun _ => rfl) rfl rfl (by omega) (by omega) (fun _ _ => rfl) fun A2 c2 => ?_
      rw [show (wt0 ++ [x]).length + 1 = ((wt0 ++ [x]) ++ [w]).length by simp, natsI_app]
      refine JL_all [] rfl ?_
      obtain ⟨s8, hs8⟩ : ∃ x : ES, x = { s7 with fs := fs8 } := ⟨_, rfl⟩
      refine J_fit (K := workC P s8 (waitC A2 c2 ((wt0 ++ [x]) ++ [w]))) (by rw [hs8]; exact Fit.sub (List.sublist_cons_self _ _)) ?_
      have hI8 : TInv P L gv rm0 tr' pos1 par1 val1 s8 := by rw [hs8]; exact ⟨⟨_, hF8⟩, hI7.ta, hI7.vo, hI7.tb⟩
      have hk10 : s8.cost ≤ s7.cost + accN (P.n + 1) + 5 * (P.n + 1) := by
        have h1 : s7.cost = s7.k + s7.fs.k := rfl
        have h2 : s8.cost = s7.k + fs8.k := by rw [hs8]; rfl
        omega
      have hw8 : s8.w = s3.w := by rw [hs8]; exact hw7
      clear hs8
      (repeat' (first | refine J_seq ?_ | refine J_skip ?_ | refine J_yes rfl ?_ | refine J_no rfl ?_))
      refine J_region ?_
      (repeat' (first
        | refine JL_evO (gs := [999]) rfl ?_
        | refine JL_val [999] (OpV_blk 5 rfl rfl rfl rfl) rfl ?_))
      refine JL_callK [] (unlink_fn hP s8 hI8 hvn hw hq hr hto hval) rfl rfl rfl rfl (by kernel_rfl) workC_call ⟨⟨0, _, by simp, rfl, shows_seg _ _ _, seen_seg⟩, trivial⟩ (fun _ => rfl) ?_
      rintro _ H' ⟨s9, rfl, hI9, hw9, hk11⟩
      refine ⟨noSeg_app rfl (noSeg_rows _ _), ?_⟩
      refine JL_fit workC_back ?_
      refine JL_nil ?_
      have hrem := remL_bump (L := L) hq hvn (List.getElem?_eq_some_iff.1 hr).1
      have hlk := lkN_cut hvn hw
      have h1 := hC.rem
      have h2 : (wt0.length + 1) * K1 = wt0.length * K1 + K1 := by rw [Nat.add_mul, Nat.one_mul]
      have h3 : (wt0.length + 1 + 1) * K1 = wt0.length * K1 + K1 + K1 := by rw [Nat.add_mul, Nat.add_mul, Nat.one_mul]
      have h4 : (u + 1) * KU = u * KU + KU := by rw [Nat.add_mul, Nat.one_mul]
      rw [hlen, h2] at hco
      have hlen2 : ((wt0 ++ [x]) ++ [w]).length = wt0.length + 1 + 1 := by simp
      refine ⟨⟨u + 1, pos1.set v (q + 1), ovSet par1 v none, valAt val1 v (4611686018427387904 - val1 v), s9, (wt0 ++ [x]) ++ [w], A2, c2⟩, ⟨rfl, rfl, trivial⟩, Fit.refl, ⟨⟨hI9, hC.pi.bump (fun _ h => by cases h) hq hr (.inl (by rw [← hval]; omega)), hC.sub.cut, ?_, ?_, by rw [hw9, hw8]; exact hC.w⟩, hcv.cut hw, fun z hz => ?_, fun h => (by cases h), ?_, ?_⟩, ?_⟩
      · show remL L P.n (pos1.set v (q + 1)) + (u + 1) = _
        omega
      · show lkN (ovSet par1 v none) P.n + (u + 1) = _
        omega
      · rcases List.mem_append.1 hz with hz | hz
        · exact hwn z hz
        · rw [List.mem_singleton.1 hz]; exact hwn7
      · show ((wt0 ++ [x]) ++ [w]).length ≤ u + 1 + 1
        omega
      · show s9.cost + ((wt0 ++ [x]) ++ [w]).length * K1 ≤ s2.cost + (u + 1) * KU + K1
        rw [hlen2, h3, h4]
        omega
      · show 2 * lkN (ovSet par1 v none) P.n + ((wt0 ++ [x]) ++ [w]).length < 2 * lkN par1 P.n + (wt0 ++ [x]).length
        omega
  · have h0 : wt = [] := List.length_eq_zero_iff.1 (by omega)
    subst h0
    refine J_fit workC_out (J_exit ?_)
    have hroom' : Roomy P par1 val1 := fun z w hz hw => Classical.byContradiction fun hlt => by
      obtain ⟨_, hx, _⟩ := hcv z w hz hw (by omega)
      cases hx
    have hupos : 1 ≤ u := by
      rcases Nat.eq_zero_or_pos u with h0 | h0
      · obtain ⟨e1, e2⟩ := hu0 h0
        obtain ⟨w, hw, hlt⟩ := hbad
        have := hroom' y w (hpn y hyp) (by rw [e1]; exact hw)
        rw [e2] at this
        omega
      · exact h0
    refine ⟨_, rfl, u, pos1, par1, val1, s3, W, rfl, hupos, hPW, by rw [hend, hk0], by rw [← htr']; exact hC.ti, by rw [← htr']; exact hC.pi, hroom', hC.rem, hC.lk, hC.w.trans hw2, ?_⟩
    simp only [List.length_nil, Nat.zero_mul, Nat.add_zero] at hco
    have h1 : u * (9 * accN (P.n + 1) + 65 * (P.n + 1) + 4) = u * KU + u * (4 * accN (P.n + 1) + 26 * (P.n + 1) + 1) := by
      rw [← Nat.mul_add, hKU]; congr 1; omega
    have h2 : 1 * (4 * accN (P.n + 1) + 26 * (P.n + 1) + 1) ≤ u * (4 * accN (P.n + 1) + 26 * (P.n + 1) + 1) := Nat.mul_le_mul_right _ hupos
    omega
end
end Go.Proofs.YtfogkbmbmaganaaGreat
