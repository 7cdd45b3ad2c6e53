/- The engine and the words that all chapters share: several texts in one. -/
import Derived.Test.YtfogkbmbmaganaaGreatQE
import Derived.Test.YtfogkbmbmaganaaGreatWalkN
import Derived.Test.YtfogkbmbmaganaaGreatQF

/- The engine by trees: how it lies in memory; the forest's functions in short; a step. -/
set_option linter.unusedVariables false
set_option linter.unusedSimpArgs false
namespace Go.Proofs.YtfogkbmbmaganaaGreat
open Go.RowKit
structure EP where
  N : Net
  least : Int
  n : Nat
  A : Option Addr
  c : Nat
  b : Nat
  o : Nat
  gr : Nat
  Ar : Option Addr
  cr : Nat
  gl : Nat
  gu : Nat
  pe : Nat
  pt : Nat
  ps : Nat
  go : Nat
  gn : Nat
  co : Nat
  cap : Nat
  rowsL : List Row
structure ES where
  vals : List Value
  un : List Row
  fs : FSt
  rm : List Int
  k : Nat
  w : Nat
abbrev EP.fo (P : EP) (f : FSt) : Heap := foC P.pt P.ps P.go P.gn P.co P.cap (P.n + 1) f
def engC (P : EP) (k w : Nat) : List Value := [.int .i64 P.N.nodes, .int .i64 P.N.src, .int .i64 P.N.snk, .slice P.A P.N.arcs.length P.c, .slice P.Ar (2 * P.N.arcs.length) P.cr, .int .i64 P.least, .slice (some ⟨P.gl, 0, none⟩) (P.n + 1) (P.n + 1), .slice (some ⟨P.gu, 0, none⟩) (P.n + 1) (P.n + 1),
  .pointer (some ⟨P.pt, 0, none⟩), .int .i64 (W64 k), .int .i64 (W64 w)]
abbrev EP.sg (P : EP) : Chunk := .seg P.b P.o (arcs P.N.arcs)
abbrev EP.pc (P : EP) (k w : Nat) : Chunk := blk P.pe 199 (engC P k w)
abbrev EP.rc (P : EP) (rm : List Int) : Chunk := .own (.slice P.Ar (2 * P.N.arcs.length) P.cr) 2 1 (2 * P.N.arcs.length) (ints rm)
abbrev EP.lc (P : EP) (vals : List Value) : Chunk := .own (.slice (some ⟨P.gl, 0, none⟩) (P.n + 1) (P.n + 1)) 50 1 (P.n + 1) vals
abbrev EP.uc (P : EP) (un : List Row) : Chunk := .own (.slice (some ⟨P.gu, 0, none⟩) (P.n + 1) (P.n + 1)) 50 1 (P.n + 1) (un.map rowV)
abbrev EP.rows (P : EP) (un : List Row) : Heap := (P.rowsL ++ un).map (rowC 3)
def engH (P : EP) (s : ES) : Heap := (P.fo s.fs ++ [P.pc s.k s.w, P.rc s.rm, P.lc s.vals, P.uc s.un]) ++ P.rows s.un
def work (P : EP) (s : ES) : Heap := (P.fo s.fs ++ [P.sg, P.pc s.k s.w, P.rc s.rm, P.lc s.vals, P.uc s.un]) ++ P.rows s.un
section
variable {X : Cx} {P : EP} {s : ES}
theorem work_in : Fit X ([P.sg] ++ engH P s) (work P s) := Fit.re (A := [P.sg] ++ (P.fo s.fs ++ [P.pc s.k s.w, P.rc s.rm, P.lc s.vals, P.uc s.un])) (R := P.rows s.un) [1, 2, 3, 4, 0, 5, 6, 7, 8] rfl (by decide)
theorem work_out : Fit X (work P s) (engH P s) := Fit.re (A := P.fo s.fs ++ [P.sg, P.pc s.k s.w, P.rc s.rm, P.lc s.vals, P.uc s.un]) (R := P.rows s.un) [0, 1, 2, 3, 5, 6, 7, 8] rfl (by decide)
theorem work_call : Fit X (work P s) (engH P s ++ [P.sg]) := Fit.mid (A := P.fo s.fs ++ [P.sg, P.pc s.k s.w, P.rc s.rm, P.lc s.vals, P.uc s.un]) (R := P.rows s.un) [0, 1, 2, 3, 5, 6, 7, 8] [4] rfl rfl (by decide)
theorem work_back : Fit X (engH P s ++ [P.sg]) (work P s) := by
  refine Fit.trans (Fit.swap (A := P.fo s.fs ++ [P.pc s.k s.w, P.rc s.rm, P.lc s.vals, P.uc s.un]) (R := P.rows s.un) (B := [P.sg])) ?_
  exact Fit.re (A := (P.fo s.fs ++ [P.pc s.k s.w, P.rc s.rm, P.lc s.vals, P.uc s.un]) ++ [P.sg]) (R := P.rows s.un) [0, 1, 2, 3, 8, 4, 5, 6, 7] rfl (by decide)
end
theorem tick_fn (P : EP) (k w : Nat) : Fn 128 [.pointer (some ⟨P.pe, 0, none⟩)] (mines [P.pc k w]) ([] ++ [P.pc k w]) fun _ H' => H' = [P.pc (k + 1) w] := by
  generalize hM : mines _ = M
  refine Fn_of Tryz.func128 rfl rfl fun w0 => ?_
  (repeat' (first | refine J_seq ?_ | refine J_skip ?_ | refine J_yes rfl ?_ | refine J_no rfl ?_))
  refine J_region ?_
  (repeat' (first
    | refine JL_evO (gs := [999]) rfl ?_
    | refine JL_val [999] (OpV_blk 0 rfl rfl rfl rfl) rfl ?_))
  refine JL_set 6 (v' := .int .i64 (W64 ((k + 1 : Nat) : Int))) rfl (congrArg (Value.int .i64) (w64_w64 _ _)) ?_
  (repeat' (refine JL_evO (gs := [999]) rfl ?_))
  refine JL_store 0 rfl rfl rfl rfl rfl [] rfl ?_
  exact JL_nil ⟨_, rfl, rfl⟩
/-! ### The forest's functions, with what they mean -/
section
variable {P : EP} {fs : FSt} {par : OV} {val : Nat → Int} {row : Nat → List Nat}
theorem frRoot (h : FAb (P.n + 1) fs par val row) (hN : P.n + 1 ≤ 10000) {v : Nat} (hv : v < P.n + 1) {p : List Nat} (hp : PathTo par v p) : Fn 132 [.pointer (some ⟨P.pt, 0, none⟩), .int .i64 (v : Int)] (mines (P.fo fs)) ([] ++ P.fo fs)
    fun r H' => ∃ fs' row' y, r = .int .i64 ((y : Nat) : Int) ∧ H' = P.fo fs' ∧ FAb (P.n + 1) fs' par val row' ∧ p.getLast? = some y ∧ fs'.k ≤ fs.k + accN (P.n + 1) + 5 * (P.n + 1) := by
  obtain ⟨s', row', y, h1, h2, h3, h4⟩ := h.root_ hN hv hp
  exact (root_fn fs h.fok v hv s' y h1).mono fun r H' ⟨e1, e2⟩ => ⟨s', row', y, e1, e2, h2, h3, h4⟩
theorem frAbove (h : FAb (P.n + 1) fs par val row) (hN : P.n + 1 ≤ 10000) {v : Nat} (hv : v < P.n + 1) : Fn 147 [.pointer (some ⟨P.pt, 0, none⟩), .int .i64 (v : Int)] (mines (P.fo fs)) ([] ++ P.fo fs)
    fun r H' => ∃ fs' row', r = .int .i64 (enc (par v)) ∧ H' = P.fo fs' ∧ FAb (P.n + 1) fs' par val row' ∧ fs'.k ≤ fs.k + accN (P.n + 1) + 5 * (P.n + 1) := by
  obtain ⟨p, hp⟩ := h.path v hv
  obtain ⟨s', row', h1, h2, h3, h4⟩ := h.above_ hN hv hp
  exact (above_fn fs h.fok v hv s' _ h1).mono fun r H' ⟨e1, e2⟩ => ⟨s', row', e1, e2, h2, h4⟩
theorem frValue (h : FAb (P.n + 1) fs par val row) (hN : P.n + 1 ≤ 10000) {v : Nat} (hv : v < P.n + 1) : Fn 144 [.pointer (some ⟨P.pt, 0, none⟩), .int .i64 (v : Int)] (mines (P.fo fs)) ([] ++ P.fo fs)
    fun r H' => ∃ fs', r = .int .i64 (val v) ∧ H' = P.fo fs' ∧ FAb (P.n + 1) fs' par val row ∧ fs'.k ≤ fs.k + 2 * (P.n + 1) := by
  obtain ⟨s', h1, h2, h3, h4⟩ := h.value_ hN hv
  exact (frvalue_fn fs h.fok v hv s' h1).mono fun r H' ⟨e1, e2⟩ => ⟨s', by rw [e1, h3], e2, h2, h4⟩
theorem frAdd (h : FAb (P.n + 1) fs par val row) (hN : P.n + 1 ≤ 10000) {v : Nat} (hv : v < P.n + 1) {p : List Nat} (hp : PathTo par v p) {d : Int} (hd : -9223372036854775808 ≤ d ∧ d ≤ 9223372036854775807) (hs : ∀ y ∈ p, -4611686018427387904 ≤ val y + d ∧ val y + d ≤ 4611686018427387904) :
    Fn 146 [.pointer (some ⟨P.pt, 0, none⟩), .int .i64 (v : Int), .int .i64 d] (mines (P.fo fs)) ([] ++ P.fo fs)
    fun _ H' => ∃ fs' row', H' = P.fo fs' ∧ FAb (P.n + 1) fs' par (fun z => if z ∈ p then val z + d else val z) row' ∧ fs'.k ≤ fs.k + accN (P.n + 1) + 2 * (P.n + 1) := by
  obtain ⟨s', row', h1, h2, h3⟩ := h.add_ hN hv hp hd hs
  exact (fadd_fn fs h.fok v hv d hd s' h1).mono fun r H' e2 => ⟨s', row', e2, h2, h3⟩
theorem frLeast (h : FAb (P.n + 1) fs par val row) (hN : P.n + 1 ≤ 10000) {v : Nat} (hv : v < P.n + 1) {p : List Nat} (hp : PathTo par v p) : Fn 145 [.pointer (some ⟨P.pt, 0, none⟩), .int .i64 (v : Int)] (mines (P.fo fs)) ([] ++ P.fo fs)
    fun r H' => ∃ fs' row' y, r = .int .i64 ((y : Nat) : Int) ∧ H' = P.fo fs' ∧ FAb (P.n + 1) fs' par val row' ∧ FirstMin (itsOf p.reverse val) y (val y) ∧ y ∈ p ∧ fs'.k ≤ fs.k + accN (P.n + 1) + 9 * (P.n + 1) := by
  obtain ⟨s', row', y, h1, h2, h3, h4, h5⟩ := h.least_ hN hv hp
  exact (fleast_fn fs h.fok v hv s' y h1).mono fun r H' ⟨e1, e2⟩ => ⟨s', row', y, e1, e2, h2, h3, h4, h5⟩
theorem frCut (h : FAb (P.n + 1) fs par val row) (hN : P.n + 1 ≤ 10000) {v u : Nat} (hv : v < P.n + 1) (hu : par v = some u) : Fn 150 [.pointer (some ⟨P.pt, 0, none⟩), .int .i64 (v : Int)] (mines (P.fo fs)) ([] ++ P.fo fs)
    fun _ H' => ∃ fs' row', H' = P.fo fs' ∧ FAb (P.n + 1) fs' (ovSet par v none) val row' ∧ fs'.k ≤ fs.k + accN (P.n + 1) + 7 * (P.n + 1) := by
  obtain ⟨s', row', h1, h2, h3⟩ := h.cut_ hN hv hu
  exact (fcut_fn fs h.fok v hv s' h1).mono fun r H' e2 => ⟨s', row', e2, h2, h3⟩
theorem frLink (h : FAb (P.n + 1) fs par val row) (hN : P.n + 1 ≤ 10000) {v w : Nat} (hv : v < P.n + 1) (hw : w < P.n + 1) (hvn : par v = none) {q : List Nat} (hq : PathTo par w q) (hvq : v ∉ q) : Fn 149 [.pointer (some ⟨P.pt, 0, none⟩), .int .i64 (v : Int), .int .i64 (w : Int)] (mines (P.fo fs)) ([] ++ P.fo fs)
    fun _ H' => ∃ fs' row', H' = P.fo fs' ∧ FAb (P.n + 1) fs' (ovSet par v (some w)) val row' ∧ fs'.k ≤ fs.k + 3 * accN (P.n + 1) + 10 * (P.n + 1) := by
  obtain ⟨s', row', h1, h2, h3⟩ := h.link_ hN hv hw hvn hq hvq
  exact (flink_fn fs h.fok v w hv hw s' h1).mono fun r H' e2 => ⟨s', row', e2, h2, h3⟩
end
end Go.Proofs.YtfogkbmbmaganaaGreat


/- One walk that is led, in plain terms. -/
set_option linter.unusedVariables false
set_option linter.unusedSimpArgs false
namespace Go.Proofs.YtfogkbmbmaganaaGreat
open Go.RowKit
theorem rooms_len {N : Net} {f : List Int} (hf : f.length = N.arcs.length) : (roomL (N.arcs.zip f)).length = 2 * N.arcs.length := by
  rw [roomL_length, List.length_zip, hf, Nat.min_self]
theorem rooms_bound {N : Net} (hR : N.Right) {f : List Int} (hf : Ranged N f) (q : Nat) : 0 ≤ (roomL (N.arcs.zip f)).getD q 0 ∧ (roomL (N.arcs.zip f)).getD q 0 ≤ 4611686018427387903 := by
  by_cases hq : q < 2 * N.arcs.length
  · have h0 := (rooms_ranged hf.len).1 hf
    obtain ⟨ar, har⟩ : ∃ x, N.arcs[q / 2]? = some x := ⟨N.arcs[q / 2]'(by omega), List.getElem?_eq_getElem (by omega)⟩
    have hx : f[q / 2]? = some (f.getD (q / 2) 0) := by rw [List.getD_eq_getElem?_getD, List.getElem?_eq_getElem (by have := hf.len; omega)]; rfl
    obtain ⟨g1, g2⟩ := roomL_get (zip_some har hx)
    have hc := hR.cap (List.mem_of_getElem? har)
    have k1 := h0 (2 * (q / 2)) (by omega)
    have k2 := h0 (2 * (q / 2) + 1) (by omega)
    have k3 := h0 q hq
    rw [List.getD_eq_getElem?_getD, g1, Option.getD_some] at k1
    rw [List.getD_eq_getElem?_getD, g2, Option.getD_some] at k2
    refine ⟨k3, ?_⟩
    simp only at k1 k2
    rcases Nat.mod_two_eq_zero_or_one q with hm | hm
    · rw [show 2 * (q / 2) = q by omega] at g1
      rw [List.getD_eq_getElem?_getD, g1, Option.getD_some]; simp only; omega
    · rw [show 2 * (q / 2) + 1 = q by omega] at g2
      rw [List.getD_eq_getElem?_getD, g2, Option.getD_some]; simp only; omega
  · rw [List.getD_eq_getElem?_getD, List.getElem?_eq_none (by rw [rooms_len hf.len]; omega)]
    exact ⟨Int.le_refl _, by decide⟩
theorem push_keeps {N : Net} (hR : N.Right) {L : Nat → List Nat} {lv : Nat → Int} {least : Int} (hG : Graded N L lv) (hle : 1 ≤ least) {rm : List Int} {pos W : List Nat} {f : List Int} (hf : IsFlow N f) (he : rm = roomL (N.arcs.zip f)) (hI : PI N L least rm pos W) (hend : endN N W = N.snk.toNat) :
    W ≠ [] ∧ (∀ r ∈ W, r < 2 * N.arcs.length) ∧ W.Nodup ∧ (∀ r ∈ W, ∀ q ∈ W, flipT r ≠ q) ∧ W.length ≤ N.nodes.toNat ∧ least ≤ mostR rm W ∧
    (∃ f', IsFlow N f' ∧ pushR (mostR rm W) W rm = roomL (N.arcs.zip f')) ∧ PI N L least (pushR (mostR rm W) W rm) pos (W.take (cutR least (pushR (mostR rm W) W rm) W)) ∧
    (∀ v r, r ∈ L v → (pushR (mostR rm W) W rm).getD r 0 ≤ rm.getD r 0) ∧ ∃ r v, r ∈ L v ∧ least ≤ rm.getD r 0 ∧ (pushR (mostR rm W) W rm).getD r 0 < least := by
  have hon := hI.on
  have hlvl := (Tr_lv hG hon hI.mem).1
  have hh1 := hG.hi (endN N W)
  have hh2 := hG.hi N.src.toNat
  rw [hend] at hon
  have hnd := Tr_nodup hG hon hI.mem
  have hlt : ∀ r ∈ W, r < 2 * N.arcs.length := fun r hr => (hG.ok _ _ (hI.mem r hr)).1
  have hroom : ∀ r ∈ W, least ≤ rm.getD r 0 := fun r hr => by obtain ⟨_, _, _, h⟩ := hI.head r hr; exact h
  have hWne : W ≠ [] := by
    intro h0
    have hsr := hR.src
    have hsk := hR.snk
    have hdf := hR.diff
    rw [h0] at hend
    simp only [endN, List.getLast?_nil] at hend
    omega
  obtain ⟨r0, hr0, hmo⟩ := mostR_at (rm := rm) hWne
  have hma := hroom r0 hr0
  rw [← hmo] at hma
  obtain ⟨a, haeq⟩ : ∃ a, a = mostR rm W := ⟨_, rfl⟩
  rw [← haeq] at hma hmo ⊢
  have hmle : ∀ r ∈ W, a ≤ rm.getD r 0 := fun r hr => haeq ▸ mostR_le r hr
  obtain ⟨k1, k2, k3⟩ := push_flow hR hf hlt hnd.1 hon (by omega : 0 ≤ a) (he ▸ hmle)
  rw [← he] at k2
  have hzl : rm.length = 2 * N.arcs.length := by rw [he]; exact rooms_len hf.len
  have hget := pushR_get (a := a) hzl hlt hnd.1
  have hmono : ∀ v r, r ∈ L v → (pushR a W rm).getD r 0 ≤ rm.getD r 0 := by
    intro v r hr
    rw [hget]
    have : flipT r ∉ W := by
      intro hin
      have g1 := (hG.ok _ _ hr)
      have g2 := (hG.ok _ _ (hI.mem _ hin)).2.2
      have g3 := g1.2.2
      rw [toN_flip, frN_flip] at g2
      rw [← g1.2.1] at g3
      omega
    rw [if_neg this]
    split <;> omega
  refine ⟨hWne, hlt, hnd.1, hnd.2, by omega, hma, ⟨_, k1, k2⟩, ?_, hmono, r0, _, hI.mem r0 hr0, hroom r0 hr0, ?_⟩
  · refine ⟨hI.pl, Tr_take _ hon, fun r hr => ?_, fun v p hp j r hj hjr => ?_⟩
    · obtain ⟨p, g1, g2, _⟩ := hI.head r (List.mem_of_mem_take hr)
      refine ⟨p, g1, g2, ?_⟩
      obtain ⟨i, hi, hir⟩ := List.mem_iff_getElem.1 hr
      have hi' : i < cutR least (pushR a W rm) W := by rw [List.length_take] at hi; omega
      rw [List.getElem_take] at hir
      have := List.not_of_lt_findIdx hi'
      rw [hir] at this
      simpa using this
    · rcases hI.pass v p hp j r hj hjr with k | k
      · exact .inl (by have := hmono v r (List.mem_of_getElem? hjr); omega)
      · exact .inr k
  · rw [hget, if_neg (fun hin => hnd.2 r0 hr0 _ hin rfl), if_pos hr0]; omega
theorem PI.start {N : Net} {L : Nat → List Nat} {least : Int} {rm : List Int} : PI N L least rm (List.replicate (N.nodes.toNat + 1) 0) [] := by
  refine ⟨by simp, ⟨_, rfl⟩, fun r hr => (by cases hr), fun v p hp j r hj => ?_⟩
  rw [List.getElem?_replicate] at hp
  split at hp
  · simp only [Option.some.injEq] at hp; omega
  · cases hp
def cntL (ls : List Nat) (least : Int) (rm : List Int) : Nat := (ls.filter fun r => decide (least ≤ rm.getD r 0)).length
theorem cntL_le {least : Int} {rm rm' : List Int} : ∀ {ls : List Nat}, (∀ r ∈ ls, rm'.getD r 0 ≤ rm.getD r 0) → cntL ls least rm' ≤ cntL ls least rm
  | [], _ => Nat.le_refl _
  | r :: ls, h => by
    have ih := cntL_le (ls := ls) (least := least) fun q hq => h q (by simp [hq])
    have h1 := h r (by simp)
    unfold cntL at *
    simp only [List.filter_cons, decide_eq_true_eq]
    split
    · rw [if_pos (by omega)]; simp only [List.length_cons]; omega
    · split
      · simp only [List.length_cons]; omega
      · exact ih
theorem cntL_lt {least : Int} {rm rm' : List Int} : ∀ {ls : List Nat}, (∀ r ∈ ls, rm'.getD r 0 ≤ rm.getD r 0) → ∀ r ∈ ls, least ≤ rm.getD r 0 → rm'.getD r 0 < least → cntL ls least rm' < cntL ls least rm
  | [], _, _, h, _, _ => by cases h
  | q :: ls, h, r, hr, h1, h2 => by
    have hle := cntL_le (ls := ls) (least := least) fun q hq => h q (by simp [hq])
    have hq := h q (by simp)
    unfold cntL at *
    simp only [List.filter_cons, decide_eq_true_eq]
    rcases List.mem_cons.1 hr with rfl | hr
    · rw [if_neg (by omega), if_pos h1]; simp only [List.length_cons]; omega
    · have ih := cntL_lt (ls := ls) (fun q hq => h q (by simp [hq])) r hr h1 h2
      unfold cntL at ih
      split
      · rw [if_pos (by omega)]; simp only [List.length_cons]; omega
      · split
        · simp only [List.length_cons]; omega
        · exact ih
end Go.Proofs.YtfogkbmbmaganaaGreat


/- The engine by trees, in plain terms: what it keeps. -/
set_option linter.unusedVariables false
set_option linter.unusedSimpArgs false
namespace Go.Proofs.YtfogkbmbmaganaaGreat
open Go.RowKit
structure EPOk (P : EP) (L : Nat → List Nat) (lv : Nat → Int) (gv : Nat → Nat) : Prop where
  right : P.N.Right
  nodes : P.N.nodes = P.n
  graded : Graded P.N L lv
  rl : P.rowsL.length = P.n + 1
  rows : ∀ (v : Nat) (row : Row), P.rowsL[v]? = some row → row.l = (L v).map fun (i : Nat) => (i : Int)
  at_ : ∀ (v : Nat) (row : Row), P.rowsL[v]? = some row → ints row.l ≠ [] → row.A = some ⟨gv v, 0, none⟩
  len : ∀ v, (L v).length ≤ 4000
  arcs : P.N.arcs ≠ [] → P.A = some ⟨P.b, P.o, none⟩
  ar : P.N.arcs ≠ [] → P.Ar = some ⟨P.gr, 0, none⟩
  le : -9223372036854775808 ≤ P.least ∧ P.least ≤ 9223372036854775807
theorem EPOk.room {P : EP} {L : Nat → List Nat} {lv : Nat → Int} {gv : Nat → Nat} (h : EPOk P L lv gv) {r : Nat} (hr : r < 2 * P.N.arcs.length) : P.Ar = some ⟨P.gr, 0, none⟩ := h.ar (by intro e; rw [e] at hr; simp at hr)
theorem EPOk.small {P : EP} {L : Nat → List Nat} {lv : Nat → Int} {gv : Nat → Nat} (h : EPOk P L lv gv) : P.n + 1 ≤ 10000 := by
  have := h.right.nodes
  have := h.nodes
  omega
structure TA (P : EP) (L : Nat → List Nat) (rm0 tr : List Int) (pos : List Nat) (par : OV) (val : Nat → Int) (rm : List Int) : Prop where
  posl : pos.length = P.n + 1
  link : ∀ v w, v ≤ P.n → par v = some w → ∃ q r, pos[v]? = some q ∧ (L v)[q]? = some r ∧ toN P.N r = w ∧ val v = tr.getD r 0
  free : ∀ v, v ≤ P.n → par v = none → val v = 4611686018427387904
  rml : rm.length = 2 * P.N.arcs.length
  lead : ∀ v r, r ∈ L v → (∀ q, par v ≠ none → pos[v]? = some q → (L v)[q]? ≠ some r) → rm.getD r 0 = tr.getD r 0
  rest : ∀ r, (∀ v, r ∉ L v) → rm.getD r 0 = rm0.getD r 0
  trb : ∀ r, 0 ≤ tr.getD r 0 ∧ tr.getD r 0 ≤ 4611686018427387903
section
variable {P : EP} {L : Nat → List Nat} {lv : Nat → Int} {gv : Nat → Nat} {rm0 tr : List Int} {pos : List Nat} {par : OV} {val : Nat → Int} {rm : List Int}
theorem TA.pos_at (h : TA P L rm0 tr pos par val rm) {v : Nat} (hv : v ≤ P.n) : ∃ q, pos[v]? = some q := ⟨pos[v]'(by have := h.posl; omega), List.getElem?_eq_getElem (by have := h.posl; omega)⟩
abbrev valAt (val : Nat → Int) (v : Nat) (d : Int) : Nat → Int := fun z => if z ∈ [v] then val z + d else val z
theorem lead_fr (hP : EPOk P L lv gv) {v r : Nat} (h : r ∈ L v) : r < 2 * P.N.arcs.length ∧ frN P.N r = v ∧ lv (toN P.N r) = lv v + 1 := hP.graded.ok v r h
theorem TA.settle (h : TA P L rm0 tr pos par val rm) (hP : EPOk P L lv gv) {v w q r : Nat} (hv : v ≤ P.n) (hw : par v = some w) (hq : pos[v]? = some q) (hr : (L v)[q]? = some r) (hval : val v = tr.getD r 0) :
    TA P L rm0 tr pos (ovSet par v none) (valAt val v (4611686018427387904 - val v)) (rm.set r (val v)) := by
  have hrm := List.mem_of_getElem? hr
  have hrl := (lead_fr hP hrm).1
  refine ⟨h.posl, fun u z hu hz => ?_, fun u hu hn => ?_, by rw [List.length_set]; exact h.rml, fun u e he hne => ?_, fun e he => ?_, h.trb⟩
  · simp only [ovSet] at hz
    split at hz
    · cases hz
    · rename_i hne
      obtain ⟨q', r', k1, k2, k3, k4⟩ := h.link u z hu hz
      exact ⟨q', r', k1, k2, k3, by simp only [valAt]; rw [if_neg (by simpa using hne)]; exact k4⟩
  · simp only [valAt, List.mem_singleton]
    by_cases e : u = v
    · rw [if_pos e, e]; omega
    · rw [if_neg e]
      exact h.free u hu (by simpa [ovSet, e] using hn)
  · by_cases e : r = e
    · subst e
      rw [getD_set (by rw [h.rml]; exact hrl), if_pos rfl, hval]
    · rw [getD_set (by rw [h.rml]; exact hrl), if_neg e]
      refine h.lead u _ he fun q' hn hq' => ?_
      by_cases euv : u = v
      · subst euv
        rw [hq] at hq'
        simp only [Option.some.injEq] at hq'
        subst hq'
        rw [hr]; simpa using e
      · exact hne q' (by simpa [ovSet, euv] using hn) hq'
  · have : r ≠ e := fun h' => he v (h' ▸ hrm)
    rw [getD_set (by rw [h.rml]; exact hrl), if_neg this]
    exact h.rest e he
theorem TA.bump (h : TA P L rm0 tr pos par val rm) {v q : Nat} (hn : par v = none) : TA P L rm0 tr (pos.set v q) par val rm := by
  have ne : ∀ u, par u ≠ none → v ≠ u := fun u hu e => hu (e ▸ hn)
  refine ⟨by rw [List.length_set]; exact h.posl, fun u z hu hz => ?_, h.free, h.rml, fun u e he hne => ?_, h.rest, h.trb⟩
  · obtain ⟨q', r', k1, k2, k3, k4⟩ := h.link u z hu hz
    exact ⟨q', r', by rw [List.getElem?_set_ne (ne u (by rw [hz]; simp))]; exact k1, k2, k3, k4⟩
  · exact h.lead u e he fun q' hn' hq' => hne q' hn' (by rw [List.getElem?_set_ne (ne u hn')]; exact hq')
theorem TA.hook (h : TA P L rm0 tr pos par val rm) (hP : EPOk P L lv gv) {v q r : Nat} (hv : v ≤ P.n) (hn : par v = none) (hq : pos[v]? = some q) (hr : (L v)[q]? = some r) :
    TA P L rm0 tr pos (ovSet par v (some (toN P.N r))) (valAt val v (rm.getD r 0 - 4611686018427387904)) rm := by
  have hrm := List.mem_of_getElem? hr
  refine ⟨h.posl, fun u z hu hz => ?_, fun u hu hn' => ?_, h.rml, fun u e he hne => ?_, h.rest, h.trb⟩
  · simp only [ovSet] at hz
    by_cases e : u = v
    · subst e
      rw [if_pos rfl] at hz
      simp only [Option.some.injEq] at hz
      refine ⟨q, r, hq, hr, hz, ?_⟩
      simp only [valAt, List.mem_singleton, if_true]
      rw [h.free u hu hn, h.lead u r hrm (fun _ k => absurd hn k)]; omega
    · rw [if_neg e] at hz
      obtain ⟨q', r', k1, k2, k3, k4⟩ := h.link u z hu hz
      exact ⟨q', r', k1, k2, k3, by simp only [valAt, List.mem_singleton]; rw [if_neg e]; exact k4⟩
  · simp only [valAt, List.mem_singleton]
    have e : u ≠ v := fun e => by subst e; simp [ovSet] at hn'
    rw [if_neg e]
    exact h.free u hu (by simpa [ovSet, e] using hn')
  · refine h.lead u e he fun q' hnn hq' => ?_
    by_cases euv : u = v
    · subst euv; exact absurd hn hnn
    · exact hne q' (by simpa [ovSet, euv] using hnn) hq'
theorem TA.path_lv (h : TA P L rm0 tr pos par val rm) (hP : EPOk P L lv gv) : ∀ {p : List Nat} {v : Nat}, PathTo par v p → v ≤ P.n → ∀ y ∈ p, lv v ≤ lv y ∧ (y ≠ v → lv v < lv y)
  | [], _, hp, _, _, _ => hp.elim
  | [z], v, ⟨h1, _⟩, _, y, hy => by
    rw [List.mem_singleton.1 hy, ← h1]; exact ⟨Int.le_refl _, fun h => absurd rfl h⟩
  | z :: z' :: l, v, ⟨h1, h2, h3⟩, hv, y, hy => by
    rcases List.mem_cons.1 hy with rfl | hy
    · rw [← h1]; exact ⟨Int.le_refl _, fun h => absurd rfl h⟩
    · obtain ⟨q, r, k1, k2, k3, k4⟩ := h.link v z' hv h2
      have hm := List.mem_of_getElem? k2
      obtain ⟨g1, g2, g3⟩ := lead_fr hP hm
      have hz : z' ≤ P.n := by
        have := (toN_eq hP.right g1).2.2
        have := hP.nodes
        omega
      have := (TA.path_lv h hP h3 hz y hy).1
      rw [k3] at g3
      exact ⟨by omega, fun _ => by omega⟩
end
end Go.Proofs.YtfogkbmbmaganaaGreat
