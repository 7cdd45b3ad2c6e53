
/- The engine by trees: how it lies in memory; the forest's functions in short; a step. -/
import Derived.Test.YtcgcimnjknadjaaQE
import Derived.Test.YtcgcimnjknadjaaWalkN
set_option linter.unusedVariables false
set_option linter.unusedSimpArgs false
namespace Go.Proofs.Ytcgcimnjknadjaa
open Go.RowKit
/-- What stays as it is. -/
structure EP where
  N : Net
  least : Int
  n : Nat
  A : Option Addr
  c : Nat
  b : Nat
  o : Nat
  gr : Nat
  Ar : Option Addr
  cr : Nat
  gl : Nat
  gu : Nat
  pe : Nat
  pt : Nat
  ps : Nat
  go : Nat
  gn : Nat
  co : Nat
  cap : Nat
  rowsL : List Row
/-- What turns. -/
structure ES where
  vals : List Value
  un : List Row
  fs : FSt
  rm : List Int
  k : Nat
  w : Nat
abbrev EP.fo (P : EP) (f : FSt) : Heap := foC P.pt P.ps P.go P.gn P.co P.cap (P.n + 1) f
def engC (P : EP) (k w : Nat) : List Value := [.int .i64 P.N.nodes, .int .i64 P.N.src, .int .i64 P.N.snk, .slice P.A P.N.arcs.length P.c, .slice P.Ar (2 * P.N.arcs.length) P.cr, .int .i64 P.least, .slice (some ⟨P.gl, 0, none⟩) (P.n + 1) (P.n + 1), .slice (some ⟨P.gu, 0, none⟩) (P.n + 1) (P.n + 1),
  .pointer (some ⟨P.pt, 0, none⟩), .int .i64 (W64 k), .int .i64 (W64 w)]
abbrev EP.sg (P : EP) : Chunk := .seg P.b P.o (arcs P.N.arcs)
abbrev EP.pc (P : EP) (k w : Nat) : Chunk := blk P.pe 93 (engC P k w)
abbrev EP.rc (P : EP) (rm : List Int) : Chunk := .own (.slice P.Ar (2 * P.N.arcs.length) P.cr) 2 1 (2 * P.N.arcs.length) (ints rm)
abbrev EP.lc (P : EP) (vals : List Value) : Chunk := .own (.slice (some ⟨P.gl, 0, none⟩) (P.n + 1) (P.n + 1)) 22 1 (P.n + 1) vals
abbrev EP.uc (P : EP) (un : List Row) : Chunk := .own (.slice (some ⟨P.gu, 0, none⟩) (P.n + 1) (P.n + 1)) 22 1 (P.n + 1) (un.map rowV)
abbrev EP.rows (P : EP) (un : List Row) : Heap := (P.rowsL ++ un).map (rowC 3)
def engH (P : EP) (s : ES) : Heap := (P.fo s.fs ++ [P.pc s.k s.w, P.rc s.rm, P.lc s.vals, P.uc s.un]) ++ P.rows s.un
def work (P : EP) (s : ES) : Heap := (P.fo s.fs ++ [P.sg, P.pc s.k s.w, P.rc s.rm, P.lc s.vals, P.uc s.un]) ++ P.rows s.un
section
variable {X : Cx} {P : EP} {s : ES}
theorem work_in : Fit X ([P.sg] ++ engH P s) (work P s) := Fit.re (A := [P.sg] ++ (P.fo s.fs ++ [P.pc s.k s.w, P.rc s.rm, P.lc s.vals, P.uc s.un])) (R := P.rows s.un) [1, 2, 3, 4, 0, 5, 6, 7, 8] rfl (by decide)
theorem work_out : Fit X (work P s) (engH P s) := Fit.re (A := P.fo s.fs ++ [P.sg, P.pc s.k s.w, P.rc s.rm, P.lc s.vals, P.uc s.un]) (R := P.rows s.un) [0, 1, 2, 3, 5, 6, 7, 8] rfl (by decide)
theorem work_call : Fit X (work P s) (engH P s ++ [P.sg]) := Fit.mid (A := P.fo s.fs ++ [P.sg, P.pc s.k s.w, P.rc s.rm, P.lc s.vals, P.uc s.un]) (R := P.rows s.un) [0, 1, 2, 3, 5, 6, 7, 8] [4] rfl rfl (by decide)
theorem work_back : Fit X (engH P s ++ [P.sg]) (work P s) := by
  refine Fit.trans (Fit.swap (A := P.fo s.fs ++ [P.pc s.k s.w, P.rc s.rm, P.lc s.vals, P.uc s.un]) (R := P.rows s.un) (B := [P.sg])) ?_
  exact Fit.re (A := (P.fo s.fs ++ [P.pc s.k s.w, P.rc s.rm, P.lc s.vals, P.uc s.un]) ++ [P.sg]) (R := P.rows s.un) [0, 1, 2, 3, 8, 4, 5, 6, 7] rfl (by decide)
end
theorem tick_fn (P : EP) (k w : Nat) : Fn 49 [.pointer (some ⟨P.pe, 0, none⟩)] (mines [P.pc k w]) ([] ++ [P.pc k w]) fun _ H' => H' = [P.pc (k + 1) w] := by
  generalize hM : mines _ = M
  refine Fn_of Try.func49 rfl rfl fun w0 => ?_
  (repeat' (first | refine J_seq ?_ | refine J_skip ?_ | refine J_yes rfl ?_ | refine J_no rfl ?_))
  refine J_region ?_
  (repeat' (first
    | refine JL_evO (gs := [999]) rfl ?_
    | refine JL_val [999] (OpV_blk 0 rfl rfl rfl rfl) rfl ?_))
  refine JL_set 6 (v' := .int .i64 (W64 ((k + 1 : Nat) : Int))) rfl (congrArg (Value.int .i64) (w64_w64 _ _)) ?_
  (repeat' (refine JL_evO (gs := [999]) rfl ?_))
  refine JL_store 0 rfl rfl rfl rfl rfl [] rfl ?_
  exact JL_nil ⟨_, rfl, rfl⟩
/-! ### The forest's functions, with what they mean -/
section
variable {P : EP} {fs : FSt} {par : OV} {val : Nat → Int} {row : Nat → List Nat}
theorem frRoot (h : FAb (P.n + 1) fs par val row) (hN : P.n + 1 ≤ 10000) {v : Nat} (hv : v < P.n + 1) {p : List Nat} (hp : PathTo par v p) : Fn 71 [.pointer (some ⟨P.pt, 0, none⟩), .int .i64 (v : Int)] (mines (P.fo fs)) ([] ++ P.fo fs)
    fun r H' => ∃ fs' row' y, r = .int .i64 ((y : Nat) : Int) ∧ H' = P.fo fs' ∧ FAb (P.n + 1) fs' par val row' ∧ p.getLast? = some y ∧ fs'.k ≤ fs.k + accN (P.n + 1) + 5 * (P.n + 1) := by
  obtain ⟨s', row', y, h1, h2, h3, h4⟩ := h.root_ hN hv hp
  exact (root_fn fs h.fok v hv s' y h1).mono fun r H' ⟨e1, e2⟩ => ⟨s', row', y, e1, e2, h2, h3, h4⟩
theorem frAbove (h : FAb (P.n + 1) fs par val row) (hN : P.n + 1 ≤ 10000) {v : Nat} (hv : v < P.n + 1) : Fn 100 [.pointer (some ⟨P.pt, 0, none⟩), .int .i64 (v : Int)] (mines (P.fo fs)) ([] ++ P.fo fs)
    fun r H' => ∃ fs' row', r = .int .i64 (enc (par v)) ∧ H' = P.fo fs' ∧ FAb (P.n + 1) fs' par val row' ∧ fs'.k ≤ fs.k + accN (P.n + 1) + 5 * (P.n + 1) := by
  obtain ⟨p, hp⟩ := h.path v hv
  obtain ⟨s', row', h1, h2, h3, h4⟩ := h.above_ hN hv hp
  exact (above_fn fs h.fok v hv s' _ h1).mono fun r H' ⟨e1, e2⟩ => ⟨s', row', e1, e2, h2, h4⟩
theorem frValue (h : FAb (P.n + 1) fs par val row) (hN : P.n + 1 ≤ 10000) {v : Nat} (hv : v < P.n + 1) : Fn 97 [.pointer (some ⟨P.pt, 0, none⟩), .int .i64 (v : Int)] (mines (P.fo fs)) ([] ++ P.fo fs)
    fun r H' => ∃ fs', r = .int .i64 (val v) ∧ H' = P.fo fs' ∧ FAb (P.n + 1) fs' par val row ∧ fs'.k ≤ fs.k + 2 * (P.n + 1) := by
  obtain ⟨s', h1, h2, h3, h4⟩ := h.value_ hN hv
  exact (frvalue_fn fs h.fok v hv s' h1).mono fun r H' ⟨e1, e2⟩ => ⟨s', by rw [e1, h3], e2, h2, h4⟩
theorem frAdd (h : FAb (P.n + 1) fs par val row) (hN : P.n + 1 ≤ 10000) {v : Nat} (hv : v < P.n + 1) {p : List Nat} (hp : PathTo par v p) {d : Int} (hd : -9223372036854775808 ≤ d ∧ d ≤ 9223372036854775807) (hs : ∀ y ∈ p, -4611686018427387904 ≤ val y + d ∧ val y + d ≤ 4611686018427387904) :
    Fn 99 [.pointer (some ⟨P.pt, 0, none⟩), .int .i64 (v : Int), .int .i64 d] (mines (P.fo fs)) ([] ++ P.fo fs)
    fun _ H' => ∃ fs' row', H' = P.fo fs' ∧ FAb (P.n + 1) fs' par (fun z => if z ∈ p then val z + d else val z) row' ∧ fs'.k ≤ fs.k + accN (P.n + 1) + 2 * (P.n + 1) := by
  obtain ⟨s', row', h1, h2, h3⟩ := h.add_ hN hv hp hd hs
  exact (fadd_fn fs h.fok v hv d hd s' h1).mono fun r H' e2 => ⟨s', row', e2, h2, h3⟩
theorem frLeast (h : FAb (P.n + 1) fs par val row) (hN : P.n + 1 ≤ 10000) {v : Nat} (hv : v < P.n + 1) {p : List Nat} (hp : PathTo par v p) : Fn 98 [.pointer (some ⟨P.pt, 0, none⟩), .int .i64 (v : Int)] (mines (P.fo fs)) ([] ++ P.fo fs)
    fun r H' => ∃ fs' row' y, r = .int .i64 ((y : Nat) : Int) ∧ H' = P.fo fs' ∧ FAb (P.n + 1) fs' par val row' ∧ FirstMin (itsOf p.reverse val) y (val y) ∧ y ∈ p ∧ fs'.k ≤ fs.k + accN (P.n + 1) + 9 * (P.n + 1) := by
  obtain ⟨s', row', y, h1, h2, h3, h4, h5⟩ := h.least_ hN hv hp
  exact (fleast_fn fs h.fok v hv s' y h1).mono fun r H' ⟨e1, e2⟩ => ⟨s', row', y, e1, e2, h2, h3, h4, h5⟩
theorem frCut (h : FAb (P.n + 1) fs par val row) (hN : P.n + 1 ≤ 10000) {v u : Nat} (hv : v < P.n + 1) (hu : par v = some u) : Fn 103 [.pointer (some ⟨P.pt, 0, none⟩), .int .i64 (v : Int)] (mines (P.fo fs)) ([] ++ P.fo fs)
    fun _ H' => ∃ fs' row', H' = P.fo fs' ∧ FAb (P.n + 1) fs' (ovSet par v none) val row' ∧ fs'.k ≤ fs.k + accN (P.n + 1) + 7 * (P.n + 1) := by
  obtain ⟨s', row', h1, h2, h3⟩ := h.cut_ hN hv hu
  exact (fcut_fn fs h.fok v hv s' h1).mono fun r H' e2 => ⟨s', row', e2, h2, h3⟩
theorem frLink (h : FAb (P.n + 1) fs par val row) (hN : P.n + 1 ≤ 10000) {v w : Nat} (hv : v < P.n + 1) (hw : w < P.n + 1) (hvn : par v = none) {q : List Nat} (hq : PathTo par w q) (hvq : v ∉ q) : Fn 102 [.pointer (some ⟨P.pt, 0, none⟩), .int .i64 (v : Int), .int .i64 (w : Int)] (mines (P.fo fs)) ([] ++ P.fo fs)
    fun _ H' => ∃ fs' row', H' = P.fo fs' ∧ FAb (P.n + 1) fs' (ovSet par v (some w)) val row' ∧ fs'.k ≤ fs.k + 3 * accN (P.n + 1) + 10 * (P.n + 1) := by
  obtain ⟨s', row', h1, h2, h3⟩ := h.link_ hN hv hw hvn hq hvq
  exact (flink_fn fs h.fok v w hv hw s' h1).mono fun r H' e2 => ⟨s', row', e2, h2, h3⟩
end
end Go.Proofs.Ytcgcimnjknadjaa
