/- Rows of numbers and of arcs, as cells. -/
import Derived.Test.YtbhfbpeldcnpfaaEngF
namespace Go.Proofs.Ytbhfbpeldcnpfaa
open Go.RowKit
variable {X : Cx} {Q : Post} {E E' : Env} {H : Heap}

structure Arc where
  fr : Int
  to : Int
  cap : Int
def ints (l : List Int) : List Value := l.map (.int .i64)
def bools (l : List Bool) : List Value := l.map .bool
def arcs (l : List Arc) : List Value := l.flatMap fun a => [.int .i64 a.fr, .int .i64 a.to, .int .i64 a.cap]
theorem ints_length (l : List Int) : (ints l).length = l.length := by simp [ints]
theorem ints_get {l : List Int} {i : Nat} {x : Int} (h : l[i]? = some x) : (ints l)[i]? = some (.int .i64 x) := by simp [ints, h]
theorem bools_get {l : List Bool} {i : Nat} {x : Bool} (h : l[i]? = some x) : (bools l)[i]? = some (.bool x) := by simp [bools, h]
theorem arcs_get : ∀ {l : List Arc} {i : Nat} {x : Arc}, l[i]? = some x → (arcs l)[i * 3]? = some (.int .i64 x.fr) ∧ (arcs l)[i * 3 + 1]? = some (.int .i64 x.to) ∧ (arcs l)[i * 3 + 2]? = some (.int .i64 x.cap)
  | [], i, x, h => by simp at h
  | a :: l, 0, x, h => by simp at h; subst h; simp [arcs]
  | a :: l, i + 1, x, h => by
    have ih := arcs_get (l := l) (i := i) (x := x) (by simpa using h)
    have e : arcs (a :: l) = [.int .i64 a.fr, .int .i64 a.to, .int .i64 a.cap] ++ arcs l := by simp [arcs]
    have e1 : (i + 1) * 3 = i * 3 + 3 := by omega
    rw [e, e1]
    refine ⟨?_, ?_, ?_⟩
    · rw [List.getElem?_append_right (by simp)]; simpa using ih.1
    · rw [List.getElem?_append_right (by simp)]; simpa using ih.2.1
    · rw [List.getElem?_append_right (by simp)]; simpa using ih.2.2

theorem made_ints (n : Nat) : made [.int .i64 0] (n * 1) = ints (List.replicate n 0) := by simp [made_one, ints]
theorem made_bools (n : Nat) : made [.bool false] (n * 1) = bools (List.replicate n false) := by simp [made_one, bools]
theorem ints_set (l : List Int) (i : Nat) (x : Int) : (ints l).set i (.int .i64 x) = ints (l.set i x) := by simp [ints]
theorem bools_set (l : List Bool) (i : Nat) (x : Bool) : (bools l).set i (.bool x) = bools (l.set i x) := by simp [bools]
theorem put_ints {t by_ i : Nat} {uk : UK} {z : Option Value} {l : List Int} {x : Int} (ht : tab t = some ⟨uk, 1, by_, z⟩) (hi : i < l.length) : putT t (ints l) i (Value.int .i64 x).cells.toList = some (ints (l.set i x)) := by
  unfold putT
  rw [ht]
  have h2 : Nat.ble (i + 1) (ints l).length = true := Nat.ble_eq_true_of_le (by rw [ints_length]; omega)
  simp only [Value.cells, List.length_cons, List.length_nil, Nat.zero_add, Nat.beq_refl, h2, one, Value.oneCell', wr, ints_set]
theorem put_bools {t by_ i : Nat} {uk : UK} {z : Option Value} {l : List Bool} {x : Bool} (ht : tab t = some ⟨uk, 1, by_, z⟩) (hi : i < l.length) : putT t (bools l) i (Value.bool x).cells.toList = some (bools (l.set i x)) := by
  unfold putT
  rw [ht]
  have h2 : Nat.ble (i + 1) (bools l).length = true := Nat.ble_eq_true_of_le (by simp [bools]; omega)
  simp only [Value.cells, List.length_cons, List.length_nil, Nat.zero_add, Nat.beq_refl, h2, one, Value.oneCell', wr, bools_set]

theorem readT_arc {l : List Arc} {m : Nat} {a : Arc} (h : l[m]? = some a) : readT 51 (arcs l) (m * 3) = some (.agg #[.int .i64 a.fr, .int .i64 a.to, .int .i64 a.cap]) := by
  obtain ⟨h1, h2, h3⟩ := arcs_get h
  show (match takeC (arcs l) (m * 3) 3 with | some l => some (Value.agg l.toArray) | none => none) = _
  have : takeC (arcs l) (m * 3) 3 = some [.int .i64 a.fr, .int .i64 a.to, .int .i64 a.cap] := by
    unfold takeC; rw [h1]
    unfold takeC; rw [h2]
    unfold takeC; rw [h3]
    unfold takeC; rfl
  rw [this]
theorem readT_int {l : List Int} {m : Nat} {x : Int} (h : l[m]? = some x) : readT 2 (ints l) m = some (.int .i64 x) := ints_get h
theorem readT_int' {l : List Int} {m : Nat} {x : Int} (h : l[m]? = some x) : readT 3 (ints l) m = some (.int .i64 x) := ints_get h

/-! ### Quotients and rests -/
theorem OpV_quo {o : Oper} {t t' : Nat} {x y : Operand} {k : IntKind} {a b : Int} (ho : o.op = .binOp .quo t x y t') (hx : val E x = some (.int k a)) (hy : val E y = some (.int k b)) (hb : b ≠ 0) :
    OpV X o E H (.int k (k.wrap (a.tdiv b))) := by
  intro ac w hA hH
  simp [execOp, ho, hA.val hx, hA.val hy, eqGuard_int, binOp, Op.intDiv, hb]
theorem OpV_rem {o : Oper} {t t' : Nat} {x y : Operand} {k : IntKind} {a b : Int} (ho : o.op = .binOp .rem t x y t') (hx : val E x = some (.int k a)) (hy : val E y = some (.int k b)) (hb : b ≠ 0) :
    OpV X o E H (.int k (a.tmod b)) := by
  intro ac w hA hH
  simp [execOp, ho, hA.val hx, hA.val hy, eqGuard_int, binOp, Op.intDiv, hb]
/-- A shift by a number that is not below nothing. -/
theorem OpV_shl {o : Oper} {t t' : Nat} {x y : Operand} {k k' : IntKind} {a : Int} {b : Nat} (ho : o.op = .binOp .shl t x y t') (hx : val E x = some (.int k a)) (hy : val E y = some (.int k' (b : Int))) :
    OpV X o E H (.int k (k.wrap (a * 2 ^ (min b k.bits)))) := by
  intro ac w hA hH
  have hb : ¬ ((b : Int) < 0) := by omega
  simp [execOp, ho, hA.val hx, hA.val hy, eqGuard_int, binOp, Op.shift, hb]
theorem OpV_shr {o : Oper} {t t' : Nat} {x y : Operand} {k k' : IntKind} {a : Int} {b : Nat} (ho : o.op = .binOp .shr t x y t') (hx : val E x = some (.int k a)) (hy : val E y = some (.int k' (b : Int))) :
    OpV X o E H (.int k (a.fdiv (2 ^ (min b k.bits)))) := by
  intro ac w hA hH
  have hb : ¬ ((b : Int) < 0) := by omega
  simp [execOp, ho, hA.val hx, hA.val hy, eqGuard_int, binOp, Op.shift, hb]

/-! ### Places, by size -/
theorem idx1 {o : Oper} {t b off n c e sz by_ by' m : Nat} {x ix : Operand} {k : IntKind} {z z' : Option Value} {uk : UK} (ho : o.op = .indexAddr t x ix) (hx : val E x = some (.slice (some ⟨b, off, none⟩) n c))
    (hi : val E ix = some (.int k (m : Int))) (ht : tab t = some ⟨.slice e, sz, by_, z⟩) (he : tab e = some ⟨uk, 1, by', z'⟩) (hm : m < n) : OpV X o E H (.pointer (some ⟨b, off + m, none⟩)) := by
  have := OpV_index (X := X) (H := H) ho hx hi ht he hm
  simpa using this
theorem idx1z {o : Oper} {t b n c e sz by_ by' m : Nat} {x ix : Operand} {k : IntKind} {z z' : Option Value} {uk : UK} (ho : o.op = .indexAddr t x ix) (hx : val E x = some (.slice (some ⟨b, 0, none⟩) n c))
    (hi : val E ix = some (.int k (m : Int))) (ht : tab t = some ⟨.slice e, sz, by_, z⟩) (he : tab e = some ⟨uk, 1, by', z'⟩) (hm : m < n) : OpV X o E H (.pointer (some ⟨b, m, none⟩)) := by
  have := OpV_index (X := X) (H := H) ho hx hi ht he hm
  simpa using this
theorem idxN {o : Oper} {t b off n c e sz by_ by' s m : Nat} {x ix : Operand} {k : IntKind} {z z' : Option Value} {uk : UK} (ho : o.op = .indexAddr t x ix) (hx : val E x = some (.slice (some ⟨b, off, none⟩) n c))
    (hi : val E ix = some (.int k (m : Int))) (ht : tab t = some ⟨.slice e, sz, by_, z⟩) (he : tab e = some ⟨uk, s, by', z'⟩) (hm : m < n) : OpV X o E H (.pointer (some ⟨b, off + m * s, none⟩)) :=
  OpV_index (X := X) (H := H) ho hx hi ht he hm
theorem idxNz {o : Oper} {t b n c e sz by_ by' s m : Nat} {x ix : Operand} {k : IntKind} {z z' : Option Value} {uk : UK} (ho : o.op = .indexAddr t x ix) (hx : val E x = some (.slice (some ⟨b, 0, none⟩) n c))
    (hi : val E ix = some (.int k (m : Int))) (ht : tab t = some ⟨.slice e, sz, by_, z⟩) (he : tab e = some ⟨uk, s, by', z'⟩) (hm : m < n) : OpV X o E H (.pointer (some ⟨b, m * s, none⟩)) := by
  have := OpV_index (X := X) (H := H) ho hx hi ht he hm
  simpa using this
/-- A load out of a piece that is read, at a place of its own. -/
theorem ldseg {o : Oper} {t b off p i : Nat} {x : Operand} {vs : List Value} {v : Value} (k : Nat) (ho : o.op = .load t x) (hx : val E x = some (.pointer (some ⟨b, p, none⟩)))
    (hk : H[k]? = some (.seg b off vs)) (hp : p = off + i) (hv : readT t vs i = some v) : OpV X o E H v := OpV_seg k ho (by rw [hx, hp]) hk hv
theorem J_drop {c : Code} {K : Heap} (l : List Nat) (hl : l.Nodup) (hK : picks H l = some K) (h : J X c Q E K) : J X c Q E H := fun a w hA hH => h a w hA (hH.picks l hl hK)
theorem w64 {n : Int} (h : -9223372036854775808 ≤ n ∧ n ≤ 9223372036854775807) : IntKind.i64.wrap n = n := by rw [IntKind.wrap_i64]; omega
end Go.Proofs.Ytbhfbpeldcnpfaa
