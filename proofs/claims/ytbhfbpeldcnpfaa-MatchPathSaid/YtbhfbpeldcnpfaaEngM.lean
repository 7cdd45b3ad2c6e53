/- The engine: maps whose keys are whole numbers. -/
import Derived.Test.YtbhfbpeldcnpfaaData
namespace Go.Proofs.Ytbhfbpeldcnpfaa
open Go.RowKit
variable {X : Cx} {Q : Post} {E E' : Env} {H : Heap}
/-- The entries of a map, in the order in which they came. -/
def entsFrom (i : Nat) : List (Int × Value) → List MapEntry
  | [] => []
  | (k, v) :: l => ⟨.int .i64 k, v, i⟩ :: entsFrom (i + 1) l
def mapO (l : List (Int × Value)) : Obj := .map (entsFrom 0 l).toArray l.length
def lookL : List (Int × Value) → Int → Option Value
  | [], _ => none
  | (k, v) :: l, n => if k = n then some v else lookL l n
theorem lookL_none {l : List (Int × Value)} {n : Int} (h : ∀ p ∈ l, p.1 ≠ n) : lookL l n = none := by
  induction l with
  | nil => rfl
  | cons p l ih => obtain ⟨k, v⟩ := p; unfold lookL; rw [if_neg (h (k, v) (by simp))]; exact ih fun q hq => h q (by simp [hq])
theorem findNow_ents {u : IntKind} (n : Int) : ∀ (l : List (Int × Value)) (i j : Nat), ∃ r, Instr.findNow (.int u) (.int .i64 n) (entsFrom i l) j = some r ∧ (r.map (·.2)) = lookL l n
  | [], i, j => ⟨none, rfl, rfl⟩
  | (k, v) :: l, i, j => by
    by_cases h : n = k
    · subst h
      exact ⟨some (j, v), by simp [entsFrom, Instr.findNow, Instr.sameNow], by simp [lookL]⟩
    · obtain ⟨r, h1, h2⟩ := findNow_ents (u := u) n l (i + 1) (j + 1)
      have hf : (n == k) = false := by simpa using h
      exact ⟨r, by simp [entsFrom, Instr.findNow, Instr.sameNow, hf, h1], by unfold lookL; rw [if_neg (fun e => h e.symm)]; exact h2⟩
theorem findKey_ents {w : World} {kt : TypeId} {u : IntKind} (hk : Try.prog.underlying kt = some (.int u)) (n : Int) (l : List (Int × Value)) (i : Nat) : ∃ r, (Instr.findKey kt (.int .i64 n) (entsFrom i l)).run Try.prog w = .ok r w ∧ (r.map (·.2)) = lookL l n := by
  obtain ⟨r, h1, h2⟩ := findNow_ents (u := u) n l i 0
  exact ⟨r, by simp [Instr.findKey, run_underlying hk, h1], h2⟩
theorem checkKey_int {w : World} {kt : TypeId} {u : IntKind} (hk : Try.prog.underlying kt = some (.int u)) (e : Bool) (n : Int) : (Instr.checkKey e 10000 kt (.int .i64 n)).run Try.prog w = .ok () w := by
  show (Instr.checkKey e (9999 + 1) kt (.int .i64 n)).run Try.prog w = .ok () w
  unfold Instr.checkKey
  simp [run_underlying hk]
theorem JL_makeMap {F : Nat → Env} {ops l : List Oper} {o : Oper} {t : TypeId} (ho : o.op = .makeMap t none) (hb : ∀ b, bef X.n ops [] E o (.map (some b)) = some (F b)) (h : ∀ b, JL X ops l Q (F b) (.obj b (mapO []) :: H)) : JL X ops (o :: l) Q E H :=
  JL_new (f := fun b => .map (some b)) [] (fun a w hA _ => by simp [execOp, ho, Instr.makeMap, newObj, Sem.run, mapO, entsFrom, World.alloc_eq]) hb h
theorem OpV_lookup {o : Oper} {t kt et b sz by_ : Nat} {x ix : Operand} {n : Int} {u : IntKind} {uk : UK} {z : Value} {l : List (Int × Value)} (k : Nat) (ht : Try.prog.underlying t = some (.map kt et)) (hk : Try.prog.underlying kt = some (.int u)) (ho : o.op = .lookup t x ix false)
    (hx : val E x = some (.map (some b))) (hi : val E ix = some (.int .i64 n)) (hH : H[k]? = some (.obj b (mapO l))) (hz : tab et = some ⟨uk, sz, by_, some z⟩) : OpV X o E H ((lookL l n).getD z) := by
  intro a w hA hHas
  have hb : w.heap[b]? = some (mapO l) := hHas.holds _ (List.mem_of_getElem? hH)
  obtain ⟨d, j, _, hji, _, _, _, hzz⟩ := tab_und hz
  obtain ⟨r, h1, h2⟩ := findKey_ents (w := w) hk n l 0
  have hg : (getObj b).run Try.prog w = .ok (mapO l) w := by unfold mapO at hb ⊢; simp [getObj, Sem.run, hb]
  unfold mapO at hg
  have hr : (Instr.lookup t (.map (some b)) (.int .i64 n) false).run Try.prog w = .ok ((lookL l n).getD z) w := by
    rw [← h2]
    cases r with
    | none => simp [Instr.lookup, run_underlying ht, hg, checkKey_int hk, h1, zeroValue, typeInfo, hji, hzz z rfl]
    | some p => obtain ⟨i, v⟩ := p; simp [Instr.lookup, run_underlying ht, hg, checkKey_int hk, h1]
  simp [execOp, ho, hA.val hx, hA.val hi, hr]
theorem ents_push (n : Int) (v : Value) : ∀ (l : List (Int × Value)) (i : Nat), entsFrom i l ++ [⟨.int .i64 n, v, i + l.length⟩] = entsFrom i (l ++ [(n, v)])
  | [], i => by simp [entsFrom]
  | (k, u) :: l, i => by
    have := ents_push n v l (i + 1)
    simp only [entsFrom, List.cons_append, List.length_cons]
    rw [← this, show i + (l.length + 1) = i + 1 + l.length by omega]
/-- 'm[n] = v', n no key yet. -/
theorem JL_mapPush {ops l : List Oper} {o : Oper} {t kt et b : Nat} {x ix y : Operand} {n : Int} {v : Value} {u : IntKind} {es : List (Int × Value)} (k : Nat) (ht : Try.prog.underlying t = some (.map kt et)) (hk : Try.prog.underlying kt = some (.int u)) (ho : o.op = .mapUpdate t x ix y)
    (hx : val E x = some (.map (some b))) (hi : val E ix = some (.int .i64 n)) (hy : val E y = some v) (hH : H[k]? = some (.obj b (mapO es))) (hnew : ∀ p ∈ es, p.1 ≠ n) (gs : List Nat) (hb : bef X.n ops gs E o undef = some E')
    (h : JL X ops l Q E' (H.set k (.obj b (mapO (es ++ [(n, v)]))))) : JL X ops (o :: l) Q E H := by
  intro a w hA hHas
  obtain ⟨hg, hp⟩ := bef_spec hb
  unfold wpList
  rw [if_pos (gd_wanted hA hg)]
  left
  have hbl : w.heap[b]? = some (mapO es) := hHas.holds _ (List.mem_of_getElem? hH)
  have hlt : b < w.heap.size := (Array.getElem?_eq_some_iff.1 hbl).1
  obtain ⟨r, h1, h2⟩ := findKey_ents (w := w) hk n es 0
  rw [lookL_none hnew] at h2
  have hr0 : r = none := by cases r with
    | none => rfl
    | some p => simp at h2
  subst hr0
  have hgo : (getObj b).run Try.prog w = .ok (mapO es) w := by unfold mapO at hbl ⊢; simp [getObj, Sem.run, hbl]
  unfold mapO at hgo
  have hso : (setObj b (mapO (es ++ [(n, v)]))).run Try.prog w = .ok () { w with heap := w.heap.setIfInBounds b (mapO (es ++ [(n, v)])) } := by
    unfold mapO at hbl
    simp [setObj, Sem.run, hbl]
  have hr : (Instr.mapUpdate t (.map (some b)) (.int .i64 n) v).run Try.prog w = .ok () { w with heap := w.heap.setIfInBounds b (mapO (es ++ [(n, v)])) } := by
    rw [← hso]
    simp [Instr.mapUpdate, run_underlying ht, hgo, checkKey_int hk, h1, mapO, ← ents_push]
  show o.upon _ a _ _ ((execOp a.eval o).run _ w)
  have hx' : (execOp a.eval o).run Try.prog w = .ok .skip { w with heap := w.heap.setIfInBounds b (mapO (es ++ [(n, v)])) } := by
    simp [execOp, ho, hA.val hx, hA.val hi, hA.val hy, hr]
  rw [hx']
  refine h _ _ (hA.putE hp) (hHas.step k hH rfl rfl rfl (by simp) (fun q hq hne => ?_) ?_ (fun b' hb' => .inl hb'))
  · have : b ≠ q := fun e => hne (by rw [← e]; rfl)
    simp [Array.getElem?_setIfInBounds_ne this]
  · show (w.heap.setIfInBounds b _)[b]? = _
    simp [hlt]
end Go.Proofs.Ytbhfbpeldcnpfaa
