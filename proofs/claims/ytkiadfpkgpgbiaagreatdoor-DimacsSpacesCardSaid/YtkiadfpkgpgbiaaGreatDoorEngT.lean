
/- Texts in the engine: strings as rows of bytes, and contracts of the library as promises. -/
import Derived.Test.YtkiadfpkgpgbiaaGreatDoorQB
import Derived.Test.YtkiadfpkgpgbiaaGreatDoorTextP
import Derived.Laws.Concat
import Derived.Laws.Strings
import Derived.Laws.Strings2
import Derived.Laws.Slices
set_option linter.unusedVariables false
set_option linter.unusedSimpArgs false
namespace Go.Proofs.YtkiadfpkgpgbiaaGreatDoor
open Go.RowKit
/-- A text, by its bytes. -/
def str (l : List UInt8) : Value := .string ⟨l.toArray⟩
theorem str_size (l : List UInt8) : (⟨l.toArray⟩ : ByteArray).size = l.length := by show l.toArray.size = _; simp
theorem bytes_toList (l : List UInt8) : (⟨l.toArray⟩ : ByteArray).toList = l := by rw [ByteArray.toList_eq]
theorem eq_str (l m : List UInt8) : ((⟨l.toArray⟩ : ByteArray).toList == (⟨m.toArray⟩ : ByteArray).toList) = cdec (l = m) := by
  rw [bytes_toList, bytes_toList]
  by_cases h : l = m
  · rw [cdec_yes h, h]; simp
  · rw [cdec_no h]; simpa using h
section
variable {X : Cx} {E : Env} {H : Heap}
theorem OpV_cat {o : Oper} {t t' : Nat} {x y : Operand} {l m : List UInt8} (ho : o.op = .binOp .add t x y t') (hx : val E x = some (str l)) (hy : val E y = some (str m)) (h : l.length + m.length ≤ 9223372036854775807) : OpV X o E H (str (l ++ m)) := by
  intro a w hA hH
  have h1 := run_string_add_sum (P := Tryz.prog) (w := w) ⟨l.toArray⟩ ⟨m.toArray⟩ (by rw [str_size, str_size]; exact h)
  have e : (⟨l.toArray⟩ : ByteArray) ++ ⟨m.toArray⟩ = ⟨(l ++ m).toArray⟩ := by
    apply ByteArray.ext
    rw [ByteArray.data_append]
    simp
  rw [e] at h1
  unfold str at *
  simp [execOp, ho, hA.val hx, hA.val hy, eqGuard_str, h1, binOp]
theorem OpV_eqs {o : Oper} {t t' : Nat} {x y : Operand} {l m : List UInt8} (ho : o.op = .binOp .eql t x y t') (hx : val E x = some (str l)) (hy : val E y = some (str m)) : OpV X o E H (.bool (cdec (l = m))) := by
  have h : OpV X o E H (.bool ((⟨l.toArray⟩ : ByteArray).toList == (⟨m.toArray⟩ : ByteArray).toList)) := OpV_pure (by rw [ho]; simp only [evP, hx, hy, str]; rfl)
  rw [eq_str] at h
  exact h
theorem OpV_nes {o : Oper} {t t' : Nat} {x y : Operand} {l m : List UInt8} (ho : o.op = .binOp .neq t x y t') (hx : val E x = some (str l)) (hy : val E y = some (str m)) : OpV X o E H (.bool (cdec (l ≠ m))) := by
  have h : OpV X o E H (.bool (!((⟨l.toArray⟩ : ByteArray).toList == (⟨m.toArray⟩ : ByteArray).toList))) := OpV_pure (by rw [ho]; simp only [evP, hx, hy, str]; rfl)
  rw [eq_str] at h
  have e : (!(cdec (l = m))) = cdec (l ≠ m) := by
    by_cases h : l = m
    · rw [cdec_yes h, cdec_no (fun k => k h)]; rfl
    · rw [cdec_no h, cdec_yes h]; rfl
  rw [e] at h
  exact h
theorem OpV_chr {o : Oper} {t s1 s2 i : Nat} {x ix : Operand} {l : List UInt8} {b : UInt8} {k : IntKind} {z : Option Value} (ho : o.op = .index t x ix) (hx : val E x = some (str l)) (hi : val E ix = some (.int k (i : Int)))
    (ht : tab t = some ⟨.string, s1, s2, z⟩) (hb : l[i]? = some b) : OpV X o E H (.int .u8 (b.toNat : Int)) := by
  intro a w hA hH
  have hlt := (List.getElem?_eq_some_iff.1 hb).1
  have hsz := str_size l
  have hg : (⟨l.toArray⟩ : ByteArray)[i]? = some b := by
    rw [getElem?_pos _ _ (by rw [hsz]; exact hlt)]
    show some (l.toArray[i]) = _
    rw [← hb, List.getElem?_eq_getElem hlt]; simp
  unfold str at hx
  simp [execOp, ho, hA.val hx, hA.val hi, Instr.index, asIntOf, run_underlying (und_string ht), hg]
theorem OpV_sub {o : Oper} {t s1 s2 i j : Nat} {x lo hi : Operand} {l : List UInt8} {k k' : IntKind} {z : Option Value} (ho : o.op = .slice t x (some lo) (some hi) none) (hx : val E x = some (str l)) (hlo : val E lo = some (.int k (i : Int))) (hhi : val E hi = some (.int k' (j : Int)))
    (ht : tab t = some ⟨.string, s1, s2, z⟩) (hij : i ≤ j) (hj : j ≤ l.length) : OpV X o E H (str ((l.drop i).take (j - i))) := by
  intro a w hA hH
  have h1 := und_string ht
  have h2 := run_slice_string (P := Tryz.prog) (w := w) t ⟨l.toArray⟩ k k' (i : Int) (j : Int) h1 (by omega) (by omega) (by rw [str_size]; omega)
  unfold str at hx
  simp [execOp, ho, hA.val hx, hA.val hlo, hA.val hhi, run_sliceAt_string w t _ _ _ _ h1, h2, str]
  rw [Go.Lib.extract_eq]
theorem OpV_subf {o : Oper} {t s1 s2 i : Nat} {x lo : Operand} {l : List UInt8} {k : IntKind} {z : Option Value} (ho : o.op = .slice t x (some lo) none none) (hx : val E x = some (str l)) (hlo : val E lo = some (.int k (i : Int)))
    (ht : tab t = some ⟨.string, s1, s2, z⟩) (hi : i ≤ l.length) : OpV X o E H (str (l.drop i)) := by
  intro a w hA hH
  have h1 := und_string ht
  have h2 := run_slice_string_l (P := Tryz.prog) (w := w) (t := t) (s := ⟨l.toArray⟩) h1 k (i : Int) (by omega) (by rw [str_size]; omega)
  unfold str at hx
  simp [execOp, ho, hA.val hx, hA.val hlo, run_sliceAt_string w t _ _ _ _ h1, h2, str]
  rw [Go.Lib.extract_eq, List.take_of_length_le (by rw [List.length_drop]; simp [str_size])]
end
/-! ### Contracts as promises -/
theorem Fn.of_same {f : FuncId} {args : List Value} {H : Heap} {v : Value} {R : Value → Heap → Prop} (h : ∀ w, Calls Tryz.prog f args.toArray w fun e w' => e = .returned v ∧ w' = w) (hR : R v []) : Fn f args [] H R := fun w hw =>
  (h w).mono fun e w' ⟨he, hww⟩ => ⟨v, [], he, (by subst hww; exact hw.mono (fun c hc => by cases hc) List.Pairwise.nil), hR⟩
theorem has_below {w w' : World} {H : Heap} (hw : Has w [] w H) (hb : Below w.heap.size w w') : Has w [] w' [] :=
  ⟨hb.os, hb.tape, hb.output, hb.size, fun k hk _ => hb.block k hk, fun c hc => absurd hc List.not_mem_nil, fun c hc => absurd hc List.not_mem_nil, List.Pairwise.nil⟩
theorem Fn.of_below {f : FuncId} {args : List Value} {H : Heap} {R : Value → Heap → Prop} (h : ∀ w, Has w [] w H → Calls Tryz.prog f args.toArray w fun e w' => ∃ v, e = .returned v ∧ Below w.heap.size w w' ∧ R v []) : Fn f args [] H R := fun w hw =>
  (h w hw).mono fun e w' ⟨v, he, hb, hR⟩ => ⟨v, [], he, has_below hw hb, hR⟩
end Go.Proofs.YtkiadfpkgpgbiaaGreatDoor
