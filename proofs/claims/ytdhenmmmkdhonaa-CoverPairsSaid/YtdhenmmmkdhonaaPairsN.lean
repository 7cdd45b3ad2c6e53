
/- The pairs of a graph, by walks, and whether edges are a matching. -/
import Derived.Test.YtdhenmmmkdhonaaMatchN
set_option linter.unusedVariables false
set_option linter.unusedSimpArgs false
namespace Go.Proofs.Ytdhenmmmkdhonaa
open Go.RowKit
section
variable {X : Cx} {E : Env} {H : Heap}
theorem OpV_part {o : Oper} {t e n c i j sz' by' : Nat} {x lo hi : Operand} {A : Option Addr} {z : Option Value} {et : TI} {k k' : IntKind} (ho : o.op = .slice t x (some lo) (some hi) none) (hx : val E x = some (.slice A n c)) (hlo : val E lo = some (.int k (i : Int))) (hhi : val E hi = some (.int k' (j : Int)))
    (ht : tab t = some ⟨.slice e,sz',by',z⟩) (he : tab e = some et) (hij : i ≤ j) (hj : j ≤ c) : OpV X o E H (.slice (cutA A c i et.size) (j - i) (c - i)):=by
  intro a w hA hH
  have h1:=und_elem ht
  have h2:=run_slice_lh (P:=Try.prog) (w:=w) t A n c h1 k k' (i : Int) (j : Int) (by omega) (by omega) (by omega)
  rw [und_elem' ht] at h2
  simp [execOp,ho,hA.val hx,hA.val hlo,hA.val hhi,run_sliceAt_slice w t _ _ _ _ h1,h2,sizeOf_tab he,sliced,cutA]
end
def pairsL (f : List Int) (nl k : Nat) : List Int:=((List.range k).filter fun (i : Nat)=>decide (0 < f.getD (nl + i) 0)).map fun (i : Nat)=>(i : Int)
theorem pairsL_succ (f : List Int) (nl k : Nat) : pairsL f nl (k + 1) = pairsL f nl k ++ (if 0 < f.getD (nl + k) 0 then [(k : Int)] else []):=by
  unfold pairsL
  rw [List.range_succ,List.filter_append,List.map_append]
  congr 1
  by_cases h : 0 < f.getD (nl + k) 0
  · rw [if_pos h,List.filter_cons,if_pos (decide_eq_true h)]; rfl
  · rw [if_neg h,List.filter_cons,if_neg (by simpa using h)]; rfl
theorem pairsL_length (f : List Int) (nl k : Nat) : (pairsL f nl k).length ≤ k:=by
  unfold pairsL
  rw [List.length_map]
  exact Nat.le_trans (List.length_filter_le _ _) (by simp)
def MaxFlow (N : Net) (f : List Int) : Prop:=IsFlow N f ∧ ¬ Rch N (roomL (N.arcs.zip f)) 1 N.snk
end Go.Proofs.Ytdhenmmmkdhonaa
