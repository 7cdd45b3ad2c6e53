/- The engine: one cell of a row is cleared. -/
import Derived.Test.YtkiadfpkgpgbiaaGreatDoorQB
import Derived.Laws.Cells
set_option linter.unusedVariables false
set_option linter.unusedSimpArgs false
namespace Go.Proofs.YtkiadfpkgpgbiaaGreatDoor
open Go.RowKit
variable {X : Cx} {Q : Post} {E E' : Env} {H : Heap}
theorem zero_run {e : Nat} {uk : UK} {s by_ : Nat} {z : Value} (h : tab e = some ⟨uk, s, by_, some z⟩) (w : World) : (zeroValue e).run Tryz.prog w = .ok z w := by
  obtain ⟨d, j, _, hi, _, _, _, hz⟩ := tab_und h
  simp [zeroValue, typeInfo, hi, hz z rfl]
theorem JL_clear1 {ops l : List Oper} {o : Oper} {t e g i n cap c' sz e' sz' by' by2 : Nat} {x : Operand} {z : Value} {z' : Option Value} {uk : UK} {xs : List Value} (k : Nat) (ho : o.op = .call ⟨.builtin .clear, #[x], #[t]⟩) (hx : val E x = some (.slice (some ⟨g, i, none⟩) 1 c'))
    (hk : H[k]? = some (.own (.slice (some ⟨g, 0, none⟩) n cap) e' sz n xs)) (ht : tab t = some ⟨.slice e, sz', by', z'⟩) (he : tab e = some ⟨uk, 1, by2, some z⟩) (hz : z.cells.toList = [z]) (h1 : one [z] = true) (hi : i < xs.length) (gs : List Nat) (hb : bef X.n ops gs E o (.tuple #[]) = some E')
    (h : JL X ops l Q E' (H.set k (.own (.slice (some ⟨g, 0, none⟩) n cap) e' sz n (xs.set i z)))) : JL X ops (o :: l) Q E H := by
  intro a w hA hH
  obtain ⟨hg, hp⟩ := bef_spec hb
  unfold wpList
  rw [if_pos (gd_wanted hA hg)]
  left
  have hown : w.ownsRow 0 e' sz (.slice (some ⟨g, 0, none⟩) n cap) n xs := hH.holds _ (List.mem_of_getElem? hk)
  obtain ⟨cur, hcur, hlen, htk⟩ : ∃ cur : Array Value, w.heap[g]? = some (.cells cur e' (0, 0)) ∧ n * sz ≤ cur.size ∧ cur.toList.take (n * sz) = xs := by
    rcases hown.2 with ⟨h', _⟩ | ⟨g', cap', cur, h', h0, hg, h1, h2, h3, h4⟩
    · simp at h'
    · simp only [Value.slice.injEq, Option.some.injEq, Addr.mk.injEq, and_true, true_and] at h'
      obtain ⟨rfl, rfl⟩ := h'
      exact ⟨cur, hg, by rw [h3]; exact Nat.mul_le_mul_right _ h1, h4⟩
  have hcur' : w.heap[g]? = some (.cells cur.toList.toArray e' (0, 0)) := hcur
  obtain ⟨w', h2, h3, h4, h5, h6, h7, h8⟩ := storeCells_run (o := i) [z] 0 w cur.toList hcur' (by have := hown.1; simp only [Array.length_toList, List.length_singleton] at *; omega) h1
  show o.upon _ a _ _ ((execOp a.eval o).run _ w)
  have hzc : (Builtin.zeroCells z.cells 1).toList = [z] := by
    have e0 : z.cells = #[z] := Array.ext' (by rw [hz])
    rw [e0]
    simp [Builtin.zeroCells]
  have : (execOp a.eval o).run Tryz.prog w = .ok (.value (.tuple #[])) w' := by
    simp [execOp, ho, resolve, invoke, builtin, Builtin.clear_, hA.val hx, run_underlying (und_slice ht), zero_run he, hzc, h2]
  rw [this]
  refine h _ _ (hA.putE hp) (hH.step k hk h4 h5 h6 (by omega) (fun j _ hj => h8 j (fun x => hj (by rw [x]; rfl))) ?_ (fun b' hb' => .inl hb'))
  show w'.ownsRow 0 e' sz _ n (wr xs i [z])
  refine own_write hown (by simp only [List.length_singleton]; omega) fun cs hcs => ?_
  rw [hcur] at hcs
  simp only [Option.some.injEq, Obj.cells.injEq, and_true] at hcs
  subst hcs
  exact h3
/-- 'copy(d, s)' into a row of the call's own. -/
theorem JL_copy {ops l : List Oper} {o : Oper} {t e g i n cap m1 c1 m2 cx b off sz e' sz' by' by2 : Nat} {d s : Operand} {z z' : Option Value} {uk : UK} {xs vs : List Value} {c2 : Chunk} (k k2 : Nat) (ho : o.op = .call ⟨.builtin .copy, #[d, s], #[t, t]⟩) (hd : val E d = some (.slice (some ⟨g, i, none⟩) m1 c1)) (hs : val E s = some (.slice (some ⟨b, off, none⟩) m2 cx))
    (hk : H[k]? = some (.own (.slice (some ⟨g, 0, none⟩) n cap) e' sz n xs)) (hk2 : H[k2]? = some c2) (hc2 : c2.shows b off vs) (ht : tab t = some ⟨.slice e, sz', by', z'⟩) (he : tab e = some ⟨uk, 1, by2, z⟩) (hn : vs.length = Nat.min m2 m1) (h1 : one vs = true) (hi : i + vs.length ≤ xs.length) (gs : List Nat) (hb : bef X.n ops gs E o (.int .i64 (vs.length : Int)) = some E')
    (h : JL X ops l Q E' (H.set k (.own (.slice (some ⟨g, 0, none⟩) n cap) e' sz n (wr xs i vs)))) : JL X ops (o :: l) Q E H := by
  intro a w hA hH
  obtain ⟨hg, hp⟩ := bef_spec hb
  unfold wpList
  rw [if_pos (gd_wanted hA hg)]
  left
  have hown : w.ownsRow 0 e' sz (.slice (some ⟨g, 0, none⟩) n cap) n xs := hH.holds _ (List.mem_of_getElem? hk)
  have hshow := hc2 w (hH.holds _ (List.mem_of_getElem? hk2))
  obtain ⟨cur, hcur, hlen, htk⟩ : ∃ cur : Array Value, w.heap[g]? = some (.cells cur e' (0, 0)) ∧ n * sz ≤ cur.size ∧ cur.toList.take (n * sz) = xs := by
    rcases hown.2 with ⟨h', _⟩ | ⟨g', cap', cur, h', h0, hg, h1, h2, h3, h4⟩
    · simp at h'
    · simp only [Value.slice.injEq, Option.some.injEq, Addr.mk.injEq, and_true, true_and] at h'
      obtain ⟨rfl, rfl⟩ := h'
      exact ⟨cur, hg, by rw [h3]; exact Nat.mul_le_mul_right _ h1, h4⟩
  have hcur' : w.heap[g]? = some (.cells cur.toList.toArray e' (0, 0)) := hcur
  have hx0 : xs.length = n * sz := hown.1
  obtain ⟨w', h2, h3, h4, h5, h6, h7, h8⟩ := storeCells_run (o := i) vs 0 w cur.toList hcur' (by have := Array.length_toList (xs := cur); omega) h1
  have hld := run_loadCells_list (P := Tryz.prog) w ⟨b, off, none⟩ vs (fun j v hj => by rw [Addr.add_at]; exact hshow j v hj)
  show o.upon _ a _ _ ((execOp a.eval o).run _ w)
  have hsz : (sizeOf e).run Tryz.prog w = .ok 1 w := sizeOf_tab he w
  have : (execOp a.eval o).run Tryz.prog w = .ok (.value (.int .i64 (vs.length : Int))) w' := by
    simp [execOp, ho, resolve, invoke, builtin, Builtin.copy_, hA.val hd, hA.val hs, run_underlying (und_slice ht), Builtin.lenOf, Builtin.firstCells, hsz, ← hn, hld, h2, goInt]
  rw [this]
  refine h _ _ (hA.putE hp) (hH.step k hk h4 h5 h6 (by omega) (fun j _ hj => h8 j (fun x => hj (by rw [x]; rfl))) ?_ (fun b' hb' => .inl hb'))
  show w'.ownsRow 0 e' sz _ n (wr xs i vs)
  refine own_write hown hi fun cs hcs => ?_
  rw [hcur] at hcs
  simp only [Option.some.injEq, Obj.cells.injEq, and_true] at hcs
  subst hcs
  exact h3
/-! ### A frame known by a fit -/
section
variable {Sf : Heap} {K : Env → Heap → Prop}
theorem J_walkF {id : Nat} {l : List Oper} (n : Nat) (order : List (Nat × Bool)) (hB : drawB l.toArray n order = true) (hS : Fit X H Sf) (h : JW X l order Sf (fun E' H' => JL X l (l.drop n) Q E' H') E H) :
    J X (.region id l.toArray true) Q E H := by
  intro a w hA hH
  refine wp_region_walk (S := fun w => Has X.w0 X.M w Sf) n order hmix hB (hS _ hH.drew) ?_
  have := h a _ hA hH.drew
  refine (?_ : ∀ (Q1 Q2 : Act → World → Prop), (∀ a w, Q1 a w → Q2 a w) → ∀ l a w, wpW Tryz.prog _ _ Q1 l a w → wpW Tryz.prog _ _ Q2 l a w) _ _ ?_ _ a _ this
  · intro Q1 Q2 hq l
    induction l with
    | nil => exact fun a w h => hq a w h
    | cons o l ih =>
      intro a w h
      obtain ⟨k, st⟩ := o
      cases st with
      | true => obtain ⟨o, v, h1, h2, h3⟩ := h; exact ⟨o, v, h1, h2, ih _ _ h3⟩
      | false => exact wpOp_mono (fun a' w' h' => ⟨h'.1, ih _ _ h'.2⟩) h
  · rintro a w ⟨E', H', hA', hH', hq⟩
    exact hq a w hA' hH'
def effF (X : Cx) (ops : List Oper) (rest : List (Nat × Bool)) (Sf : Heap) (K : Env → Heap → Prop) : Post := fun e E' H' => match e with
  | .normal => Fit X H' Sf ∧ JW X ops rest Sf K E' H'
  | _ => False
theorem JW_effF {ops : List Oper} {rest : List (Nat × Bool)} {k : Nat} {o : Oper} (ho : ops[k]? = some o) (h : JL X ops [o] (effF X ops rest Sf K) E H) : JW X ops ((k, false) :: rest) Sf K E H := by
  intro a w hA hH
  have h1 := h a w hA hH
  show wpOp _ _ _ _ _ _ _
  refine wpOp_exits (Q1 := lift X (effF X ops rest Sf K)) (fun e a w hne hq => ?_) ?_
  · obtain ⟨E1, H1, _, _, hq⟩ := hq
    cases e with
    | normal => exact hne rfl
    | _ => exact hq
  · unfold wpOp
    have ho' : ops.toArray[k]? = some o := by simpa using ho
    simp only [ho']
    unfold wpList at h1
    have hfin : ∀ a' w', wpList Tryz.prog ops.toArray (lift X (effF X ops rest Sf K)) [] a' w' → Has X.w0 X.M w' Sf ∧ wpW Tryz.prog ops.toArray (fun w => Has X.w0 X.M w Sf) (fun a' w' => ∃ E' H', Agr X.n a' E' ∧ Has X.w0 X.M w' H' ∧ K E' H') rest a' w' := by
      rintro a' w' ⟨E1, H1, hA1, hH1, hf, hj⟩
      exact ⟨hf _ hH1, hj a' w' hA1 hH1⟩
    split
    · rename_i hw
      rw [if_pos hw] at h1
      exact h1.imp (Oper.wp_mono hfin) id
    · rename_i hw
      rw [if_neg hw] at h1
      exact hfin _ _ h1
end
/-- Some cells of a block. -/
theorem Fit.seg {b e off : Nat} {cs vs : List Value} (k : Nat) (hk : H[k]? = some (blk b e cs)) (hv : ∀ i v, vs[i]? = some v → cs[off + i]? = some v) : Fit X H (H.set k (.seg b off vs)) := by
  intro w hH
  have hb := hH.holds _ (List.mem_of_getElem? hk)
  refine hH.chunk k hk (fun i v hi => ?_) (fun _ h => by cases h) (fun b' h => ?_)
  · have h1 := hv i v hi
    have h2 : w.heap[b]? = some (.cells cs.toArray e (0, 0)) := hb
    show w.cell? ⟨b, off + i, none⟩ = some v
    simp [World.cell?, h2, h1]
  · simp only [Chunk.at_] at h
    split at h
    · cases h
    · exact h
end Go.Proofs.YtkiadfpkgpgbiaaGreatDoor
