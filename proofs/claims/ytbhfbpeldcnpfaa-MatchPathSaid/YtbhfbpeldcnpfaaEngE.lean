/- The engine, its sixth part: rows, and calls. -/
import Derived.Test.YtbhfbpeldcnpfaaEngD
import Derived.Deep.AppendLies
namespace Go.Proofs.Ytbhfbpeldcnpfaa
open Go.RowKit
variable {X : Cx} {Q : Post} {E E' : Env} {H : Heap}

/-! ### Rows that are made -/
theorem JL_step {ops l : List Oper} {o : Oper} {v : Value} {E' : Env} {H' : Heap} (gs : List Nat) (hb : bef X.n ops gs E o v = some E')
    (hr : ∀ a w, Agr X.n a E → Has X.w0 X.M w H → ∃ w', (execOp a.eval o).run Try.prog w = .ok (.value v) w' ∧ Has X.w0 X.M w' H') (h : JL X ops l Q E' H') : JL X ops (o :: l) Q E H := by
  intro a w hA hH
  obtain ⟨hg, hp⟩ := bef_spec hb
  unfold wpList
  rw [if_pos (gd_wanted hA hg)]
  left
  obtain ⟨w', h1, h2⟩ := hr a w hA hH
  show o.upon _ a _ _ ((execOp a.eval o).run _ w)
  rw [h1]
  exact h _ _ (hA.putE hp) h2
theorem JL_some {α : Type} {F : α → Env} {G : α → Heap} {f : α → Value} {ops l : List Oper} {o : Oper} (gs : List Nat) (hb : ∀ x, bef X.n ops gs E o (f x) = some (F x))
    (hr : ∀ a w, Agr X.n a E → Has X.w0 X.M w H → ∃ x w', (execOp a.eval o).run Try.prog w = .ok (.value (f x)) w' ∧ Has X.w0 X.M w' (G x)) (h : ∀ x, JL X ops l Q (F x) (G x)) : JL X ops (o :: l) Q E H := by
  intro a w hA hH
  obtain ⟨x, w', h1, h2⟩ := hr a w hA hH
  obtain ⟨hg, hp⟩ := bef_spec (hb x)
  unfold wpList
  rw [if_pos (gd_wanted hA hg)]
  left
  show o.upon _ a _ _ ((execOp a.eval o).run _ w)
  rw [h1]
  exact h x _ _ (hA.putE hp) h2
/-- A piece for a slice that holds nothing yet. -/
theorem Has.addnil {w0 w : World} {M : List Nat} (hH : Has w0 M w H) (e sz : Nat) : Has w0 M w (.own (.slice none 0 0) e sz 0 [] :: H) :=
  hH.grow rfl rfl rfl (Nat.le_refl _) (fun _ _ => rfl) (World.ownsRow_nil w 0 e sz) (fun b hb => by simp [Chunk.at_, Value.ownBlock] at hb)
theorem J_addnil {c : Code} (e sz : Nat) (h : J X c Q E (.own (.slice none 0 0) e sz 0 [] :: H)) : J X c Q E H := fun a w hA hH => h a w hA (hH.addnil e sz)
theorem JL_addnil {ops l : List Oper} (e sz : Nat) (h : JL X ops l Q E (.own (.slice none 0 0) e sz 0 [] :: H)) : JL X ops l Q E H := fun a w hA hH => h a w hA (hH.addnil e sz)

def made (z : List Value) (n : Nat) : List Value := (madeCells z.toArray n).toList
theorem made_length (z : List Value) (n : Nat) : (made z n).length = n := by simp [made, size_madeCells]
theorem made_one (v : Value) (n : Nat) : made [v] n = List.replicate n v := by
  apply List.ext_getElem
  · simp [made_length]
  · intro i h1 h2
    simp [made, madeCells, Nat.mod_one]
theorem zero_size {t : Nat} {uk : UK} {sz by_ : Nat} {v : Value} (h : tab t = some ⟨uk, sz, by_, some v⟩) : ∃ j, Try.prog.info? t = some j ∧ j.zero = some v ∧ j.size = sz ∧ j.bytes = by_ := by
  obtain ⟨d, j, _, hi, _, h1, h2, hz⟩ := tab_und h
  exact ⟨j, hi, hz v rfl, h1, h2⟩
/-- 'make([]T, n, c)'. -/
theorem JL_make {F : Nat → Env} {ops l : List Oper} {o : Oper} {t e sz by_ sz' by' n c : Nat} {x y : Operand} {k1 k2 : IntKind} {uk : UK} {v : Value} {z : Option Value} {zs : List Value} (ho : o.op = .makeSlice t x y)
    (hx : val E x = some (.int k1 (n : Int))) (hy : val E y = some (.int k2 (c : Int))) (ht : tab t = some ⟨.slice e, sz', by', z⟩) (he : tab e = some ⟨uk, sz, by_, some v⟩) (hz : v.cells = zs.toArray)
    (hnc : n ≤ c) (hc : c * by_ ≤ 140737488355328) (hc2 : c ≤ 2147483648) (hb : ∀ b, bef X.n ops [] E o (.slice (some ⟨b, 0, none⟩) n c) = some (F b))
    (h : ∀ b, JL X ops l Q (F b) (.own (.slice (some ⟨b, 0, none⟩) n c) e sz n (made zs (n * sz)) :: H)) : JL X ops (o :: l) Q E H := by
  obtain ⟨j, hi, hjz, hjs, hjb⟩ := zero_size he
  refine JL_some (f := fun b => .slice (some ⟨b, 0, none⟩) n c) (G := fun b => .own (.slice (some ⟨b, 0, none⟩) n c) e sz n (made zs (n * sz)) :: H) [] hb (fun a w hA hH => ?_) h
  have hbb : (j.bytes : Int) * (c : Int) ≤ 281474976710656 := by
    have h2 : ((by_ * c : Nat) : Int) ≤ ((140737488355328 : Nat) : Int) := Int.ofNat_le.2 (by rw [Nat.mul_comm]; exact hc)
    rw [Int.natCast_mul] at h2
    rw [hjb]
    exact Int.le_trans h2 (by decide)
  have hr := run_make (P := Try.prog) w t e j v (und_slice ht) hi hjz k1 k2 (n : Int) (c : Int) (by omega) (by omega) hbb (by omega)
  simp only [Int.toNat_natCast] at hr
  refine ⟨w.heap.size, w.alloc (.cells (madeCells v.cells (c * j.size)) e), by simp [execOp, ho, hA.val hx, hA.val hy, hr], ?_⟩
  refine hH.grow rfl rfl rfl (by simp) (fun k hk => alloc_old w _ k hk) ?_ (fun b hb => by simp only [Chunk.at_, Value.ownBlock, Option.some.injEq] at hb; omega)
  refine ⟨made_length _ _, .inr ⟨w.heap.size, c, _, rfl, Nat.zero_le _, heap_alloc_new w _, hnc, by unfold maxLen; omega, by rw [size_madeCells, hjs], ?_⟩⟩
  apply List.ext_getElem
  · simp only [List.length_take, Array.length_toList, size_madeCells, made_length, hjs]
    exact Nat.min_eq_left (Nat.mul_le_mul_right _ hnc)
  · intro i h1 h2
    simp [made, madeCells, hz]
/-- 'append(s, x...)': s the call's own, x a row of at least one. -/
theorem JL_append {F : Nat → Nat → Env} {ops l : List Oper} {o : Oper} {t e sz by_ sz' by' n m cx b off : Nat} {s x : Operand} {uk : UK} {zv v : Value} {z : Option Value} {xs news : List Value} {c2 : Chunk} (k k2 : Nat)
    (ho : o.op = .call ⟨.builtin .append, #[s, x], #[t, t]⟩) (hs : val E s = some v) (hx : val E x = some (.slice (some ⟨b, off, none⟩) m cx)) (ht : tab t = some ⟨.slice e, sz', by', z⟩)
    (he : tab e = some ⟨uk, sz, by_, some zv⟩) (hzs : zv.cells.size = sz) (hsz : 0 < sz) (hk : H[k]? = some (.own v e sz n xs)) (hk2 : H[k2]? = some c2) (hc2 : c2.shows b off news) (hl : news.length = m * sz) (h1 : one news = true)
    (hm : 0 < m) (hmax : (n + m) * by_ ≤ 140737488355328) (hmax2 : n + m ≤ 2147483648) (hb : ∀ g c, bef X.n ops [] E o (.slice (some ⟨g, 0, none⟩) (n + m) c) = some (F g c))
    (h : ∀ g c, JL X ops l Q (F g c) (H.set k (.own (.slice (some ⟨g, 0, none⟩) (n + m) c) e sz (n + m) (xs ++ news)))) : JL X ops (o :: l) Q E H := by
  obtain ⟨j, hi, hjz, hjs, hjb⟩ := zero_size he
  refine JL_some (α := Nat × Nat) (f := fun p => .slice (some ⟨p.1, 0, none⟩) (n + m) p.2) (F := fun p => F p.1 p.2)
    (G := fun p => H.set k (.own (.slice (some ⟨p.1, 0, none⟩) (n + m) p.2) e sz (n + m) (xs ++ news))) [] (fun p => hb p.1 p.2) (fun a w hA hH => ?_) (fun p => h p.1 p.2)
  have hown : w.ownsRow 0 e sz v n xs := hH.holds _ (List.mem_of_getElem? hk)
  have hshow := hc2 w (hH.holds _ (List.mem_of_getElem? hk2))
  have hone : ∀ l : List Value, one l = true → ∀ u ∈ l, u.oneCell' = true := by
    intro l
    induction l with
    | nil => intro _ u hu; cases hu
    | cons y l ih =>
      intro hl u hu
      unfold one at hl
      split at hl
      · rename_i hy
        rcases List.mem_cons.1 hu with rfl | hu
        · exact hy
        · exact ih hl u hu
      · cases hl
  obtain ⟨g, cap, w', hr, h2, h3, h4, h5⟩ := run_append_lies (P := Try.prog) w t o.type 0 e j zv sz by_ (und_slice ht) hi hjz hjs hjb hzs hsz v n xs hown ⟨b, off, none⟩ m cx news hl
    (fun i u hu => by rw [Addr.add_at]; exact hshow i u hu) (hone news h1) hm (by unfold maxLen; omega) hmax (Nat.zero_le _) w.heap.size rfl
  refine ⟨(g, cap), w', ?_, ?_⟩
  · have hr' : (Builtin.append_ #[t, t] o.type #[v, .slice (some ⟨b, off, none⟩) m cx]).run Try.prog w = .ok (.slice (some ⟨g, 0, none⟩) (n + m) cap) w' := hr
    simp [execOp, ho, resolve, invoke, builtin, hA.val hs, hA.val hx, hr']
  · refine hH.step k hk h3.os h3.tape h3.output h3.size (fun q hq hne => h3.block q hq (fun x => hne (by rw [x]; rfl))) h2 (fun b' hb' => ?_)
    simp only [Chunk.at_, Value.ownBlock, Option.some.injEq] at hb'
    subst hb'
    rcases h4 with h4 | h4
    · exact .inl h4
    · exact .inr (by omega)
/-- A dense literal row. -/
theorem fill_dense (sz : Nat) : ∀ (vs : List Value) (k : Nat) (pre : List Value) (junk : List Value), pre.length = k * sz → (∀ v ∈ vs, v.cells.size = sz) → junk.length = vs.length * sz →
    Instr.fill (fun i => some (i * sz, sz)) (pre ++ junk).toArray (vs.zipIdx k |>.map fun (v, i) => (i, v)) = some (pre ++ vs.flatMap fun v => v.cells.toList).toArray
  | [], k, pre, junk, h0, _, hj => by
    have : junk = [] := List.length_eq_zero_iff.1 (by simpa using hj)
    subst this
    simp [Instr.fill]
  | v :: vs, k, pre, junk, h0, hs, hj => by
    have hv := hs v (by simp)
    simp only [List.length_cons, Nat.add_mul, Nat.one_mul] at hj
    have hfold : ∀ (cells : List Value) (base : Nat) (st : Nat) (A B : List Value), A.length = base + st → cells.length ≤ B.length →
        (cells.zipIdx st).foldl (fun (cs : Array Value) (p : Value × Nat) => cs.setIfInBounds (base + p.2) p.1) (A ++ B).toArray = (A ++ cells ++ B.drop cells.length).toArray := by
      intro cells
      induction cells with
      | nil => intro base st A B _ _; simp
      | cons c cells ih =>
        intro base st A B hA hB
        cases B with
        | nil => simp at hB
        | cons b B =>
          simp only [List.zipIdx_cons, List.foldl_cons]
          have e1 : (A ++ b :: B).toArray.setIfInBounds (base + st) c = ((A ++ [c]) ++ B).toArray := by
            simp [hA]
          rw [e1, ih base (st + 1) (A ++ [c]) B (by simp [hA]; omega) (by simpa using hB)]
          simp
    simp only [List.zipIdx_cons, List.map_cons]
    unfold Instr.fill
    simp only []
    have hlen : k * sz + v.cells.size ≤ (pre ++ junk).toArray.size := by simp [h0, hv]; omega
    rw [if_neg (by simp [hv]; simp [h0] at hlen; omega)]
    have e2 := hfold v.cells.toList (k * sz) 0 pre junk (by simp [h0]) (by simp [hv]; omega)
    have e3 : v.cells.zipIdx.foldl (fun (cs : Array Value) (p : Value × Nat) => cs.setIfInBounds (k * sz + p.2) p.1) (pre ++ junk).toArray = (pre ++ v.cells.toList ++ junk.drop v.cells.toList.length).toArray := by
      rw [← e2, ← Array.foldl_toList]
      simp
    have e4 : (v.cells.zipIdx.foldl (fun cs (x : Value × Nat) => match x with | (c, j) => cs.setIfInBounds (k * sz + j) c) (pre ++ junk).toArray) = (pre ++ v.cells.toList ++ junk.drop v.cells.toList.length).toArray := e3
    rw [e4]
    rw [fill_dense sz vs (k + 1) (pre ++ v.cells.toList) (junk.drop v.cells.toList.length) (by simp [h0, hv, Nat.add_mul]) (fun u hu => hs u (by simp [hu])) (by simp [hv]; omega)]
    simp
def dense (ps : List (Nat × Value)) (k sz : Nat) : Option (List Value) := match ps with
  | [] => some []
  | (i, v) :: l => match Nat.beq i k with
    | true => match Nat.beq v.cells.toList.length sz with
      | true => match dense l (k + 1) sz with
        | some cs => some (v.cells.toList ++ cs)
        | none => none
      | false => none
    | false => none
theorem dense_spec {sz : Nat} : ∀ {ps : List (Nat × Value)} {k : Nat} {cs : List Value}, dense ps k sz = some cs →
    ps = ((ps.map (·.2)).zipIdx k |>.map fun (v, i) => (i, v)) ∧ (∀ v ∈ ps.map (·.2), v.cells.size = sz) ∧ cs = (ps.map (·.2)).flatMap fun v => v.cells.toList
  | [], k, cs, h => by simp [dense] at h; simp [h]
  | (i, v) :: l, k, cs, h => by
    unfold dense at h
    split at h
    · rename_i hi
      split at h
      · rename_i hs
        split at h
        · rename_i cs' hcs
          simp only [Option.some.injEq] at h
          obtain ⟨h1, h2, h3⟩ := dense_spec hcs
          obtain rfl := Nat.eq_of_beq_eq_true hi
          have hs' : v.cells.size = sz := by have := Nat.eq_of_beq_eq_true hs; simpa using this
          refine ⟨?_, ?_, ?_⟩
          · simp only [List.map_cons, List.zipIdx_cons]; rw [← h1]
          · intro u hu
            simp only [List.map_cons, List.mem_cons] at hu
            rcases hu with rfl | hu
            · exact hs'
            · exact h2 u hu
          · rw [← h, h3]; simp
        · cases h
      · cases h
    · cases h
def valsP (E : Env) : List (Nat × Operand) → Option (List (Nat × Value))
  | [] => some []
  | (i, x) :: l => match val E x with
    | some v => match valsP E l with
      | some vs => some ((i, v) :: vs)
      | none => none
    | none => none
theorem Agr.valsP {n : FrC} {a : Act} (hA : Agr n a E) : ∀ (ps : List (Nat × Operand)) (vs : List (Nat × Value)), Proofs.Ytbhfbpeldcnpfaa.valsP E ps = some vs → ps.map (fun (i, x) => (i, a.eval x)) = vs
  | [], vs, h => by simp [Proofs.Ytbhfbpeldcnpfaa.valsP] at h; simp [h]
  | (i, x) :: l, vs, h => by
    unfold Proofs.Ytbhfbpeldcnpfaa.valsP at h
    split at h
    · rename_i v hv
      split at h
      · rename_i us hus
        simp only [Option.some.injEq] at h
        subst h
        simp [hA.val hv, hA.valsP l us hus]
      · cases h
    · cases h
/-- '[]T{..}', every element given. -/
theorem JL_litG (gs : List Nat) {F : Nat → Env} {ops l : List Oper} {o : Oper} {t e n sz by_ sz' by' : Nat} {ps : Array (Nat × Operand)} {vs : List (Nat × Value)} {uk : UK} {zv : Value} {z : Option Value} {cs : List Value} (ho : o.op = .buildSlice t n ps)
    (hp : valsP E ps.toList = some vs) (ht : tab t = some ⟨.slice e, sz', by', z⟩) (he : tab e = some ⟨uk, sz, by_, some zv⟩) (hd : dense vs 0 sz = some cs) (hn : vs.length = n) (hz : Nat.ble (n * sz) 65536 = true)
    (hb : ∀ b, bef X.n ops gs E o (.slice (some ⟨b, 0, none⟩) n n) = some (F b)) (h : ∀ b, JL X ops l Q (F b) (blk b e cs :: H)) : JL X ops (o :: l) Q E H := by
  obtain ⟨j, hi, hjz, hjs, hjb⟩ := zero_size he
  refine JL_new (f := fun b => .slice (some ⟨b, 0, none⟩) n n) gs (fun a w hA _ => ?_) hb h
  have hz' := Nat.le_of_ble_eq_true hz
  obtain ⟨h1, h2, h3⟩ := dense_spec hd
  have e1 := hA.valsP _ _ hp
  have e2 : (ps.map fun (i, x) => (i, a.eval x)).toList = vs := by rw [← e1]; simp
  have hf : ∀ junk : List Value, junk.length = n * sz → Instr.fill (fun i => some (i * sz, sz)) junk.toArray vs = some cs.toArray := by
    intro junk hj
    have := fill_dense sz (vs.map (·.2)) 0 [] junk (by simp) h2 (by rw [hj]; simp [hn])
    rw [← h1, ← h3] at this
    simpa using this
  have hrun : (Instr.buildSlice t n (ps.map fun (i, x) => (i, a.eval x))).run Try.prog w = .ok (.slice (some ⟨w.heap.size, 0, none⟩) n n) (w.alloc (.cells cs.toArray e)) := by
    unfold Instr.buildSlice
    rw [e2]
    by_cases h0 : n * sz = 0
    · have hf0 := hf [] (by simp [h0])
      have : (Array.map (fun x => (#[] : Array Value)[x % (#[] : Array Value).size]!) (Array.range (n * sz))) = [].toArray := by rw [h0]; simp
      simp only [run_underlying (und_slice ht), Sem.run_bind, Result.andThen_ok, sizeOf_tab he, if_neg (show ¬ n * sz > 2 ^ 24 by omega), if_pos h0, Sem.run_pure]
      rw [this, hf0]
      simp [newRow, newObj, Sem.run, World.alloc_eq]
    · have hf0 := hf ((Array.range (n * sz)).map (zv.cells[· % zv.cells.size]!)).toList (by simp)
      simp only [run_underlying (und_slice ht), Sem.run_bind, Result.andThen_ok, sizeOf_tab he, if_neg (show ¬ n * sz > 2 ^ 24 by omega), if_neg h0, Sem.run_pure, zeroValue, typeInfo]
      simp only [Array.toArray_toList] at hf0
      simp [hi, hjz, hf0, newRow, newObj, Sem.run, World.alloc_eq]
  have hrun' : (Instr.buildSlice t n (ps.map fun x => match x with | (i, x) => (i, a.eval x))).run Try.prog w = .ok (.slice (some ⟨w.heap.size, 0, none⟩) n n) (w.alloc (.cells cs.toArray e)) := hrun
  simp [execOp, ho, hrun']
theorem JL_lit {F : Nat → Env} {ops l : List Oper} {o : Oper} {t e n sz by_ sz' by' : Nat} {ps : Array (Nat × Operand)} {vs : List (Nat × Value)} {uk : UK} {zv : Value} {z : Option Value} {cs : List Value} (ho : o.op = .buildSlice t n ps)
    (hp : valsP E ps.toList = some vs) (ht : tab t = some ⟨.slice e, sz', by', z⟩) (he : tab e = some ⟨uk, sz, by_, some zv⟩) (hd : dense vs 0 sz = some cs) (hn : vs.length = n) (hz : Nat.ble (n * sz) 65536 = true)
    (hb : ∀ b, bef X.n ops [] E o (.slice (some ⟨b, 0, none⟩) n n) = some (F b)) (h : ∀ b, JL X ops l Q (F b) (blk b e cs :: H)) : JL X ops (o :: l) Q E H :=
  JL_litG [] ho hp ht he hd hn hz hb h
end Go.Proofs.Ytbhfbpeldcnpfaa
