/- The engine, its fifth part: memory and calls. -/
import Derived.Test.YtbhfbpeldcnpfaaEngC
namespace Go.Proofs.Ytbhfbpeldcnpfaa
open Go.RowKit
variable {X : Cx} {Q : Post} {E E' : Env} {H : Heap}

/-! ### Loads -/
def takeC (cs : List Value) : Nat → Nat → Option (List Value)
  | _, 0 => some []
  | i, n + 1 => match cs[i]? with
    | some v => match takeC cs (i + 1) n with
      | some l => some (v :: l)
      | none => none
    | none => none
/-- What a load of a type finds at a place of a row of cells. -/
def readT (t : Nat) (cs : List Value) (i : Nat) : Option Value := match tab t with
  | some ⟨.struct _, sz, _, _⟩ => match takeC cs i sz with
    | some l => some (.agg l.toArray)
    | none => none
  | some ⟨.arr _ _, sz, _, _⟩ => match takeC cs i sz with
    | some l => some (.agg l.toArray)
    | none => none
  | some ⟨_, 1, _, _⟩ => cs[i]?
  | _ => none
theorem Addr.add_at (b o j : Nat) : Addr.add ⟨b, o, none⟩ j = ⟨b, o + j, none⟩ := by
  unfold Addr.add; split
  · rename_i h; subst h; rfl
  · rfl
theorem loadCells_run {w : World} {b o : Nat} {cs : List Value} (hc : ∀ i v, cs[i]? = some v → w.cell? ⟨b, o + i, none⟩ = some v) : ∀ (n i : Nat) (acc : Array Value) (l : List Value), takeC cs i n = some l →
    (loadCellsFrom ⟨b, o, none⟩ i n acc).run Try.prog w = .ok (acc ++ l.toArray) w
  | 0, i, acc, l, h => by simp [takeC] at h; subst h; simp [loadCellsFrom]
  | n + 1, i, acc, l, h => by
    unfold takeC at h
    split at h
    · rename_i v hv
      split at h
      · rename_i l' hl'
        simp only [Option.some.injEq] at h
        subst h
        have := hc i v hv
        have ih := loadCells_run hc n (i + 1) (acc.push v) l' hl'
        simp [loadCellsFrom, load, Sem.run, Addr.add_at, this, ih]
      · cases h
    · cases h
theorem takeC_shift {cs : List Value} {k : Nat} : ∀ (n i : Nat) (l : List Value), takeC cs (k + i) n = some l → takeC (cs.drop k) i n = some l
  | 0, i, l, h => by simpa [takeC] using h
  | n + 1, i, l, h => by
    unfold takeC at h ⊢
    split at h
    · rename_i v hv
      split at h
      · rename_i l' hl'
        have := takeC_shift (cs := cs) (k := k) n (i + 1) l' (by rw [← Nat.add_assoc]; exact hl')
        rw [List.getElem?_drop, hv]
        simp only [this]
        exact h
      · cases h
    · cases h
theorem und_of_tab {t : Nat} {i : TI} (h : tab t = some i) (h1 : ∀ fs, i.uk ≠ .struct fs) (h2 : ∀ n e, i.uk ≠ .arr n e) : aggB Try.prog t = 0 := by
  obtain ⟨d, j, hd, _, hu, _⟩ := tab_und h
  unfold aggB
  rw [hd]
  cases d <;> simp only [ukOf] at hu <;> first | rfl | exact absurd hu.symm (h1 _) | exact absurd hu.symm (h2 _ _)
theorem agg_of_struct {t s b : Nat} {z : Option Value} {fs : List (Nat × Nat × Nat)} (h : tab t = some ⟨.struct fs, s, b, z⟩) : aggB Try.prog t = 1 := by
  obtain ⟨F, hF, _⟩ := und_struct h
  unfold aggB; rw [hF]
theorem agg_of_arr {t s b n e : Nat} {z : Option Value} (h : tab t = some ⟨.arr n e, s, b, z⟩) : aggB Try.prog t = 1 := by
  obtain ⟨d, j, hd, _, hu, _⟩ := tab_und h
  unfold aggB; rw [hd]
  cases d <;> simp [ukOf] at hu ⊢
theorem sizeOf_tab {t : Nat} {i : TI} (h : tab t = some i) (w : World) : (sizeOf t).run Try.prog w = .ok i.size w := by
  obtain ⟨d, j, hd, hi, hu, hs, _⟩ := tab_und h
  simp [sizeOf, typeInfo, hi, hs]
theorem loadVar_run {w : World} {b o t : Nat} {cs : List Value} {v : Value} (hc : ∀ i v, cs[i]? = some v → w.cell? ⟨b, o + i, none⟩ = some v) (h : readT t cs 0 = some v) :
    (loadVar t ⟨b, o, none⟩).run Try.prog w = .ok v w := by
  unfold readT at h
  unfold loadVar
  split at h
  · rename_i sz _ _ ht
    split at h
    · rename_i l hl
      simp only [Option.some.injEq] at h; subst h
      simp [isAgg_yes (agg_of_struct ht), sizeOf_tab ht, loadCells, loadCells_run hc _ _ _ _ hl]
    · cases h
  · rename_i sz _ _ ht
    split at h
    · rename_i l hl
      simp only [Option.some.injEq] at h; subst h
      simp [isAgg_yes (agg_of_arr ht), sizeOf_tab ht, loadCells, loadCells_run hc _ _ _ _ hl]
    · cases h
  · rename_i h1 h2 ht
    have := hc 0 v h
    simp only [Nat.add_zero] at this
    have hn := und_of_tab ht (fun fs e => h1 fs e) (fun n e k => h2 n e k)
    simp [isAgg_no hn, load, Sem.run, this]
  · cases h
theorem readT_drop {t : Nat} {cs : List Value} {i : Nat} {v : Value} (h : readT t cs i = some v) : readT t (cs.drop i) 0 = some v := by
  unfold readT at h ⊢
  split at h
  · split at h
    · rename_i l hl
      rw [takeC_shift (k := i) _ 0 l hl]
      exact h
    · cases h
  · split at h
    · rename_i l hl
      rw [takeC_shift (k := i) _ 0 l hl]
      exact h
    · cases h
  · rw [List.getElem?_drop]; simpa using h
  · cases h
/-- The cells that a piece shows: from a place on. -/
def Chunk.shows (c : Chunk) (b off : Nat) (cs : List Value) : Prop := ∀ w, c.holds w → ∀ i v, cs[i]? = some v → w.cell? ⟨b, off + i, none⟩ = some v
theorem shows_blk (b e : Nat) (cs : List Value) (fz : Nat × Nat) : (Chunk.obj b (.cells cs.toArray e fz)).shows b 0 cs := by
  intro w h i v hv
  have h' : w.heap[b]? = some (.cells cs.toArray e fz) := h
  simp [World.cell?, h', hv]
theorem shows_seg (b off : Nat) (vs : List Value) : (Chunk.seg b off vs).shows b off vs := fun _ h => h
theorem shows_own {g e sz n cap : Nat} {xs : List Value} : (Chunk.own (.slice (some ⟨g, 0, none⟩) n cap) e sz n xs).shows g 0 xs := by
  intro w h i v hv
  have := World.ownsRow.cells h (g := g) rfl i v hv
  rw [Addr.add_at] at this
  exact this
theorem OpV_load_of {o : Oper} {t b off i : Nat} {x : Operand} {c : Chunk} {cs : List Value} {v : Value} (k : Nat) (ho : o.op = .load t x) (hx : val E x = some (.pointer (some ⟨b, off + i, none⟩)))
    (hk : H[k]? = some c) (hc : c.shows b off cs) (hv : readT t cs i = some v) : OpV X o E H v := by
  intro a w hA hH
  have h1 := hc w (hH.holds c (List.mem_of_getElem? hk))
  have h2 : (loadVar t ⟨b, off + i, none⟩).run Try.prog w = .ok v w := loadVar_run (cs := cs.drop i) (fun j u hu => by
    rw [List.getElem?_drop] at hu
    rw [Nat.add_assoc]
    exact h1 (i + j) u hu) (readT_drop hv)
  simp [execOp, ho, hA.val hx, Instr.loadAt, Instr.sureAddr, h2]
/-- From a block that is known whole. -/
theorem OpV_blk {o : Oper} {t b i e : Nat} {x : Operand} {cs : List Value} {v : Value} (k : Nat) (ho : o.op = .load t x) (hx : val E x = some (.pointer (some ⟨b, i, none⟩)))
    (hk : H[k]? = some (blk b e cs)) (hv : readT t cs i = some v) : OpV X o E H v :=
  OpV_load_of k ho (by rw [Nat.zero_add]; exact hx) hk (shows_blk b e cs (0, 0)) hv
theorem OpV_seg {o : Oper} {t b off i : Nat} {x : Operand} {vs : List Value} {v : Value} (k : Nat) (ho : o.op = .load t x) (hx : val E x = some (.pointer (some ⟨b, off + i, none⟩)))
    (hk : H[k]? = some (.seg b off vs)) (hv : readT t vs i = some v) : OpV X o E H v := OpV_load_of k ho hx hk (shows_seg b off vs) hv
theorem OpV_own {o : Oper} {t g i e sz n cap : Nat} {x : Operand} {xs : List Value} {v : Value} (k : Nat) (ho : o.op = .load t x) (hx : val E x = some (.pointer (some ⟨g, i, none⟩)))
    (hk : H[k]? = some (.own (.slice (some ⟨g, 0, none⟩) n cap) e sz n xs)) (hv : readT t xs i = some v) : OpV X o E H v :=
  OpV_load_of k ho (by rw [Nat.zero_add]; exact hx) hk shows_own hv

/-! ### Places in a row -/
theorem OpV_index {o : Oper} {t b off n c e sz by_ m : Nat} {x ix : Operand} {k : IntKind} {z : Option Value} {et : TI} (ho : o.op = .indexAddr t x ix) (hx : val E x = some (.slice (some ⟨b, off, none⟩) n c))
    (hi : val E ix = some (.int k (m : Int))) (ht : tab t = some ⟨.slice e, sz, by_, z⟩) (he : tab e = some et) (hm : m < n) : OpV X o E H (.pointer (some ⟨b, off + m * et.size, none⟩)) := by
  intro a w hA hH
  have h1 : (0 : Int) ≤ (m : Int) ∧ (m : Int) < (n : Int) := by omega
  simp [execOp, ho, hA.val hx, hA.val hi, Instr.indexAt, asIntOf, run_underlying (und_slice ht), sizeOf_tab he, Addr.add_at, hm]

/-! ### New variables -/
theorem alloc_old (w : World) (o : Obj) (k : Nat) (hk : k < w.heap.size) : (w.alloc o).heap[k]? = w.heap[k]? := Below.heap_alloc w o k hk
theorem Has.alloc {w0 w : World} {M : List Nat} (hH : Has w0 M w H) (o : Obj) : Has w0 M (w.alloc o) (.obj w.heap.size o :: H) :=
  hH.grow rfl rfl rfl (by simp) (fun k hk => alloc_old w o k hk) (heap_alloc_new w o) (fun b hb => by simp only [Chunk.at_, Option.some.injEq] at hb; omega)
/-- An operation that makes one block. -/
theorem JL_new {F : Nat → Env} {f : Nat → Value} {ops l : List Oper} {o : Oper} {ob : Obj} (gs : List Nat)
    (hr : ∀ a w, Agr X.n a E → Has X.w0 X.M w H → (execOp a.eval o).run Try.prog w = .ok (.value (f w.heap.size)) (w.alloc ob))
    (hb : ∀ b, bef X.n ops gs E o (f b) = some (F b)) (h : ∀ b, JL X ops l Q (F b) (.obj b ob :: H)) : JL X ops (o :: l) Q E H := by
  intro a w hA hH
  obtain ⟨hg, hp⟩ := bef_spec (hb w.heap.size)
  unfold wpList
  rw [if_pos (gd_wanted hA hg)]
  left
  show o.upon _ a _ _ ((execOp a.eval o).run _ w)
  rw [hr a w hA hH]
  exact h w.heap.size _ _ (hA.putE hp) (hH.alloc ob)
theorem JL_box {F : Nat → Env} {ops l : List Oper} {o : Oper} {e : Nat} {x : Operand} {v : Value} {cs : List Value} (ho : o.op = .box e x) (hx : val E x = some v) (hc : v.cells = cs.toArray)
    (hb : ∀ b, bef X.n ops [] E o (.pointer (some ⟨b, 0, none⟩)) = some (F b)) (h : ∀ b, JL X ops l Q (F b) (blk b e cs :: H)) : JL X ops (o :: l) Q E H :=
  JL_new (f := fun b => .pointer (some ⟨b, 0, none⟩)) [] (fun a w hA _ => by
    simp [execOp, ho, hA.val hx, Instr.box, newVar, newRow, newObj, hc, Sem.run, World.alloc_eq]) hb h
theorem JL_alloc {F : Nat → Env} {ops l : List Oper} {o : Oper} {e sz by_ : Nat} {uk : UK} {v : Value} {cs : List Value} (ho : o.op = .alloc e) (ht : tab e = some ⟨uk, sz, by_, some v⟩) (hc : v.cells = cs.toArray)
    (hb : ∀ b, bef X.n ops [] E o (.pointer (some ⟨b, 0, none⟩)) = some (F b)) (h : ∀ b, JL X ops l Q (F b) (blk b e cs :: H)) : JL X ops (o :: l) Q E H :=
  JL_new (f := fun b => .pointer (some ⟨b, 0, none⟩)) [] (fun a w hA _ => by
    obtain ⟨d, j, _, hi, _, _, _, hz⟩ := tab_und ht
    simp [execOp, ho, Instr.alloc, zeroValue, typeInfo, hi, hz v rfl, newVar, newRow, newObj, hc, Sem.run, World.alloc_eq]) hb h

/-! ### Stores -/
def one : List Value → Bool
  | [] => true
  | v :: l => match v.oneCell' with
    | true => one l
    | false => false
def wr : List Value → Nat → List Value → List Value
  | cs, _, [] => cs
  | cs, i, v :: l => wr (cs.set i v) (i + 1) l
theorem wr_length : ∀ (l cs : List Value) (i : Nat), (wr cs i l).length = cs.length
  | [], cs, i => rfl
  | v :: l, cs, i => by unfold wr; rw [wr_length l]; simp
theorem store_one {w : World} {b e i : Nat} {cs : List Value} {v : Value} (hb : w.heap[b]? = some (.cells cs.toArray e (0, 0))) (hi : i < cs.length) (hv : v.oneCell' = true) :
    (store ⟨b, i, none⟩ v .plain).run Try.prog w = .ok () (w.setCell ⟨b, i, none⟩ v) := by
  have h1 : w.cell? ⟨b, i, none⟩ = some cs[i] := by simp [World.cell?, hb, hi]
  have h2 : w.frozen? ⟨b, i, none⟩ = false := by simp [World.frozen?, hb]
  rw [run_store _ _ _ _ _ hv, h1]
  simp [h2]
theorem setCell_at {w : World} {b e i : Nat} {cs : List Value} (v : Value) (hb : w.heap[b]? = some (.cells cs.toArray e (0, 0))) :
    (w.setCell ⟨b, i, none⟩ v).heap[b]? = some (.cells (cs.set i v).toArray e (0, 0)) := by
  simp only [World.setCell, Array.getElem?_modify, if_true, hb, Option.map_some]
  simp
theorem storeCells_run {b e o : Nat} : ∀ (vs : List Value) (i : Nat) (w : World) (cs : List Value), w.heap[b]? = some (.cells cs.toArray e (0, 0)) → o + i + vs.length ≤ cs.length → one vs = true →
    ∃ w', (storeCells ⟨b, o, none⟩ vs i).run Try.prog w = .ok () w' ∧ w'.heap[b]? = some (.cells (wr cs (o + i) vs).toArray e (0, 0)) ∧ w'.os = w.os ∧ w'.tape = w.tape ∧ w'.output = w.output ∧ w'.heap.size = w.heap.size ∧
      ∀ k, k ≠ b → w'.heap[k]? = w.heap[k]?
  | [], i, w, cs, hb, _, _ => ⟨w, by simp [storeCells], by simpa [wr] using hb, rfl, rfl, rfl, rfl, fun _ _ => rfl⟩
  | v :: vs, i, w, cs, hb, hl, h1 => by
    unfold one at h1
    split at h1
    · rename_i hv
      simp only [List.length_cons] at hl
      have hs := store_one (v := v) (i := o + i) hb (by omega) hv
      obtain ⟨w', h2, h3, h4, h5, h6, h7, h8⟩ := storeCells_run (o := o) vs (i + 1) _ _ (setCell_at (i := o + i) v hb) (by simp; omega) h1
      refine ⟨w', ?_, ?_, h4, h5, h6, by rw [h7]; simp [World.setCell], fun k hk => (h8 k hk).trans (Below.heap_setCell w _ v k hk)⟩
      · rw [storeCells, Addr.add_at, Sem.run_bind, hs]; exact h2
      · rw [wr, ← Nat.add_assoc] at *; exact h3
    · cases h1
/-- The cells behind a store of a value of a type. -/
def putT (t : Nat) (cs : List Value) (i : Nat) (vs : List Value) : Option (List Value) := match tab t with
  | some ⟨_, sz, _, _⟩ => match Nat.beq vs.length sz with
    | true => match Nat.ble (i + vs.length) cs.length with
      | true => match one vs with
        | true => some (wr cs i vs)
        | false => none
      | false => none
    | false => none
  | none => none
theorem putT_spec {t i : Nat} {cs vs cs' : List Value} (h : putT t cs i vs = some cs') : ∃ j, tab t = some j ∧ j.size = vs.length ∧ i + vs.length ≤ cs.length ∧ one vs = true ∧ cs' = wr cs i vs := by
  unfold putT at h
  split at h
  · rename_i ht
    split at h
    · rename_i h1
      split at h
      · rename_i h2
        split at h
        · rename_i h3
          simp only [Option.some.injEq] at h
          exact ⟨_, ht, (Nat.eq_of_beq_eq_true h1).symm, Nat.le_of_ble_eq_true h2, h3, h.symm⟩
        · cases h
      · cases h
    · cases h
  · cases h
theorem storeVar_run {w : World} {b e o t : Nat} {cs cs' : List Value} {v : Value} (hb : w.heap[b]? = some (.cells cs.toArray e (0, 0))) (h : putT t cs o v.cells.toList = some cs') :
    ∃ w', (storeVar t ⟨b, o, none⟩ v).run Try.prog w = .ok () w' ∧ w'.heap[b]? = some (.cells cs'.toArray e (0, 0)) ∧ w'.os = w.os ∧ w'.tape = w.tape ∧ w'.output = w.output ∧ w'.heap.size = w.heap.size ∧
      ∀ k, k ≠ b → w'.heap[k]? = w.heap[k]? := by
  obtain ⟨j, ht, hs, hl, h1, rfl⟩ := putT_spec h
  obtain ⟨w', h2, h3⟩ := storeCells_run (o := o) v.cells.toList 0 w cs hb (by simpa using hl) h1
  refine ⟨w', ?_, h3⟩
  have : v.cells.size = j.size := by rw [hs]; simp
  simp [storeVar, sizeOf_tab ht, this, h2]
theorem JL_store {ops l : List Oper} {o : Oper} {t b i e : Nat} {x y : Operand} {v : Value} {cs cs' : List Value} (k : Nat) (ho : o.op = .store t x y) (hx : val E x = some (.pointer (some ⟨b, i, none⟩))) (hy : val E y = some v)
    (hk : H[k]? = some (blk b e cs)) (hw : putT t cs i v.cells.toList = some cs') (gs : List Nat) (hb : bef X.n ops gs E o undef = some E') (h : JL X ops l Q E' (H.set k (blk b e cs'))) : JL X ops (o :: l) Q E H := by
  intro a w hA hH
  obtain ⟨hg, hp⟩ := bef_spec hb
  unfold wpList
  rw [if_pos (gd_wanted hA hg)]
  left
  obtain ⟨w', h1, h2, h3, h4, h5, h6, h7⟩ := storeVar_run (hH.holds _ (List.mem_of_getElem? hk)) hw
  show o.upon _ a _ _ ((execOp a.eval o).run _ w)
  have : (execOp a.eval o).run Try.prog w = .ok .skip w' := by
    simp [execOp, ho, hA.val hx, hA.val hy, Instr.storeAt, Instr.sureAddr, h1]
  rw [this]
  refine h _ _ (hA.putE hp) (hH.step k hk h3 h4 h5 (by omega) (fun j _ hj => h7 j (fun x => hj (by rw [x]; rfl))) h2 (fun b' hb' => .inl hb'))
/-- A store into a row of the call's own. -/
theorem own_write {w w' : World} {e sz n g cap i : Nat} {xs vs : List Value} (h : w.ownsRow 0 e sz (.slice (some ⟨g, 0, none⟩) n cap) n xs) (hl : i + vs.length ≤ xs.length)
    (hw : ∀ cs, w.heap[g]? = some (.cells cs e (0, 0)) → w'.heap[g]? = some (.cells (wr cs.toList i vs).toArray e (0, 0))) :
    w'.ownsRow 0 e sz (.slice (some ⟨g, 0, none⟩) n cap) n (wr xs i vs) := by
  refine ⟨by rw [wr_length]; exact h.1, ?_⟩
  rcases h.2 with ⟨h', _⟩ | ⟨g', cap', cur, h', h0, hg, h1, h2, h3, h4⟩
  · simp at h'
  · simp only [Value.slice.injEq, Option.some.injEq, Addr.mk.injEq, and_true, true_and] at h'
    obtain ⟨rfl, rfl⟩ := h'
    refine .inr ⟨g, cap, _, rfl, h0, hw cur hg, h1, h2, by simp [wr_length, h3], ?_⟩
    have key : ∀ (vs cs : List Value) (i m : Nat), i + vs.length ≤ m → (wr cs i vs).take m = wr (cs.take m) i vs := by
      intro vs
      induction vs with
      | nil => intro cs i m _; rfl
      | cons v vs ih =>
        intro cs i m hm
        simp only [List.length_cons] at hm
        rw [wr, wr, ih _ _ _ (by omega), List.take_set]
    show (wr cur.toList i vs).take (n * sz) = _
    rw [key _ _ _ _ (by rw [← h.1]; exact hl), h4]
theorem JL_store_own {ops l : List Oper} {o : Oper} {t g i e sz n cap : Nat} {x y : Operand} {v : Value} {xs xs' : List Value} (k : Nat) (ho : o.op = .store t x y) (hx : val E x = some (.pointer (some ⟨g, i, none⟩))) (hy : val E y = some v)
    (hk : H[k]? = some (.own (.slice (some ⟨g, 0, none⟩) n cap) e sz n xs)) (hw : putT t xs i v.cells.toList = some xs') (gs : List Nat) (hb : bef X.n ops gs E o undef = some E')
    (h : JL X ops l Q E' (H.set k (.own (.slice (some ⟨g, 0, none⟩) n cap) e sz n xs'))) : JL X ops (o :: l) Q E H := by
  intro a w hA hH
  obtain ⟨hg, hp⟩ := bef_spec hb
  unfold wpList
  rw [if_pos (gd_wanted hA hg)]
  left
  have hown : w.ownsRow 0 e sz (.slice (some ⟨g, 0, none⟩) n cap) n xs := hH.holds _ (List.mem_of_getElem? hk)
  obtain ⟨cur, hcur, hlen, htk⟩ : ∃ cur : Array Value, w.heap[g]? = some (.cells cur e (0, 0)) ∧ n * sz ≤ cur.size ∧ cur.toList.take (n * sz) = xs := by
    rcases hown.2 with ⟨h', _⟩ | ⟨g', cap', cur, h', h0, hg, h1, h2, h3, h4⟩
    · simp at h'
    · simp only [Value.slice.injEq, Option.some.injEq, Addr.mk.injEq, and_true, true_and] at h'
      obtain ⟨rfl, rfl⟩ := h'
      exact ⟨cur, hg, by rw [h3]; exact Nat.mul_le_mul_right _ h1, h4⟩
  obtain ⟨j, ht, hs, hl, h1, rfl⟩ := putT_spec hw
  have hcur' : w.heap[g]? = some (.cells cur.toList.toArray e (0, 0)) := hcur
  obtain ⟨w', h2, h3, h4, h5, h6, h7, h8⟩ := storeCells_run (o := i) v.cells.toList 0 w cur.toList hcur' (by have := hown.1; simp only [Array.length_toList] at *; omega) h1
  show o.upon _ a _ _ ((execOp a.eval o).run _ w)
  have hsz : v.cells.size = j.size := by rw [hs]; simp
  have : (execOp a.eval o).run Try.prog w = .ok .skip w' := by
    simp [execOp, ho, hA.val hx, hA.val hy, Instr.storeAt, Instr.sureAddr, storeVar, sizeOf_tab ht, hsz, h2]
  rw [this]
  refine h _ _ (hA.putE hp) (hH.step k hk h4 h5 h6 (by omega) (fun j _ hj => h8 j (fun x => hj (by rw [x]; rfl))) ?_ (fun b' hb' => .inl hb'))
  refine own_write hown hl fun cs hcs => ?_
  rw [hcur] at hcs
  simp only [Option.some.injEq, Obj.cells.injEq, and_true] at hcs
  subst hcs
  exact h3
end Go.Proofs.Ytbhfbpeldcnpfaa
