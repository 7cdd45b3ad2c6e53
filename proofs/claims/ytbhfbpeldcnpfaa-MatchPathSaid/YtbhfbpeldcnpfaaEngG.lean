/- The engine, its eighth part: structs that are built, panics, deferred calls that recover. -/
import Derived.Test.YtbhfbpeldcnpfaaEngF
import Derived.Recover
namespace Go.Proofs.Ytbhfbpeldcnpfaa
open Go.RowKit
variable {X : Cx} {Q : Post} {E E' : Env} {H : Heap}

/-! ### Structs -/
def buildC (fs : List (Nat × Nat × Nat)) (cs : List Value) : List (Nat × Value) → Option (List Value)
  | [] => some cs
  | (i, v) :: l => match fs[i]? with
    | some (off, sz, _) => match Nat.beq v.cells.toList.length sz with
      | true => match Nat.ble (off + v.cells.toList.length) cs.length with
        | true => buildC fs (wr cs off v.cells.toList) l
        | false => none
      | false => none
    | none => none
theorem fold_wr (off : Nat) : ∀ (l : List Value) (k : Nat) (cs : List Value), (l.zipIdx k).foldl (fun (cs : Array Value) (p : Value × Nat) => cs.setIfInBounds (off + p.2) p.1) cs.toArray = (wr cs (off + k) l).toArray
  | [], k, cs => rfl
  | v :: l, k, cs => by
    simp only [List.zipIdx_cons, List.foldl_cons]
    have : cs.toArray.setIfInBounds (off + k) v = (cs.set (off + k) v).toArray := by simp
    rw [this, fold_wr off l (k + 1)]
    rfl
theorem fill_build {fs : List (Nat × Nat × Nat)} {pl : Nat → Option (Nat × Nat)} (hpl : ∀ i off sz ag, fs[i]? = some (off, sz, ag) → pl i = some (off, sz)) : ∀ (ps : List (Nat × Value)) (cs cs' : List Value), buildC fs cs ps = some cs' →
    Instr.fill pl cs.toArray ps = some cs'.toArray
  | [], cs, cs', h => by simp only [buildC, Option.some.injEq] at h; subst h; rfl
  | (i, v) :: l, cs, cs', h => by
    unfold buildC at h
    split at h
    · rename_i off sz ag hi
      split at h
      · rename_i h1
        split at h
        · rename_i h2
          unfold Instr.fill
          rw [hpl i off sz ag hi]
          have h1' := Nat.eq_of_beq_eq_true h1
          have h2' := Nat.le_of_ble_eq_true h2
          simp only []
          rw [if_neg (by simp only [Array.length_toList] at h1' h2'; simp [h1']; omega)]
          have e : v.cells.zipIdx.foldl (fun (cs : Array Value) (p : Value × Nat) => cs.setIfInBounds (off + p.2) p.1) cs.toArray = (wr cs off v.cells.toList).toArray := by
            have := fold_wr off v.cells.toList 0 cs
            rw [← Array.foldl_toList]
            simpa using this
          have e2 : (v.cells.zipIdx.foldl (fun cs (x : Value × Nat) => match x with | (c, j) => cs.setIfInBounds (off + j) c) cs.toArray) = (wr cs off v.cells.toList).toArray := e
          rw [e2]
          exact fill_build hpl l _ _ h
        · cases h
      · cases h
    · cases h
def szOf (f : Field) : Sem (Nat × Nat) := do pure (f.offset, ← sizeOf f.type)
theorem szOf_run {f : Field} {i : TypeInfo} (h : Try.prog.info? f.type = some i) (w : World) : (szOf f).run Try.prog w = .ok (f.offset, Try.prog.cellsOf f.type) w := by
  simp [szOf, sizeOf, typeInfo, h, Program.cellsOf]
theorem mapM_sizes (w : World) : ∀ (F : List Field), (∀ f ∈ F, ∃ i, Try.prog.info? f.type = some i) →
    (F.mapM (m := Sem) szOf).run Try.prog w = .ok (F.map fun f => (f.offset, Try.prog.cellsOf f.type)) w
  | [], _ => by simp
  | f :: F, h => by
    obtain ⟨i, hi⟩ := h f (by simp)
    have ih := mapM_sizes w F (fun g hg => h g (by simp [hg]))
    rw [List.mapM_cons]
    simp only [Sem.run_bind, szOf_run hi, Result.andThen_ok, ih]
    rfl
/-- 'T{..}'. -/
theorem OpV_build {o : Oper} {t s by_ : Nat} {fs : List (Nat × Nat × Nat)} {z : Value} {zs cs : List Value} {ps : Array (Nat × Operand)} {vs : List (Nat × Value)} (ho : o.op = .build t ps) (ht : tab t = some ⟨.struct fs, s, by_, some z⟩) (hz : z.cells = zs.toArray)
    (hfs : (fs.all fun f => !(Nat.beq f.2.2 2)) = true) (hp : valsP E ps.toList = some vs) (hb : buildC fs zs vs = some cs) : OpV X o E H (.agg cs.toArray) := by
  intro a w hA hH
  obtain ⟨j, hi, hjz, _, _⟩ := zero_size ht
  obtain ⟨F, hF, rfl⟩ := und_struct ht
  have e1 := hA.valsP _ _ hp
  have e2 : (ps.map fun (i, x) => (i, a.eval x)).toList = vs := by rw [← e1]; simp
  have hinfo : ∀ f ∈ F.toList, ∃ i, Try.prog.info? f.type = some i := by
    intro f hf
    have h1 := List.all_eq_true.1 hfs (f.offset, Try.prog.cellsOf f.type, aggB Try.prog f.type) (List.mem_map.2 ⟨f, hf, rfl⟩)
    simp only [Bool.not_eq_true'] at h1
    unfold aggB at h1
    cases hu : Try.prog.info? f.type with
    | some i => exact ⟨i, rfl⟩
    | none => simp [Program.underlying, hu] at h1
  have hm : (F.mapM (m := Sem) szOf).run Try.prog w = .ok (F.toList.map fun f => (f.offset, Try.prog.cellsOf f.type)).toArray w := by
    rw [Array.mapM_eq_mapM_toList]
    simp only [map_eq_pure_bind, Sem.run_bind, mapM_sizes w F.toList hinfo, Result.andThen_ok]
    rfl
  have hfill := fill_build (pl := fun i => ((F.toList.map fun f => (f.offset, Try.prog.cellsOf f.type)).toArray)[i]?) (fun i off sz ag h => by
    simp only [List.getElem?_map, Option.map_eq_some_iff, Prod.mk.injEq] at h
    obtain ⟨f, hf, h1, h2, _⟩ := h
    simp [hf, h1, h2]) vs zs cs hb
  have hrun : (Instr.build t (ps.map fun (i, x) => (i, a.eval x))).run Try.prog w = .ok (.agg cs.toArray) w := by
    unfold Instr.build
    rw [e2]
    have hz1 : (zeroValue t).run Try.prog w = .ok z w := by simp [zeroValue, typeInfo, hi, hjz]
    simp only [Sem.run_bind, hz1, run_underlying hF, Result.andThen_ok]
    have hm' : (F.mapM (m := Sem) fun f => do pure (f.offset, ← sizeOf f.type)).run Try.prog w = .ok (F.toList.map fun f => (f.offset, Try.prog.cellsOf f.type)).toArray w := hm
    simp only [hm', Result.andThen_ok, hz]
    rw [hfill]
    rfl
  have hrun' : (Instr.build t (ps.map fun x => match x with | (i, x) => (i, a.eval x))).run Try.prog w = .ok (.agg cs.toArray) w := hrun
  simp [execOp, ho, hrun']
/-! ### Panics -/
def cause (v : Value) : PanicEntry := { v := v, recovered := false }
theorem JL_panic {ops l : List Oper} {o : Oper} {x : Operand} {t : TypeId} {u : Value} (ho : o.op = .panic x) (hx : val E x = some (.iface t u)) (hg : o.guard = none) (h : Q (.panic [cause (.iface t u)]) E H) : JL X ops (o :: l) Q E H := by
  intro a w hA hH
  unfold wpList
  rw [if_pos (by simp [Region.wanted, hg])]
  left
  show o.upon _ a _ _ ((execOp a.eval o).run _ w)
  have : (execOp a.eval o).run Try.prog w = .halt (.panic (.iface t u)) w := by
    simp [execOp, ho, hA.val hx, Instr.panic, goPanic, Sem.run]
  rw [this]
  exact ⟨E, H, hA, hH, h⟩
/-- A call that panics. -/
def Fx (f : FuncId) (args : List Value) (H : Heap) (c : List PanicEntry) : Prop :=
  ∀ w, Has w [] w H → Calls Try.prog f args.toArray w fun e w' => e = .panicked c ∧ Has w [] w' []
def panQ (c : List PanicEntry) : Post := fun e _ _ => e = .panic c
theorem Fx_of {f : FuncId} {fn : Func} {c : Code} {args : List Value} {ch : List PanicEntry} (hf : Try.prog.funcs[f]? = some fn) (hb : fn.body = some c) (hn : Nat.ble args.length fn.ntmps = true)
    (h : ∀ w0, J ⟨w0, [], ⟨fn.ntmps, []⟩⟩ c (panQ ch) (initE 0 args) H) : Fx f args H ch := by
  intro w hH
  refine calls_of_wp hf hb ?_
  refine wp_mono (h w _ w (agr_init hn) hH) ?_
  rintro e a w' ⟨E', H', hA', hH', hq⟩
  have : e = .panic ch := hq
  subst this
  exact ⟨hA'.defers, rfl, hH'.mono (fun c hc => by cases hc) List.Pairwise.nil⟩
theorem JL_callX {ops l : List Oper} {o : Oper} {f : Operand} {args : Array Operand} {ts : Array TypeId} {g : FuncId} {fst cap vs args' : List Value} {S : Heap} {ch : List PanicEntry}
    (T : Fx g args' S ch) (ho : o.op = .call ⟨.value f, args, ts⟩) (hf : val E f = some (.func (.func g) fst.toArray cap.toArray)) (ha : vals E args.toList = some vs) (has : fst ++ vs ++ cap = args') (hc : callable g = true)
    (hS : Seen H [] S) (hg : o.guard = none) (h : Q (.panic ch) E H) : JL X ops (o :: l) Q E H := by
  intro a w hA hH
  unfold wpList
  rw [if_pos (by simp [Region.wanted, hg])]
  left
  show o.upon _ a _ _ ((execOp a.eval o).run _ w)
  rw [call_run hA ho hf ha hc w, has]
  refine (T w (by simpa using hH.hand (C := []) hS List.nodup_nil rfl (fun c hc => by cases hc))).mono ?_
  rintro e w' ⟨rfl, h2⟩
  refine ⟨E, H, hA, ?_, h⟩
  have := hH.back (ix := []) (C := []) (K := H) (Mc := []) (H' := []) rfl (fun b hb => by cases hb) (picks_range H) List.nodup_range (fun _ _ h => by cases h) h2 rfl
  simpa using this

/-! ### A deferred closure that recovers -/
/-- The judgement for any post. -/
def W (X : Cx) (c : Code) (R : Exit → Act → World → Prop) (E : Env) (H : Heap) : Prop := ∀ a w, Agr X.n a E → Has X.w0 X.M w H → c.wp Try.prog R a w
def onQ (K : Env → Heap → Prop) : Post := fun e E H => match e with
  | .normal => K E H
  | _ => False
theorem W_seq {x y : Code} {R : Exit → Act → World → Prop} (h : J X x (onQ fun E H => W X y R E H) E H) : W X (.seq x y) R E H := by
  intro a w hA hH
  refine wp_seq (wp_mono (h a w hA hH) ?_)
  rintro e a' w' ⟨E', H', hA', hH', hq⟩
  cases e with
  | normal => exact hq a' w' hA' hH'
  | _ => exact hq.elim
theorem W_of {c : Code} {R : Exit → Act → World → Prop} (h : J X c Q E H) (hq : ∀ e a w, lift X Q e a w → R e a w) : W X c R E H := fun a w hA hH => wp_mono (h a w hA hH) hq
theorem wpList_mono {ops : Array Oper} {R R' : Exit → Act → World → Prop} {l : List Oper} {a : Act} {w : World} (hq : ∀ e a w, R e a w → R' e a w) (h : wpList Try.prog ops R l a w) : wpList Try.prog ops R' l a w := by
  have := wpList_app (R' := R') l [] a w h (fun a w h => hq _ _ _ h) (fun e a w _ h => hq e a w h)
  simpa using this
/-- 'defer func() { .. }()'. -/
theorem W_defer {id : Nat} {o1 o2 : Oper} {y : Code} {R : Exit → Act → World → Prop} {f : Operand} {g : FuncId} {cap : List Value} {ts : Array TypeId} {n : Nat} {w0 : World} {M : List Nat} {v : Value}
    (hg1 : o1.guard = none) (hv : evP E o1.op = some v) (h1 : putE ⟨n, []⟩ o1.dst v E = some E') (ho : o2.op = .defer ⟨.value f, #[], ts⟩) (hf : val E' f = some (.func (.func g) #[] cap.toArray)) (hg : o2.guard = none) (hd : o2.dst = none)
    (h : W ⟨w0, M, ⟨n, [⟨.fn (.func g) cap.toArray, #[]⟩]⟩⟩ y R E' H) : W ⟨w0, M, ⟨n, []⟩⟩ (.seq (.region id [o1, o2].toArray false) y) R E H := by
  intro a w hA hH
  refine wp_seq (wp_region_lit ?_)
  let K : Exit → Act → World → Prop := fun e a w => e = .normal ∧ y.wp Try.prog R a w
  have key : wpList Try.prog [o1, o2].toArray K [o1, o2] a w := by
    unfold wpList
    rw [if_pos (by simp [Region.wanted, hg1])]
    left
    show o1.upon _ a _ _ ((execOp a.eval o1).run _ w)
    rw [OpV_pure (X := ⟨w0, M, ⟨n, []⟩⟩) hv a w hA hH]
    have hA1 := hA.putE h1
    show wpList _ _ _ [o2] (a.put o1.dst v) w
    unfold wpList
    rw [if_pos (by simp [Region.wanted, hg])]
    left
    show o2.upon _ _ _ _ ((execOp (a.put o1.dst v).eval o2).run _ w)
    have : (execOp (a.put o1.dst v).eval o2).run Try.prog w = .ok (.defer ⟨.fn (.func g) cap.toArray, #[]⟩) w := by
      simp [execOp, ho, resolve, Deferred.ofValue, hA1.val hf]
    rw [this]
    refine ⟨rfl, h _ w ⟨?_, ?_, ?_⟩ hH⟩
    · rw [hd]; exact hA1.size
    · rw [hd]; show _ :: _ = _; rw [hA1.defers]
    · rw [hd]; exact hA1.get
  refine wpList_mono ?_ key
  rintro e a' w' ⟨rfl, hy⟩
  exact hy
/-- The closure, called at the door: 'u' the frame's mode ahead, 'u2' behind. -/
def FnD (g : FuncId) (args : List Value) (u u2 : FrameMode) (M : List Nat) (H : Heap) (R : Heap → Prop) : Prop :=
  ∀ w, Has w M w H → CallsD Try.prog g args.toArray u w fun e u' w' => ∃ H', e = .returned (.tuple #[]) ∧ u' = u2 ∧ Has w M w' H' ∧ R H'
/-- A closure whose first statement is recover. -/
theorem FnD_of {g : FuncId} {fn : Func} {id : Nat} {o : Oper} {y : Code} {args : List Value} {u u2 : FrameMode} {M : List Nat} {R : Heap → Prop} {v : Value} {d : Nat} (hf : Try.prog.funcs[g]? = some fn) (hb : fn.body = some (.seq (.region id [o].toArray false) y))
    (hn : Nat.ble args.length fn.ntmps = true) (hres : fn.results.toList = []) (ho : o.op = .call ⟨.builtin .recover, #[], #[]⟩) (hg : o.guard = none) (hd : o.dst = some d) (hd2 : Nat.blt d fn.ntmps = true)
    (hrec : ∀ (c : Frame) (cs : List Frame), c.mode = u → recoverD (c :: cs) = some (v, { c with mode := u2 } :: cs) ∨ (recoverD (c :: cs) = none ∧ v = .nilIface ∧ u2 = u))
    (h : ∀ w0, J ⟨w0, M, ⟨fn.ntmps, []⟩⟩ y (retQ [] fun _ H' => R H') ((d, v) :: initE 0 args) H) : FnD g args u u2 M H R := by
  intro w hH
  refine callsD_of_wpS hf hb fun c0 cs hu => ?_
  refine wpS_seq (wpS_region ?_)
  have hr : ∀ a : Act, (execOp a.eval o).run Try.prog w = .ok .recover w := fun a => by simp [execOp, ho, resolve, invoke, builtin]
  have hA := agr_init (args := args) hn
  have hA1 := hA.put (d := d) (by simpa using hd2) v
  have hrange : List.range [o].toArray.size = [0] := rfl
  rw [hrange]
  have hget : [o].toArray[0]? = some o := rfl
  unfold wpOpsS
  rw [hget]
  simp only [Region.wanted, hg, if_true, hr]
  have fin : y.wpS Try.prog (bodyPostS Try.prog fn c0 cs fun e u' w' => ∃ H', e = .returned (.tuple #[]) ∧ u' = u2 ∧ Has w M w' H' ∧ R H')
      (Act.put { tmps := args.toArray ++ Array.replicate (fn.ntmps - args.toArray.size) undef, defers := [] } o.dst v) ({ c0 with mode := u2 } :: cs) w := by
    refine wpS_of_wp ?_
    rw [hd]
    refine wp_mono (h w _ w hA1 hH) ?_
    rintro e a w' ⟨E', H', hA', hH', hq⟩
    have hv : ∀ (hq : ∃ vs, resE E' [] = some vs ∧ R H'), a.defers = [] ∧ ∃ u', ({ c0 with mode := u2 } : Frame) :: cs = { c0 with mode := u' } :: cs ∧ ∃ v, (results fn a.tmps).run Try.prog w' = .ok v w' ∧
        ∃ H', Ending.returned v = .returned (.tuple #[]) ∧ u' = u2 ∧ Has w M w' H' ∧ R H' := by
      rintro ⟨vs, h1, h2⟩
      refine ⟨hA'.defers, u2, rfl, .tuple #[], ?_, H', rfl, rfl, hH', h2⟩
      have := results_run (fn := fn) (vs := []) hA' (by rw [hres]; rfl) w'
      exact this
    cases e with
    | normal => exact hv hq
    | ret => exact hv hq
    | _ => exact hq.elim
  rcases hrec c0 cs hu with hx | ⟨hx, rfl, rfl⟩
  · rw [hx]
    exact fin
  · rw [hx]
    have e1 : c0 = { c0 with mode := u2 } := by subst hu; rfl
    simp only [wpOpsS]
    rw [← e1] at fin
    exact fin
theorem recover_none (c : Frame) (cs : List Frame) (h : c.mode = .returning) : recoverD (c :: cs) = none := by simp [recoverD, h]
theorem recover_some (c : Frame) (cs : List Frame) (v : Value) (h : c.mode = .panicking [cause v]) : recoverD (c :: cs) = some (v, { c with mode := .panicking [{ v := v, recovered := true }] } :: cs) := by
  simp [recoverD, h, cause]
/-- A function that defers one such closure; its two results lie in memory. -/
theorem Fn_ofD {f : FuncId} {fn : Func} {c : Code} {args : List Value} {R : Value → Heap → Prop} (hf : Try.prog.funcs[f]? = some fn) (hb : fn.body = some c) (hn : Nat.ble args.length fn.ntmps = true)
    (h : ∀ w0, W ⟨w0, [], ⟨fn.ntmps, []⟩⟩ c (bodyPostD Try.prog fn fun e w' => ∃ v H', e = .returned v ∧ Has w0 [] w' H' ∧ R v H') (initE 0 args) H) : Fn f args [] H R := by
  intro w hH
  exact calls_of_wp_defers hf hb (h w _ w (agr_init hn) hH)
/-- The door: the closure is called, the two results are read. -/
theorem door {fn : Func} {a : Act} {w0 w : World} {n g t1 t2 e1 e2 b1 b2 : Nat} {cap : List Value} {v1 v2 x1 x2 : Value} {u u2 : FrameMode} {R : Value → Heap → Prop} (ix : List Nat) (hres : fn.results.toList = [.cell t1 e1, .cell t2 e2])
    (hA : Agr ⟨n, [⟨.fn (.func g) cap.toArray, #[]⟩]⟩ a E) (hH : Has w0 [] w H) (h1 : look E t1 = some (.pointer (some ⟨b1, 0, none⟩))) (h2 : look E t2 = some (.pointer (some ⟨b2, 0, none⟩))) (hix : ix.Nodup)
    (hp : picks H ix = some [blk b1 e1 [v1], blk b2 e2 [v2]]) (hc : callable g = true) (hu : u ≠ .run) (hs : settle u2 = .returning)
    (T : FnD g cap u u2 [b1, b2] [blk b1 e1 [v1], blk b2 e2 [v2]] fun H' => H' = [blk b1 e1 [x1], blk b2 e2 [x2]]) (r1 : readT e1 [x1] 0 = some x1) (r2 : readT e2 [x2] 0 = some x2) (hR : R (.tuple #[x1, x2]) []) :
    Leaves Try.prog fn a.tmps (fun e w' => ∃ v H', e = .returned v ∧ Has w0 [] w' H' ∧ R v H') a.defers u w := by
  rw [hA.defers]
  have hi : (invoke (.fn (.func g) cap.toArray) #[]).run Try.prog w = .ok (.enter g cap.toArray) w := by
    simp [invoke, callFunc_run hc]
  refine leaves_cons hu hi ?_
  have hh := hH.hand (ix := ix) (S := []) (C := [blk b1 e1 [v1], blk b2 e2 [v2]]) (Mc := [b1, b2]) trivial hix hp (fun c hc b hb => by
    simp only [List.mem_cons, List.not_mem_nil, or_false] at hc
    rcases hc with rfl | rfl <;> simp only [Chunk.mine, Option.some.injEq] at hb <;> subst hb <;> simp)
  refine (T w hh).mono ?_
  rintro e u' w' ⟨H', rfl, rfl, hH', rfl⟩
  show Leaves _ _ _ _ [] (settle u') w'
  rw [hs]
  have c1 : w'.heap[b1]? = some (.cells [x1].toArray e1 (0, 0)) := hH'.holds (blk b1 e1 [x1]) (by simp)
  have c2 : w'.heap[b2]? = some (.cells [x2].toArray e2 (0, 0)) := hH'.holds (blk b2 e2 [x2]) (by simp)
  have g1 := loadVar_run (w := w') (b := b1) (o := 0) (t := e1) (cs := [x1]) (v := x1) (fun i v hv => by
    have := shows_blk b1 e1 [x1] (0, 0) w' c1 i v hv; exact this) r1
  have g2 := loadVar_run (w := w') (b := b2) (o := 0) (t := e2) (cs := [x2]) (v := x2) (fun i v hv => by
    have := shows_blk b2 e2 [x2] (0, 0) w' c2 i v hv; exact this) r2
  refine ⟨.tuple #[x1, x2], ?_, .tuple #[x1, x2], [], rfl, ?_, hR⟩
  · have k1 := hA.get _ _ h1
    have k2 := hA.get _ _ h2
    have e0 : fn.results = #[.cell t1 e1, .cell t2 e2] := by cases hr : fn.results; simp [hr] at hres; simp [hres]
    simp [results, e0, Array.getD_eq_getD_getElem?, k1, k2, asAddr, g1, g2]
  · have hb := hH.back (ix := ix) (rest := []) (K := []) (C := [blk b1 e1 [v1], blk b2 e2 [v2]]) hp (fun b hb => by
      simp only [List.mem_cons, List.not_mem_nil, or_false] at hb
      rcases hb with rfl | rfl
      · exact ⟨blk _ e1 [v1], by simp, rfl⟩
      · exact ⟨blk _ e2 [v2], by simp, rfl⟩) rfl List.nodup_nil (fun _ h => by cases h) hH' rfl
    exact hb.mono (fun c hc => by cases hc) List.Pairwise.nil
end Go.Proofs.Ytbhfbpeldcnpfaa
