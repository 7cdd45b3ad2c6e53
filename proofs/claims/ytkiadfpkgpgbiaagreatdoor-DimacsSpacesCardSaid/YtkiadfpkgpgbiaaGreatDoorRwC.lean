
/- From a function's promise to a law's tied card: what the listed variables hold, as pieces of memory. -/
import Derived.Test.YtkiadfpkgpgbiaaGreatDoorRw
import Derived.Test.YtkiadfpkgpgbiaaGreatDoorTextN
import Derived.Test.YtkiadfpkgpgbiaaGreatDoorRows
import Derived.HandedShaped
import Derived.Handed
import Derived.Lib.LaidU8
import Derived.Lib.LaidTab
import Derived.LaidLaws
import Derived.MakeChecks
set_option linter.unusedVariables false
set_option linter.unusedSimpArgs false
namespace Go.Proofs.YtkiadfpkgpgbiaaGreatDoor
open Go.RowKit Go.ChangeShapes
def laidL : List (String × DataW Unit) := [("math/bits.deBruijn32tab", Rows.laid_math_bits_deBruijn32tab), ("math/bits.deBruijn64tab", Rows.laid_math_bits_deBruijn64tab), ("internal/strconv.uint64pow10", Rows.laid_internal_strconv_uint64pow10), ("unicode/utf8.acceptRanges", Rows.laid_unicode_utf8_acceptRanges), ("strconv.ErrRange", Rows.laid_strconv_ErrRange), ("strconv.ErrSyntax", Rows.laid_strconv_ErrSyntax), ("unicode/utf8.first", Rows.laid_unicode_utf8_first)]
theorem var_block {W : World} {n : String} {g : Nat} {cs : Array Value} (hg : Tryz.prog.globalNamed n = some g) (h : W.var? Tryz.prog n = some cs) : ∃ t k, W.heap[g]? = some (.cells cs t k) := by
  unfold World.var? at h
  rw [hg] at h
  simp only [Option.bind_some] at h
  split at h
  · rename_i c t k he
    obtain rfl := Option.some.inj h
    exact ⟨_, _, he⟩
  · cases h
theorem libV_of {W : World} (h : laidMetH Tryz.prog laidL W) (hsh : W.ShapedOpen Tryz.prog) : ∃ V : LibV, SegsIn W V.heap := by
  rw [MakeChecks.laidMetH_plain _ _ _ (by kernel_rfl)] at h
  obtain ⟨m, hm⟩ := Tryz.laysM146.s1_3 W hsh
  have gM : Tryz.prog.globalNamed "internal/bytealg.MaxLen" = some 0 := by kernel_rfl
  have gP : Tryz.prog.globalNamed "internal/strconv.uint64pow10" = some 1 := by kernel_rfl
  have gE : Tryz.prog.globalNamed "strconv.ErrRange" = some 7 := by kernel_rfl
  obtain ⟨g1, t1, cs1, f1, p1, hg1, ht1, hv1, hd1⟩ := Lib.laidMet.reads h (n := "internal/strconv.uint64pow10") (d := Rows.laid_internal_strconv_uint64pow10) (by simp [laidL])
  obtain ⟨g2, t2, cs2, f2, p2, hg2, ht2, hv2, hd2⟩ := Lib.laidMet.reads h (n := "strconv.ErrRange") (d := Rows.laid_strconv_ErrRange) (by simp [laidL])
  obtain rfl := Option.some.inj (gP.symm.trans hg1)
  obtain rfl := Option.some.inj (gE.symm.trans hg2)
  have tP : (Tryz.prog.globals[1]?).map (·.type) = some 111 := by kernel_rfl
  have tE : (Tryz.prog.globals[7]?).map (·.type) = some 50 := by kernel_rfl
  obtain rfl := Option.some.inj (tP.symm.trans ht1)
  obtain rfl := Option.some.inj (tE.symm.trans ht2)
  have c1 := Lib.cells_of_tab (k := .u64) (zs := Lib.pow10Tab) Tryz.underlying111 Tryz.underlying101 (by kernel_rfl) (by kernel_rfl) hd1
  obtain ⟨f3, u, v, c2, _, _⟩ := iface_of_trod Tryz.underlying50 hd2
  obtain ⟨tp1, k1, b1⟩ := var_block gP hv1
  obtain ⟨tp2, k2, b2⟩ := var_block gE hv2
  have b0 : ∃ cs t k, W.heap[0]? = some (.cells cs t k) ∧ cs[0]? = some (.int .i64 m) := by
    have hm' : W.cell? ⟨0, 0, none⟩ = some (.int .i64 m) := hm
    unfold World.cell? at hm'
    simp only [Option.isSome_none, Bool.false_eq_true, if_false] at hm'
    split at hm'
    · rename_i cs t k he
      exact ⟨_, _, _, he, hm'⟩
    all_goals cases hm'
  obtain ⟨cs0, t0, k0, h0, e0⟩ := b0
  refine ⟨⟨.cells cs0 t0 k0, .cells cs1 tp1 k1, .cells cs2 tp2 k2, m, u, v, ⟨_, _, _, rfl, e0⟩, ⟨tp1, k1, ?_⟩, ⟨tp2, k2, ?_⟩⟩, ⟨h0, b1, b2, trivial⟩⟩
  · rw [← c1]
  · obtain ⟨l2⟩ := cs2
    have : l2 = [.iface u v] := c2
    rw [this]
section
variable {H : Type} {enc : TypeId × Value → H}
/-- The wrap with the listed variables and the world's shape. -/
theorem returns_card {a : Assume} {C : Checked} {os : Os} {f : FuncId} {fn : Func} {s : ChangeSpec} {conds : List PathCond} {apart fresh handsOn again : Bool} {X : World → Array Value → Prop}
    (hX : ∀ (w w' : World) (args : Array Value), w.heap = w'.heap → X w args → X w' args)
    (own : ownKnob C.prog.godebug = none) (started : os.Started) (noInit : C.prog.inits.idxOf? f = none) (hfn : C.prog.funcs[f]? = some fn)
    (witness : ∃ (w : World) (tape : Tape) (i : Input), w.os = os ∧ (w.forCall tape i).Shaped C.prog ∧ i.vars = [] ∧ Input.okWide C.prog (w.forCall tape i) .any w.heap.size f i ∧
      ((s.pre enc C.prog fn conds apart (w.forCall tape i).memory i.args ∧ X (w.forCall tape i).memory i.args) ∧ sizedMet enc C.prog fn (OpenSpec.ofChange s) apart (w.forCall tape i).memory i.args) ∧ a.holds C.prog (lone (Frame.enter C.prog f i.args .normal) [] (w.forCall tape i)))
    (contract : ∀ (W : World) (base : Nat) (args : Array Value) (ds gs : List (DataW H)) (before : List MemPlace),
      (∀ (j : Nat) t v, fn.params[j]? = some t → args[j]? = some v → Value.okWide C.prog W .any base t v) →
      DataW.Whole enc C.prog fn.params.toList s.vars apart W args.toList ds gs before →
      conds.all (PathCond.test C.prog ⟨fn.params.toList, ds, s.plain.varTypes C.prog, gs⟩) = true →
      (DataW.weightsEach C.prog (fn.params.toList ++ s.plain.varTypes C.prog) (ds ++ gs)).all (· ≤ reachBytes) = true → X W args → W.ShapedOpen C.prog →
      a.holds C.prog (lone (Frame.enter C.prog f args .normal) [] W) →
      Calls C.prog f args W fun e W' => ∃ v, e = .returned v ∧ s.post enc C.prog fn apart fresh handsOn again W args v W') :
    ReturnsInHanded a C os f .any (fun w args => (s.pre enc C.prog fn conds apart w args ∧ X w args) ∧ sizedMet enc C.prog fn (OpenSpec.ofChange s) apart w args) (s.post enc C.prog fn apart fresh handsOn again) := by
  refine returnsInHanded_of_calls own started noInit witness ?_
  intro w tape i _ hsh _ hok hpre hholds
  obtain ⟨_, _, _, fn', hfn', _, _, _, _, hval⟩ := hok
  have e : fn' = fn := Option.some.inj (hfn'.symm.trans hfn)
  subst e
  obtain ⟨⟨⟨ds, gs, before, hw, hc⟩, hx⟩, hz⟩ := hpre
  have hw' := DataW.Whole.of_heap (w' := w.forCall tape i) (by rfl) hw
  refine (contract (w.forCall tape i) w.heap.size i.args ds gs before hval hw' hc (hz.weights hw) (hX _ _ _ (by rfl) hx) hsh hholds).mono fun e W' ⟨v, he, hp⟩ => ?_
  subst he
  exact ChangeSpec.post_blind hp
end
theorem SegsIn.app {W : World} : ∀ {S T : Heap}, SegsIn W S → SegsIn W T → SegsIn W (S ++ T)
  | [], _, _, h => h
  | .seg b o vs :: S, T, h, h2 => ⟨h.1, SegsIn.app h.2 h2⟩
  | .tab b o :: S, T, h, h2 => ⟨h.1, SegsIn.app h.2 h2⟩
  | .obj .. :: _, _, h, _ => h.elim
  | .own .. :: _, _, h, _ => h.elim
end Go.Proofs.YtkiadfpkgpgbiaaGreatDoor
