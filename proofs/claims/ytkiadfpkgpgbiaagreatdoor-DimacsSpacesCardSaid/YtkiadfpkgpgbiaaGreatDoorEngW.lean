
/- A builder of the library, in the engine: written, and read at the end. -/
import Derived.Test.YtkiadfpkgpgbiaaGreatDoorTextN
import Derived.Lib.AppendStr
import Derived.Lib.Builder
import Derived.Shelf.Strings.Builder1
set_option linter.unusedVariables false
set_option linter.unusedSimpArgs false
namespace Go.Proofs.YtkiadfpkgpgbiaaGreatDoor
open Go.RowKit
open Lib
theorem app_str {w : World} {t u ty e : Nat} {i : TypeInfo} (ht : Tryz.prog.underlying t = some (.slice e)) (hu : Tryz.prog.underlying u = some .string) (hi : Tryz.prog.info? e = some i) (hz : i.zero = some (.int .u8 0)) (hs : i.size = 1) (hb : i.bytes = 1)
    (v : Value) (n : Nat) (xs : List Value) (hown : w.ownsRow 0 e 1 v n xs) (s : ByteArray) (h : n + s.size ≤ 140737488355328) :
    ∃ v' w', (Builtin.append_ #[t, u] ty #[v, .string s]).run Tryz.prog w = .ok v' w' ∧ w'.ownsRow 0 e 1 v' (n + s.size) (xs ++ strCells s) ∧ w.grownBy w' v.ownBlock ∧ ∀ b, v'.ownBlock = some b → v.ownBlock = some b ∨ w.heap.size ≤ b := by
  obtain ⟨v', w', hr, h1, h2, _⟩ := run_append_own_string w 0 t u ty e i ht hu hi hz hs hb v n xs hown s (by unfold maxLen; omega) h (Nat.zero_le _)
  refine ⟨v', w', hr, h1, h2, ?_⟩
  have hlen : xs.length = n := by simpa using hown.1
  rcases hown.2 with ⟨rfl, rfl⟩ | ⟨g, cap, cur, rfl, _, hg, hnc, hcm, hcs, _⟩
  · obtain rfl : xs = [] := List.eq_nil_of_length_eq_zero hlen
    obtain ⟨v2, w2, hr2, k1, _, _⟩ := run_append_own_string w w.heap.size t u ty e i ht hu hi hz hs hb (.slice none 0 0) 0 [] (World.ownsRow_nil w _ e 1) s (by unfold maxLen; omega) h (Nat.le_refl _)
    rw [hr] at hr2
    injection hr2 with hv _
    subst hv
    intro b hbk
    rcases k1.2 with ⟨rfl, _⟩ | ⟨g, cap, cur, rfl, hge, _⟩
    · cases hbk
    · simp only [Value.ownBlock, Option.some.injEq] at hbk
      exact .inr (by omega)
  · by_cases hroom : n + s.size ≤ cap
    · have hr3 := run_append_room_string (P := Tryz.prog) w t u ty e i ht hu hi hs g n cap cur hg s hroom (by simp at hcs; omega)
      rw [hr] at hr3
      injection hr3 with hv _
      subst hv
      exact fun b hbk => .inl hbk
    · have hr3 := run_append_grow_string (P := Tryz.prog) w t u ty e i (.int .u8 0) ht hu hi hz ⟨g, 0, none⟩ n cap xs (by rw [hs]; simpa using hlen) (hown.cells (g := g) rfl) s (by omega) (by omega) (by rw [hb]; exact growslice_fits (by omega) (by omega))
      rw [hr] at hr3
      injection hr3 with hv _
      subst hv
      intro b hbk
      simp only [Value.ownBlock, Option.some.injEq] at hbk
      exact .inr (by omega)
section
variable {X : Cx} {Q : Post} {E : Env} {H K : Heap}
theorem str_cells (m : List UInt8) : strCells ⟨m.toArray⟩ = byteCells m := rfl
theorem JL_appendStr {F : Option Addr → Nat → Env} {ops l : List Oper} {o : Oper} {t u e n c0 s1 s2 sz' by' : Nat} {s x : Operand} {A0 : Option Addr} {z z' : Option Value} {uk : UK} {xs : List Value} {m : List UInt8} (k : Nat)
    (ho : o.op = .call ⟨.builtin .append, #[s, x], #[t, u]⟩) (hs : val E s = some (.slice A0 n c0)) (hx : val E x = some (str m)) (ht : tab t = some ⟨.slice e, sz', by', z⟩) (hu : tab u = some ⟨.string, s1, s2, z'⟩) (he : tab e = some ⟨uk, 1, 1, some (.int .u8 0)⟩)
    (hk : H[k]? = some (.own (.slice A0 n c0) e 1 n xs)) (hmax : n + m.length ≤ 140737488355328) (hb : ∀ A c, bef X.n ops [] E o (.slice A (n + m.length) c) = some (F A c))
    (h : ∀ A c, JL X ops l Q (F A c) (H.set k (.own (.slice A (n + m.length) c) e 1 (n + m.length) (xs ++ byteCells m)))) : JL X ops (o :: l) Q E H := by
  obtain ⟨j, hi, hjz, hjs, hjb⟩ := zero_size he
  refine JL_some (α := Option Addr × Nat) (f := fun p => .slice p.1 (n + m.length) p.2) (F := fun p => F p.1 p.2)
    (G := fun p => H.set k (.own (.slice p.1 (n + m.length) p.2) e 1 (n + m.length) (xs ++ byteCells m))) [] (fun p => hb p.1 p.2) (fun a w hA hH => ?_) (fun p => h p.1 p.2)
  have hown : w.ownsRow 0 e 1 (.slice A0 n c0) n xs := hH.holds _ (List.mem_of_getElem? hk)
  obtain ⟨v', w', hr, h1, h2, h3⟩ := app_str (w := w) (ty := o.type) (und_slice ht) (und_string hu) hi hjz hjs hjb _ n xs hown ⟨m.toArray⟩ (by rw [str_size]; exact hmax)
  rw [str_size, str_cells] at h1
  obtain ⟨A, c, rfl⟩ : ∃ A c, v' = .slice A (n + m.length) c := by
    rcases h1.2 with ⟨rfl, e0⟩ | ⟨g, cap, cur, rfl, _⟩
    · exact ⟨none, 0, by rw [e0]⟩
    · exact ⟨_, _, rfl⟩
  refine ⟨(A, c), w', ?_, ?_⟩
  · have hr' : (Builtin.append_ #[t, u] o.type #[.slice A0 n c0, str m]).run Tryz.prog w = .ok (.slice A (n + m.length) c) w' := hr
    simp [execOp, ho, resolve, invoke, builtin, hA.val hs, hA.val hx, hr']
  · exact hH.step k hk h2.os h2.tape h2.output h2.size (fun q hq hne => h2.block q hq (fun x => hne x.symm)) h1 (fun b' hb' => h3 b' hb')
/-- The last call: what it leaves behind is not asked for. -/
theorem JL_last {E' : Env} {ops l : List Oper} {o : Oper} {f : Operand} {args : Array Operand} {ts : Array TypeId} {g : FuncId} {fst cap vs args' : List Value} {v : Value} (gs : List Nat) (hM : X.M = [])
    (T : ∀ w, Has X.w0 X.M w H → Calls Tryz.prog g args'.toArray w fun e w' => e = .returned v ∧ Below X.w0.heap.size w w') (ho : o.op = .call ⟨.value f, args, ts⟩) (hf : val E f = some (.func (.func g) fst.toArray cap.toArray))
    (ha : vals E args.toList = some vs) (has : fst ++ vs ++ cap = args') (hc : callable g = true) (hb : bef X.n ops gs E o v = some E') (h : JL X ops l Q E' []) : JL X ops (o :: l) Q E H := by
  intro a w hA hH
  obtain ⟨hg, hp⟩ := bef_spec hb
  unfold wpList
  rw [if_pos (gd_wanted hA hg)]
  left
  show o.upon _ a _ _ ((execOp a.eval o).run _ w)
  rw [call_run hA ho hf ha hc w, has]
  refine (T w hH).mono ?_
  rintro e w' ⟨rfl, h1⟩
  refine h _ _ (hA.putE hp) ⟨h1.os.trans hH.os, h1.tape.trans hH.tape, h1.output.trans hH.output, Nat.le_trans hH.size h1.size, fun k hk hkM => ?_, fun c hc => absurd hc List.not_mem_nil, fun c hc => absurd hc List.not_mem_nil, List.Pairwise.nil⟩
  exact (h1.block k hk).trans (hH.keep k hk hkM)
end
/-! ### The builder -/
def bldC (b : Nat) (p : Value) (A : Option Addr) (c : Nat) (m : List UInt8) : Heap := [blk b 48 [p, .slice A m.length c], .own (.slice A m.length c) 5 1 m.length (byteCells m)]
def isP (b : Nat) (p : Value) : Prop := p = .pointer none ∨ p = .pointer (some ⟨b, 0, none⟩)
theorem ccheck_fn (b : Nat) (p v : Value) (hp : isP b p) : Fn 29 [.pointer (some ⟨b, 0, none⟩)] (mines [blk b 48 [p, v]]) ([] ++ [blk b 48 [p, v]]) fun _ H' => H' = [blk b 48 [.pointer (some ⟨b, 0, none⟩), v]] := by
  intro w hw
  have hb : w.heap[b]? = some (.cells #[p, v] 48 (0, 0)) := hw.holds _ (List.mem_cons_self ..)
  have hM : mines [blk b 48 [p, v]] = [b] := rfl
  rcases hp with rfl | rfl
  · refine (Any.Builder_copyCheck_fresh { Tryz.lays156 with } Tryz.Builder_Extra_156.toX72 b w (by simp [World.cell?, hb]) (by simp [World.shape?, hb]; rfl) (by simp [World.frozen?, hb])).mono ?_
    rintro e w' ⟨he, rfl⟩
    refine ⟨.tuple #[], _, he, ?_, rfl⟩
    refine hw.step 0 rfl rfl rfl rfl (by simp [World.setCell]) (fun k _ hk => Below.heap_setCell _ _ _ _ (fun e => hk (by rw [e]; rfl))) ?_ (fun b' hb' => .inl hb')
    show (w.setCell _ _).heap[b]? = _
    simp [World.setCell, Array.getElem?_modify, hb]
  · refine (Any.Builder_copyCheck_used { Tryz.lays156 with } Tryz.Builder_Extra_156.toX72 b w (by simp [World.cell?, hb])).mono ?_
    rintro e w' ⟨he, rfl⟩
    exact ⟨.tuple #[], _, he, hw, rfl⟩
theorem wstr_fn (b : Nat) (p : Value) (hp : isP b p) (A : Option Addr) (c : Nat) (m s : List UInt8) (hl : m.length + s.length ≤ 100000000) : Fn 16 [.pointer (some ⟨b, 0, none⟩), str s] (mines (bldC b p A c m)) ([] ++ bldC b p A c m)
    fun _ H' => ∃ (A' : Option Addr) (c' : Nat), H' = bldC b (.pointer (some ⟨b, 0, none⟩)) A' c' (m ++ s) := by
  refine Fn_of Tryz.func16 rfl rfl fun w0 => ?_
  (repeat' (first | refine J_seq ?_ | refine J_skip ?_ | refine J_yes rfl ?_ | refine J_no rfl ?_))
  refine J_region ?_
  refine JL_all [] rfl ?_
  (repeat' (first | refine J_seq ?_ | refine J_skip ?_ | refine J_yes rfl ?_ | refine J_no rfl ?_))
  refine J_region ?_
  refine JL_run [] rfl ?_
  refine JL_callK (fst := []) (cap := []) [] (ccheck_fn b p _ hp) rfl rfl rfl rfl (by kernel_rfl) Fit.refl trivial (fun _ => rfl) ?_
  rintro v H' rfl
  refine ⟨rfl, ?_⟩
  refine JL_all [] rfl ?_
  (repeat' (first | refine J_seq ?_ | refine J_skip ?_ | refine J_yes rfl ?_ | refine J_no rfl ?_))
  refine J_region ?_
  refine JL_run [] rfl ?_
  refine JL_val [] (OpV_blk (i := 1) (v := .slice A m.length c) 0 rfl rfl rfl rfl) rfl ?_
  refine JL_run [] rfl ?_
  refine JL_appendStr (m := s) 1 rfl rfl rfl rfl rfl rfl rfl (by omega) (fun _ _ => rfl) fun A' c' => ?_
  refine JL_run [] rfl ?_
  refine JL_store 0 rfl rfl rfl rfl rfl [] rfl ?_
  refine JL_all [] rfl ?_
  (repeat' (first | refine J_seq ?_ | refine J_skip ?_ | refine J_yes rfl ?_ | refine J_no rfl ?_))
  refine J_region ?_
  refine JL_all [] rfl ?_
  refine J_ret ?_
  refine ⟨_, rfl, A', c', ?_⟩
  unfold bldC
  rw [List.length_append, show byteCells (m ++ s) = byteCells m ++ byteCells s by simp [byteCells]]
  rfl
theorem bstr_T {X : Cx} (hM : X.M = []) {w : World} {H : Heap} (b : Nat) (p : Value) (hp : isP b p) (A : Option Addr) (c : Nat) (m : List UInt8) (hH : Has X.w0 X.M w (bldC b p A c m ++ H)) :
    Calls Tryz.prog 18 #[.pointer (some ⟨b, 0, none⟩)] w fun e w' => e = .returned (str m) ∧ Below X.w0.heap.size w w' := by
  have hb : w.heap[b]? = some (.cells #[p, .slice A m.length c] 48 (0, 0)) := hH.holds (blk b 48 [p, .slice A m.length c]) (by simp [bldC])
  have ho : w.ownsRow 0 5 1 (.slice A m.length c) m.length (byteCells m) := hH.holds (.own (.slice A m.length c) 5 1 m.length (byteCells m)) (by simp [bldC])
  have hge : ∀ ch ∈ bldC b p A c m, ∀ k, ch.mine = some k → X.w0.heap.size ≤ k := fun ch hc k hk => (hH.own ch (List.mem_append_left _ hc) k hk).resolve_right (by rw [hM]; exact List.not_mem_nil)
  have hb0 := hge _ (List.mem_cons_self ..) b rfl
  have hap := (List.pairwise_append.1 hH.dis).1
  have hne : (Value.slice A m.length c).ownBlock ≠ some b := (List.pairwise_cons.1 hap).1 _ (List.mem_cons_self ..) |>.1 b rfl
  have ho2 : w.ownsRow X.w0.heap.size 5 1 (.slice A m.length c) (byteCells m).length (byteCells m) := by
    rw [byteCells_length]
    refine ⟨ho.1, ?_⟩
    rcases ho.2 with h | ⟨g, cap, cur, e, _, r⟩
    · exact .inl h
    · exact .inr ⟨g, cap, cur, e, hge _ (List.mem_cons_of_mem _ (List.mem_cons_self ..)) g (by rw [show (Chunk.own (.slice A m.length c) 5 1 m.length (byteCells m)).mine = (Value.slice A m.length c).ownBlock from rfl, e]; rfl), r⟩
  have hat : BuilderAt 48 5 X.w0.heap.size b p (byteCells m) w := ⟨hb0, _, hb, ho2, hne⟩
  have his : IsBuilder 48 5 X.w0.heap.size b (byteCells m) w := by
    rcases hp with rfl | rfl
    · exact .inl hat
    · exact .inr hat
  exact Any.Builder_String_any Tryz.lays169 Tryz.Builder_Extra_169 X.w0.heap.size b m w his hH.size
end Go.Proofs.YtkiadfpkgpgbiaaGreatDoor
