/- The engine: calls that change what they are handed. -/
import Derived.Test.YtbhfbpeldcnpfaaEngF
import Derived.Test.YtbhfbpeldcnpfaaEngJ
namespace Go.Proofs.Ytbhfbpeldcnpfaa
open Go.RowKit
variable {X : Cx} {Q : Post} {E E' : Env} {H H' K : Heap}
/-- The blocks that are the call's own, of pieces. -/
def mines (C : Heap) : List Nat := C.filterMap Chunk.mine
theorem mem_mines {C : Heap} {b : Nat} : b ∈ mines C ↔ ∃ c ∈ C, c.mine = some b := List.mem_filterMap
theorem picks_at (H : Heap) : ∀ (K : Heap) (i : Nat), (∀ j, j < K.length → H[i + j]? = K[j]?) → picks H (List.range' i K.length) = some K
  | [], _, _ => rfl
  | c :: K, i, hi => by
    have h0 : H[i]? = some c := by simpa using hi 0 (by simp)
    rw [List.length_cons, List.range'_succ]
    unfold picks
    rw [h0, picks_at H K (i + 1) (fun j hj => by have := hi (j + 1) (by simp; omega); simpa [Nat.add_assoc, Nat.add_comm 1] using this)]
theorem picks_cons {i : Nat} {l : List Nat} {A1 : Heap} : picks H (i :: l) = some A1 ↔ ∃ c K, H[i]? = some c ∧ picks H l = some K ∧ A1 = c :: K := by
  constructor
  · intro h
    unfold picks at h
    split at h
    · rename_i c hc
      split at h
      · rename_i K hK
        simp only [Option.some.injEq] at h
        exact ⟨c, K, hc, hK, h.symm⟩
      · cases h
    · cases h
  · rintro ⟨c, K, h1, h2, rfl⟩
    unfold picks
    rw [h1, h2]
theorem picks_app {B : Heap} {l' : List Nat} (hB : picks H l' = some B) : ∀ {l : List Nat} {A : Heap}, picks H l = some A → picks H (l ++ l') = some (A ++ B)
  | [], A, h => by
    simp only [picks, Option.some.injEq] at h
    subst h; exact hB
  | i :: l, A, h => by
    obtain ⟨c, K, h1, h2, rfl⟩ := picks_cons.1 h
    exact picks_cons.2 ⟨c, K ++ B, h1, picks_app hB h2, rfl⟩
theorem picks_pre {A R : Heap} : ∀ {l : List Nat} {A1 : Heap}, picks A l = some A1 → picks (A ++ R) l = some A1 ∧ ∀ i ∈ l, i < A.length
  | [], A1, h => ⟨h, fun _ h => by cases h⟩
  | i :: l, A1, h => by
    obtain ⟨c, K, h1, h2, rfl⟩ := picks_cons.1 h
    have hlt := (List.getElem?_eq_some_iff.1 h1).1
    obtain ⟨k1, k2⟩ := picks_pre (R := R) h2
    refine ⟨picks_cons.2 ⟨c, K, by rw [List.getElem?_append_left hlt]; exact h1, k1, rfl⟩, fun j hj => ?_⟩
    rcases List.mem_cons.1 hj with rfl | hj
    · exact hlt
    · exact k2 j hj
/-- Some pieces, and all of a tail, brought to the front. -/
theorem Fit.mid {A A1 A2 R : Heap} (ix jx : List Nat) (h1 : Proofs.Ytbhfbpeldcnpfaa.picks A ix = some A1) (h2 : Proofs.Ytbhfbpeldcnpfaa.picks A jx = some A2) (hn : (ix ++ jx).Nodup) : Fit X (A ++ R) ((A1 ++ R) ++ A2) := by
  obtain ⟨k1, l1⟩ := picks_pre (R := R) h1
  obtain ⟨k2, l2⟩ := picks_pre (R := R) h2
  have kR : Proofs.Ytbhfbpeldcnpfaa.picks (A ++ R) (List.range' A.length R.length) = some R := picks_at _ R A.length fun j _ => by rw [List.getElem?_append_right (by omega), Nat.add_sub_cancel_left]
  refine Fit.picks ((ix ++ List.range' A.length R.length) ++ jx) ?_ (picks_app k2 (picks_app kR k1))
  obtain ⟨n1, n2, n3⟩ := List.nodup_append.1 hn
  rw [List.nodup_append, List.nodup_append]
  refine ⟨⟨n1, List.nodup_range', fun a ha b hb => ?_⟩, n2, fun a ha b hb => ?_⟩
  · have := l1 a ha
    have := (List.mem_range'_1.1 hb).1
    omega
  · rcases List.mem_append.1 ha with ha | ha
    · exact n3 a ha b hb
    · have := l2 b hb
      have := (List.mem_range'_1.1 ha).1
      omega
theorem Fit.re {A A1 R : Heap} (ix : List Nat) (h1 : Proofs.Ytbhfbpeldcnpfaa.picks A ix = some A1) (hn : ix.Nodup) : Fit X (A ++ R) (A1 ++ R) := by
  have := Fit.mid (X := X) (R := R) ix [] h1 rfl (by simpa using hn)
  simpa using this
theorem Fit.swap {A R B : Heap} : Fit X ((A ++ R) ++ B) ((A ++ B) ++ R) := Fit.perm (by rw [List.append_assoc, List.append_assoc]; exact List.Perm.append_left A List.perm_append_comm)
theorem Seen.tail {C : Heap} : ∀ {S : Heap}, Seen K [] S → Seen (C ++ K) (List.range C.length) S
  | [], _ => trivial
  | .seg b off vs :: S, ⟨⟨k, c, _, hk, h1, h2⟩, hS⟩ => ⟨⟨C.length + k, c, by rw [List.mem_range]; omega, by rw [List.getElem?_append_right (by omega), Nat.add_sub_cancel_left]; exact hk, h1, h2⟩, Seen.tail hS⟩
  | .obj .. :: _, h => h.elim
  | .own .. :: _, h => h.elim
theorem noSeg_app : ∀ {A B : Heap}, noSeg A = true → noSeg B = true → noSeg (A ++ B) = true
  | [], _, _, h => h
  | .seg .. :: _, _, h, _ => by simp [noSeg] at h
  | .obj .. :: A, B, h, h2 => noSeg_app (A := A) h h2
  | .own .. :: A, B, h, h2 => noSeg_app (A := A) h h2
theorem noSeg_rows (e : Nat) : ∀ rows : List Row, noSeg (rows.map (rowC e)) = true
  | [] => rfl
  | _ :: rows => noSeg_rows e rows
/-- Whether a row is nil. -/
theorem OpV_isnil {o : Oper} {t t' n c e sz by_ : Nat} {x y : Operand} {A : Option Addr} {z : Option Value} (ho : o.op = .binOp .eql t x y t') (hx : val E x = some (.slice A n c)) (hy : val E y = some (.slice none 0 0)) (ht : tab t = some ⟨.slice e, sz, by_, z⟩) :
    OpV X o E H (.bool A.isNone) := by
  intro a w hA hH
  have h1 := und_slice ht
  have he : (Op.equal t (.slice A n c) (.slice none 0 0)).run Try.prog w = .ok A.isNone w := by
    show (Op.equalIn (9999 + 1) t (.slice A n c) (.slice none 0 0)).run Try.prog w = .ok A.isNone w
    rw [Op.equalIn]
    simp only [Sem.run_bind, run_underlying h1, Result.andThen_ok]
    cases A <;> rfl
  have hg : (eqGuard .eql t x y (.slice A n c) (.slice none 0 0)).run Try.prog w = .ok () w := by simp [eqGuard]
  have hb : (binOp .eql t (.slice A n c) (.slice none 0 0)).run Try.prog w = .ok (.bool A.isNone) w := by
    unfold binOp
    simp only [Sem.run_bind, he, Result.andThen_ok]
    rfl
  simp only [execOp, ho, hA.val hx, hA.val hy, Sem.run_bind, hg, hb, Result.andThen_ok]
  rfl
/-- A call that changes the pieces 'C' that it is handed, and reads 'S'. -/
theorem JL_callK {F : Value → Env} {ops l : List Oper} {o : Oper} {f : Operand} {args : Array Operand} {ts : Array TypeId} {g : FuncId} {fst cap vs args' : List Value} {R : Value → Heap → Prop} {S C : Heap} (gs : List Nat)
    (T : Fn g args' (mines C) (S ++ C) R) (ho : o.op = .call ⟨.value f, args, ts⟩) (hf : val E f = some (.func (.func g) fst.toArray cap.toArray)) (ha : vals E args.toList = some vs) (has : fst ++ vs ++ cap = args') (hc : callable g = true)
    (hfit : Fit X H (C ++ K)) (hS : Seen K [] S) (hb : ∀ v, bef X.n ops gs E o v = some (F v)) (h : ∀ v H', R v H' → noSeg H' = true ∧ JL X ops l Q (F v) (H' ++ K)) : JL X ops (o :: l) Q E H := by
  refine JL_fit hfit ?_
  have hC : picks (C ++ K) (List.range C.length) = some C := by
    rw [List.range_eq_range']
    exact picks_at _ C 0 fun j hj => by rw [Nat.zero_add, List.getElem?_append_left hj]
  have hK : picks (C ++ K) (List.range' C.length K.length) = some K := picks_at _ K C.length fun j _ => by rw [List.getElem?_append_right (by omega), Nat.add_sub_cancel_left]
  exact JL_call (List.range C.length) (List.range' C.length K.length) gs T ho hf ha has hc hS.tail List.nodup_range hC (fun c hc b hb => mem_mines.2 ⟨c, hc, hb⟩) (fun b hb => mem_mines.1 hb) hK List.nodup_range'
    (fun i hi => by rw [List.mem_range]; have := (List.mem_range'_1.1 hi).1; omega) hb h
/-! ### Calls through an interface -/
noncomputable def methodB (t : Nat) (name : String) : Option FuncId := match Try.prog.info? t with
  | some i => match i.methods.find? (·.name == name) with
    | some m => match m.path.isEmpty, m.func with
      | true, some (f, false) => some f
      | _, _ => none
    | none => none
  | none => none
theorem method_run {t s by_ : Nat} {fs : List (Nat × Nat × Nat)} {z : Option Value} {name : String} {g : FuncId} (h : methodB t name = some g) (ht : tab t = some ⟨.struct fs, s, by_, z⟩) (v : Value) (w : World) :
    (method (Try.prog.types.size + Made.depth) t v name).run Try.prog w = .ok (g, v) w := by
  obtain ⟨F, hF, _⟩ := und_struct ht
  have hdp : 0 < Made.depth := by decide
  have hd : ∃ k, Try.prog.types.size + Made.depth = k + 1 := ⟨Try.prog.types.size + Made.depth - 1, by omega⟩
  obtain ⟨k, hk⟩ := hd
  rw [hk]
  unfold methodB at h
  split at h
  · rename_i i hi
    split at h
    · rename_i m hm
      split at h
      · rename_i f hp hf
        simp only [Option.some.injEq] at h
        subst h
        have hpl : m.path.toList = [] := by simpa using hp
        unfold method
        simp [typeInfo, hi, hm, hpl, follow, hf, receiverAt, run_underlying hF, Place.get]
      · cases h
    · cases h
  · cases h
theorem JL_invoke {F : Value → Env} {ops l : List Oper} {o : Oper} {x : Operand} {name : String} {args : Array Operand} {ts : Array TypeId} {g t s by_ : Nat} {u : Value} {vs args' : List Value} {fs : List (Nat × Nat × Nat)} {z : Option Value} {R : Value → Heap → Prop} {S : Heap} (gs : List Nat)
    (T : Fn g args' [] S R) (ho : o.op = .call ⟨.invoke x name, args, ts⟩) (hx : val E x = some (.iface t u)) (ha : vals E args.toList = some vs) (has : u :: vs = args') (hm : methodB t name = some g) (ht : tab t = some ⟨.struct fs, s, by_, z⟩) (hc : callable g = true)
    (hS : Seen H [] S) (hb : ∀ v, bef X.n ops gs E o v = some (F v)) (h : ∀ v H', R v H' → noSeg H' = true ∧ JL X ops l Q (F v) (H' ++ H)) : JL X ops (o :: l) Q E H := by
  intro a w hA hH
  have hg := (bef_spec (hb undef)).1
  unfold wpList
  rw [if_pos (gd_wanted hA hg)]
  left
  show o.upon _ a _ _ ((execOp a.eval o).run _ w)
  have e1 : args.map a.eval = vs.toArray := by rw [← hA.vals _ _ ha]; exact Array.ext' (by simp)
  have hr : (execOp a.eval o).run Try.prog w = .ok (.enter g (u :: vs).toArray) w := by
    have h1 := method_run hm ht u w
    simp only [execOp, ho, resolve, e1, hA.val hx, Sem.run_bind, Sem.run_pure, Result.andThen_ok, invoke]
    have e2 : (#[Value.iface t u] ++ vs.toArray)[0]? = some (.iface t u) := by simp
    have e3 : (#[Value.iface t u] ++ vs.toArray).extract 1 (#[Value.iface t u] ++ vs.toArray).size = vs.toArray := by simp
    simp only [e2, e3, callMethod, Sem.run_bind, run_program, Result.andThen_ok, h1, callFunc_run hc]
    simp
  rw [hr, has]
  have hwH : Has w [] w (S ++ []) := hH.hand (ix := []) (C := []) hS List.nodup_nil rfl (fun c hc => by cases hc)
  rw [List.append_nil] at hwH
  refine (T w hwH).mono ?_
  rintro e w' ⟨v, H', rfl, h1, h2⟩
  obtain ⟨h3, h4⟩ := h v H' h2
  exact h4 _ _ (hA.putE (bef_spec (hb v)).2) (hH.back (ix := []) (C := []) (K := H) (Mc := []) rfl (fun b hb => by cases hb) (picks_range H) List.nodup_range (fun _ _ h => by cases h) h1 h3)
theorem wpOp_of_list {P : Program} {ops : Array Oper} {o : Oper} {j : Nat} {Q1 Q2 : Exit → Act → World → Prop} {K : Act → World → Prop} {a : Act} {w : World} (ho : ops.toList[j]? = some o) (h : wpList P ops Q1 [o] a w)
    (hn : ∀ a w, Q1 .normal a w → K a w) (he : ∀ e a w, e ≠ .normal → Q1 e a w → Q2 e a w) : wpOp P ops Q2 j K a w := by
  have ho' : ops[j]? = some o := by simpa using ho
  unfold wpOp
  simp only [ho']
  unfold wpList at h
  have hfin : ∀ a' w', wpList P ops Q1 [] a' w' → K a' w' := fun a' w' h' => hn a' w' h'
  split
  · rename_i hw
    rw [if_pos hw] at h
    rcases h with h | h
    · left
      unfold Oper.wp at *
      generalize (execOp a.eval o).run P w = r at *
      cases r with
      | ok n w' =>
        cases n <;> simp only [Oper.upon] at h ⊢
        case value u => exact hfin _ _ h
        case skip => exact hfin _ _ h
        case defer d => exact hfin _ _ h
        case enter f args =>
          refine h.mono fun e w'' hx => ?_
          cases e with
          | returned u => exact hfin _ _ hx
          | panicked ch => exact he _ _ _ (by simp) hx
          | outgrown => obtain ⟨x, y, hx⟩ := hx; exact ⟨x, y, he _ _ _ (by simp) hx⟩
        case row r args => exact h.mono fun u w'' hu => hfin _ _ hu
      | halt x w' => cases x <;> simp only [Oper.upon] at h ⊢ <;> exact he _ _ _ (by simp) h
    · obtain ⟨h1, x, y, hx⟩ := h
      exact .inr ⟨h1, x, y, he _ _ _ (by simp) hx⟩
  · rename_i hw
    rw [if_neg hw] at h
    exact hfin _ _ h
/-! ### A region that draws, each order walked -/
def anyQ (X : Cx) (ops : List Oper) (Q : Post) (fuel : Nat) (listed : Array Bool) : Post := fun e E H => match e with
  | .normal => ∀ a w, Agr X.n a E → Has X.w0 X.M w H → wpAny Try.prog .any ops.toArray (lift X Q) fuel listed a w
  | e => Q e E H
def JO (X : Cx) (ops : List Oper) (Q : Post) (fuel : Nat) (listed : Array Bool) (E : Env) (H : Heap) : Prop := anyQ X ops Q fuel listed .normal E H
def JOs (X : Cx) (ops : List Oper) (Q : Post) (fuel : Nat) (listed : Array Bool) (E : Env) (H : Heap) : List Nat → Prop
  | [] => True
  | i :: is => (∃ o, ops[i]? = some o ∧ JL X ops [o] (anyQ X ops Q fuel (listed.setIfInBounds i true)) E H) ∧ JOs X ops Q fuel listed E H is
theorem J_any {id : Nat} {l : List Oper} (h : JO X l Q l.length (Array.replicate l.length false) E H) : J X (.region id l.toArray true) Q E H := by
  intro a w hA hH
  refine wp_region_any hmix ?_
  have := h a _ hA hH.drew
  simpa using this
theorem JO_done {ops : List Oper} {listed : Array Bool} (hr : Region.ready .any ops.toArray listed = []) (h : Q .normal E H) : JO X ops Q 0 listed E H := fun _ _ hA hH => ⟨hr, E, H, hA, hH, h⟩
theorem JO_step {ops : List Oper} {listed : Array Bool} {fuel : Nat} (i : Nat) (is : List Nat) (hr : Region.ready .any ops.toArray listed = i :: is) (h : JOs X ops Q fuel listed E H (i :: is)) : JO X ops Q (fuel + 1) listed E H := by
  intro a w hA hH
  refine ⟨fun h0 => (by rw [hr] at h0; cases h0), ?_⟩
  rw [hr]
  have key : ∀ l : List Nat, JOs X ops Q fuel listed E H l → ∀ j ∈ l, wpOp Try.prog ops.toArray (lift X Q) j (wpAny Try.prog .any ops.toArray (lift X Q) fuel (listed.setIfInBounds j true)) a w := by
    intro l
    induction l with
    | nil => intro _ j hj; cases hj
    | cons k l ih =>
      rintro ⟨⟨o, ho, hk⟩, hl⟩ j hj
      rcases List.mem_cons.1 hj with rfl | hj
      · have h1 := hk a w hA hH
        refine wpOp_of_list ho h1 ?_ ?_
        · rintro a' w' ⟨E', H', hA', hH', hq⟩
          exact hq a' w' hA' hH'
        · rintro e a' w' hne ⟨E', H', hA', hH', hq⟩
          cases e with
          | normal => exact absurd rfl hne
          | _ => exact ⟨E', H', hA', hH', hq⟩
      · exact ih hl j hj
  exact key _ h
/-! ### A region that draws: what only reads ahead, each order of the rest walked -/
def doneL (Q : Exit → Act → World → Prop) (ops : Array Oper) (listed : Array Bool) (a : Act) (w : World) : Prop := Region.ready .any ops listed = [] ∧ Q .normal a w
def stillB (ops : Array Oper) : List Nat → Array Bool → Bool
  | [], _ => true
  | k :: l, listed => decide (k < ops.size) && (Region.ready .any ops listed).contains k && Region.free .any ops listed k && stillB ops l (listed.setIfInBounds k true)
def setAll : List Nat → Array Bool → Array Bool
  | [], listed => listed
  | k :: l, listed => setAll l (listed.setIfInBounds k true)
theorem wpAnyC_pre {P : Program} {ops : Array Oper} {S : World → Prop} {Q : Exit → Act → World → Prop} (hsel : Region.noSelect ops = true) {f : Nat} : ∀ (l : List Nat) (listed : Array Bool) (a : Act) (w : World), HeadInv .any ops ops.size listed → S w → stillB ops l listed = true →
    wpW P ops S (fun a' w' => wpAnyC P .any ops S ops.size (doneL Q ops) f (setAll l listed) a' w') (l.map fun k => (k, true)) a w → wpAnyC P .any ops S ops.size (doneL Q ops) (f + l.length) listed a w
  | [], _, _, _, _, _, _, h => h
  | k :: l, listed, a, w, inv, hS, hB, h => by
    simp only [stillB, Bool.and_eq_true, decide_eq_true_eq] at hB
    obtain ⟨⟨⟨hkn, hr⟩, hf⟩, hB'⟩ := hB
    obtain ⟨o, v, h0, hy, hK⟩ := h
    have hr' : k ∈ Region.ready .any ops listed := by simpa using hr
    have ih := wpAnyC_pre hsel l (listed.setIfInBounds k true) (a.put o.dst v) w (inv.set hr' hkn) hS hB' hK
    exact wpAnyC_first h0 (Region.noSelect_spec hsel) (by simp [tailB]) hkn (fun listed' a' w' hL => by rw [hL.1]; exact fun j hj => by cases hj) (f + l.length) listed a w inv (Region.free_spec h0 hf) hr' hy hS ih
def JA (X : Cx) (ops : List Oper) (Q : Post) (Sf : Heap) (fuel : Nat) (listed : Array Bool) (E : Env) (H : Heap) : Prop := ∀ a w, HeadInv .any ops.toArray ops.toArray.size listed → Agr X.n a E → Has X.w0 X.M w H →
  wpAnyC Try.prog .any ops.toArray (fun w => Has X.w0 X.M w Sf) ops.toArray.size (doneL (lift X Q) ops.toArray) fuel listed a w
def jaQ (X : Cx) (ops : List Oper) (Q : Post) (Sf : Heap) (fuel : Nat) (listed : Array Bool) : Post := fun e E H => match e with
  | .normal => (∃ ix : List Nat, ix.Nodup ∧ picks H ix = some Sf) ∧ JA X ops Q Sf fuel listed E H
  | _ => False
def JAs (X : Cx) (ops : List Oper) (Q : Post) (Sf : Heap) (fuel : Nat) (listed : Array Bool) (E : Env) (H : Heap) : List Nat → Prop
  | [] => True
  | i :: is => (∃ o, ops[i]? = some o ∧ JL X ops [o] (jaQ X ops Q Sf fuel (listed.setIfInBounds i true)) E H) ∧ JAs X ops Q Sf fuel listed E H is
theorem J_draw {id : Nat} {l : List Oper} {Sf : Heap} (h : JA X l Q Sf l.length (Array.replicate l.length false) E H) : J X (.region id l.toArray true) Q E H := by
  intro a w hA hH
  refine wp_region_any hmix ?_
  have inv0 : HeadInv .any l.toArray l.toArray.size (Array.replicate l.length false) :=
    ⟨by simp, fun j oj _ hl => (by rw [getD_replicate_false] at hl; cases hl), fun t _ ht => getD_in (by simpa using ht) (getD_replicate_false _ _)⟩
  have h1 := h a _ inv0 hA hH.drew
  have := wpAny_of_headC (Q' := lift X Q) (g := 0) (fun listed a w hL => ⟨hL.1, hL.2⟩) _ _ _ _ h1
  simpa using this
theorem JA_done {ops : List Oper} {Sf : Heap} {listed : Array Bool} (hr : Region.ready .any ops.toArray listed = []) (h : Q .normal E H) : JA X ops Q Sf 0 listed E H := fun _ _ _ hA hH => ⟨hr, E, H, hA, hH, h⟩
theorem JA_step {ops : List Oper} {Sf : Heap} {listed : Array Bool} {fuel : Nat} (i : Nat) (is : List Nat) (hr : Region.ready .any ops.toArray listed = i :: is) (hlt : (i :: is).all (fun k => decide (k < ops.length)) = true) (h : JAs X ops Q Sf fuel listed E H (i :: is)) : JA X ops Q Sf (fuel + 1) listed E H := by
  intro a w inv hA hH
  refine ⟨fun h0 => (by rw [hr] at h0; cases h0), ?_⟩
  have key : ∀ l : List Nat, (∀ j ∈ l, j ∈ Region.ready .any ops.toArray listed ∧ j < ops.toArray.size) → JAs X ops Q Sf fuel listed E H l → ∀ j ∈ l, j < ops.toArray.size ∧ wpOp Try.prog ops.toArray noExit j (fun a' w' => Has X.w0 X.M w' Sf ∧ wpAnyC Try.prog .any ops.toArray (fun w => Has X.w0 X.M w Sf) ops.toArray.size (doneL (lift X Q) ops.toArray) fuel (listed.setIfInBounds j true) a' w') a w := by
    intro l
    induction l with
    | nil => intro _ _ j hj; cases hj
    | cons k l ih =>
      rintro hl ⟨⟨o, ho, hk⟩, hrest⟩ j hj
      rcases List.mem_cons.1 hj with rfl | hj
      · obtain ⟨hjr, hjn⟩ := hl j (by simp)
        refine ⟨hjn, ?_⟩
        have h1 := hk a w hA hH
        refine wpOp_of_list ho h1 ?_ ?_
        · rintro a' w' ⟨E', H', hA', hH', ⟨ix, hix, hp⟩, hq⟩
          exact ⟨hH'.picks ix hix hp, hq a' w' (inv.set hjr hjn) hA' hH'⟩
        · rintro e a' w' hne ⟨E', H', hA', hH', hq⟩
          cases e with
          | normal => exact absurd rfl hne
          | _ => exact hq
      · exact ih (fun i hi => hl i (by simp [hi])) hrest j hj
  rw [hr] at key ⊢
  refine key (i :: is) (fun j hj => ⟨hj, ?_⟩) h
  have := (List.all_eq_true.1 hlt) j hj
  simpa using this
/-- What only reads, ahead. -/
theorem JA_pre {ops : List Oper} {Sf : Heap} {listed : Array Bool} {fuel : Nat} (order : List Nat) (hB : (Region.noSelect ops.toArray && stillB ops.toArray order listed) = true) (ix : List Nat) (hi : ix.Nodup) (hS : picks H ix = some Sf)
    (h : JW X ops (order.map fun k => (k, true)) Sf (fun E' H' => JA X ops Q Sf fuel (setAll order listed) E' H') E H) : JA X ops Q Sf (fuel + order.length) listed E H := by
  intro a w inv hA hH
  simp only [Bool.and_eq_true] at hB
  refine wpAnyC_pre hB.1 order listed a w inv (hH.picks ix hi hS) hB.2 ?_
  have h1 := h a w hA hH
  have hinv : ∀ (l : List Nat) (listed : Array Bool), HeadInv .any ops.toArray ops.toArray.size listed → stillB ops.toArray l listed = true → HeadInv .any ops.toArray ops.toArray.size (setAll l listed) := by
    intro l
    induction l with
    | nil => exact fun _ h _ => h
    | cons k l ih =>
      intro listed hv hb
      simp only [stillB, Bool.and_eq_true, decide_eq_true_eq] at hb
      obtain ⟨⟨⟨hkn, hr⟩, _⟩, hb'⟩ := hb
      exact ih _ (hv.set (by simpa using hr) hkn) hb'
  have hv := hinv order listed inv hB.2
  have mono : ∀ (Q1 Q2 : Act → World → Prop), (∀ a w, Q1 a w → Q2 a w) → ∀ (l : List Nat) a w, wpW Try.prog ops.toArray (fun w => Has X.w0 X.M w Sf) Q1 (l.map fun k => (k, true)) a w → wpW Try.prog ops.toArray (fun w => Has X.w0 X.M w Sf) Q2 (l.map fun k => (k, true)) a w := by
    intro Q1 Q2 hq l
    induction l with
    | nil => exact fun a w h => hq a w h
    | cons k l ih => rintro a w ⟨o, v, g1, g2, g3⟩; exact ⟨o, v, g1, g2, ih _ _ g3⟩
  refine mono _ _ ?_ order a w h1
  rintro a' w' ⟨E', H', hA', hH', hq⟩
  exact hq a' w' hv hA' hH'
theorem JA_set {ops : List Oper} {Sf : Heap} {listed : Array Bool} {fuel : Nat} (t : Nat) {v v' : Value} (hv : look E t = some v) (e : v = v') (h : JA X ops Q Sf fuel listed ((t, v') :: E) H) : JA X ops Q Sf fuel listed E H := fun a w inv hA hH => h a w inv (hA.set hv e) hH
/-- A cut behind which some things are only known to be there. -/
theorem J_cutE {σ : Type} {x y : Code} (F : σ → Env) (K : σ → Heap) (h1 : J X x (thenQ (fun E' H' => ∃ s, Ents E' (F s) ∧ Fit X H' (K s)) Q) E H) (h2 : ∀ s, J X y Q (F s) (K s)) : J X (.seq x y) Q E H := by
  refine J_seq (J_mono h1 ?_)
  intro e E' H' hq
  cases e with
  | normal => obtain ⟨s, h3, h4⟩ := hq; exact fun a w hA hH => h2 s a w (hA.ents _ h3) (h4 w hH)
  | _ => exact hq
end Go.Proofs.Ytbhfbpeldcnpfaa
