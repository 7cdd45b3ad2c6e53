/- The engine, its fourth part: the judgement and its rules for code and for operations that leave memory alone. -/
import Derived.Test.YtbhfbpeldcnpfaaEngB
namespace Go.Proofs.Ytbhfbpeldcnpfaa
open Go.RowKit

structure Cx where
  w0 : World
  M : List Nat
  n : FrC
abbrev Post := Exit → Env → Heap → Prop

def lift (X : Cx) (Q : Post) : Exit → Act → World → Prop := fun e a w => ∃ E H, Agr X.n a E ∧ Has X.w0 X.M w H ∧ Q e E H
/-- The judgement. -/
def J (X : Cx) (c : Code) (Q : Post) (E : Env) (H : Heap) : Prop :=
  ∀ a w, Agr X.n a E → Has X.w0 X.M w H → c.wp Try.prog (lift X Q) a w
def JL (X : Cx) (ops : List Oper) (l : List Oper) (Q : Post) (E : Env) (H : Heap) : Prop :=
  ∀ a w, Agr X.n a E → Has X.w0 X.M w H → wpList Try.prog ops.toArray (lift X Q) l a w
def thenQ (K : Env → Heap → Prop) (Q : Post) : Post
  | .normal, E, H => K E H
  | e, E, H => Q e E H
def blockQ (id : Nat) (Q : Post) : Post
  | .exit i, E, H => if i = id then Q .normal E H else Q (.exit i) E H
  | e, E, H => Q e E H
variable {X : Cx} {Q : Post} {E E' : Env} {H : Heap}

theorem J_seq {x y : Code} (h : J X x (thenQ (fun E H => J X y Q E H) Q) E H) : J X (.seq x y) Q E H := by
  intro a w hA hH
  refine wp_seq (wp_mono (h a w hA hH) ?_)
  rintro e a' w' ⟨E', H', hA', hH', hq⟩
  cases e with
  | normal => exact hq a' w' hA' hH'
  | _ => exact ⟨E', H', hA', hH', hq⟩
theorem J_skip (h : Q .normal E H) : J X .skip Q E H := fun _ _ hA hH => wp_skip ⟨E, H, hA, hH, h⟩
theorem J_ret (h : Q .ret E H) : J X .ret Q E H := fun _ _ hA hH => wp_ret ⟨E, H, hA, hH, h⟩
theorem J_exit {i : Nat} (h : Q (.exit i) E H) : J X (.exit i) Q E H := fun _ _ hA hH => wp_exit ⟨E, H, hA, hH, h⟩
theorem J_block {i : Nat} {c : Code} (h : J X c (blockQ i Q) E H) : J X (.block i c) Q E H := by
  intro a w hA hH
  refine wp_block (wp_mono (h a w hA hH) ?_)
  rintro e a' w' ⟨E', H', hA', hH', hq⟩
  cases e with
  | exit j =>
    simp only [Exit.inBlock]
    simp only [blockQ] at hq
    split
    · rename_i e; rw [if_pos e] at hq; exact ⟨E', H', hA', hH', hq⟩
    · rename_i e; rw [if_neg e] at hq; exact ⟨E', H', hA', hH', hq⟩
  | _ => exact ⟨E', H', hA', hH', hq⟩
/-- The temporary of a test, known from here on. -/
def known (c : Operand) (b : Bool) (E : Env) : Env := match c with
  | .tmp t => (t, .bool b) :: E
  | _ => E
theorem Agr.known {n : FrC} {a : Act} {c : Operand} {b : Bool} (hA : Agr n a E) (hv : Proofs.Ytbhfbpeldcnpfaa.val E c = some (.bool b)) : Agr n a (Proofs.Ytbhfbpeldcnpfaa.known c b E) := by
  cases c with
  | tmp t =>
    refine ⟨hA.size, hA.defers, fun u v hu => ?_⟩
    simp only [Proofs.Ytbhfbpeldcnpfaa.known, look] at hu
    cases hb : Nat.beq t u with
    | true =>
      obtain rfl := Nat.eq_of_beq_eq_true hb
      rw [hb] at hu
      simp only [cond_true, Option.some.injEq] at hu
      subst hu
      exact hA.get _ _ hv
    | false => rw [hb] at hu; exact hA.get u v hu
  | _ => exact hA
theorem J_cond {c : Operand} {x y : Code} {b : Bool} (hv : val E c = some (.bool b)) (ht : b = true → J X x Q (known c true E) H) (hf : b = false → J X y Q (known c false E) H) :
    J X (.cond c x y) Q E H := by
  intro a w hA hH
  refine wp_cond (hA.val hv) ?_
  cases b with
  | true => exact ht rfl a w (hA.known hv) hH
  | false => exact hf rfl a w (hA.known hv) hH
theorem J_dec {c : Operand} {x y : Code} {p : Prop} (hv : val E c = some (.bool (cdec p))) (ht : p → J X x Q (known c true E) H) (hf : ¬ p → J X y Q (known c false E) H) :
    J X (.cond c x y) Q E H := J_cond hv (fun h => ht (of_cdec h)) (fun h => hf (of_cdec_no h))
theorem J_yes {c : Operand} {x y : Code} (hv : val E c = some (.bool true)) (h : J X x Q E H) : J X (.cond c x y) Q E H :=
  fun a w hA hH => wp_cond_true (hA.val hv) (h a w hA hH)
theorem J_no {c : Operand} {x y : Code} (hv : val E c = some (.bool false)) (h : J X y Q E H) : J X (.cond c x y) Q E H :=
  fun a w hA hH => wp_cond_false (hA.val hv) (h a w hA hH)
/-- Forget, and put in another order. -/
theorem J_weak {c : Code} (F : Env) (K : Heap) (l : List Nat) (hF : Ents E F) (hl : l.Nodup) (hK : picks H l = some K) (h : J X c Q F K) : J X c Q E H :=
  fun a w hA hH => h a w (hA.ents F hF) (hH.picks l hl hK)
/-- A loop: what holds at every round's head, for a state 's'. -/
theorem J_loop {σ : Type} {c : Code} (F : σ → Env) (K : σ → Heap) (I : σ → Prop) (μ : σ → Nat) (s : σ) (l : List Nat) (hF : Ents E (F s)) (hl : l.Nodup) (hK : picks H l = some (K s)) (hI : I s)
    (round : ∀ s, I s → J X c (thenQ (fun E' H' => ∃ s' l', Ents E' (F s') ∧ l'.Nodup ∧ picks H' l' = some (K s') ∧ I s' ∧ μ s' < μ s) Q) (F s) (K s)) : J X (.loop c) Q E H := by
  intro a w hA hH
  refine wp_loop_ghost (fun k a w => ∃ s, k = μ s ∧ I s ∧ Agr X.n a (F s) ∧ Has X.w0 X.M w (K s)) (μ s) ⟨s, rfl, hI, hA.ents _ hF, hH.picks l hl hK⟩ ?_
  rintro k a w ⟨s, rfl, hI, hA, hH⟩
  refine wp_mono (round s hI a w hA hH) ?_
  rintro e a' w' ⟨E', H', hA', hH', hq⟩
  cases e with
  | normal =>
    obtain ⟨s', l', h1, h2, h3, h4, h5⟩ := hq
    exact ⟨μ s', h5, s', rfl, h4, hA'.ents _ h1, hH'.picks l' h2 h3⟩
  | _ => exact ⟨E', H', hA', hH', hq⟩
theorem J_region {id : Nat} {l : List Oper} (h : JL X l l Q E H) : J X (.region id l.toArray false) Q E H :=
  fun a w hA hH => wp_region_lit (h a w hA hH)
theorem JL_nil {ops : List Oper} (h : Q .normal E H) : JL X ops [] Q E H := fun _ _ hA hH => ⟨E, H, hA, hH, h⟩
theorem J_mono {c : Code} {Q' : Post} (h : J X c Q E H) (hq : ∀ e E H, Q e E H → Q' e E H) : J X c Q' E H :=
  fun a w hA hH => wp_mono (h a w hA hH) fun _ _ _ ⟨E, H, h1, h2, h3⟩ => ⟨E, H, h1, h2, hq _ _ _ h3⟩

/-! ### Operations that leave memory alone -/
def lit (gs : List Nat) (j : Nat) : Bool := match gs with
  | [] => false
  | i :: l => bif Nat.beq i 999 then true else bif Nat.beq i j then true else lit l j
/-- A guard: carried out or not; none: not known. -/
def gd (ops : List Oper) (gs : List Nat) (E : Env) : Option (Nat × Bool) → Option Bool
  | none => some true
  | some (j, want) => match lit gs j with
    | true => match ops[j]? with
      | some oj => match oj.dst with
        | some t => match look E t with
          | some (.bool b) => some (b == want)
          | some (.tuple _) => some false
          | _ => none
        | none => none
      | none => none
    | false => none
def putE (n : FrC) (d : Option Nat) (v : Value) (E : Env) : Option Env := match d with
  | none => some E
  | some d => match Nat.blt d n.len with
    | true => some ((d, v) :: E)
    | false => none
theorem Agr.putE {n : FrC} {a : Act} {d : Option Nat} {v : Value} (hA : Agr n a E) (h : putE n d v E = some E') : Agr n (a.put d v) E' := by
  cases d with
  | none => simp only [Proofs.Ytbhfbpeldcnpfaa.putE, Option.some.injEq] at h; subst h; exact hA
  | some d =>
    simp only [Proofs.Ytbhfbpeldcnpfaa.putE] at h
    split at h
    · rename_i hb
      simp only [Option.some.injEq] at h; subst h
      exact hA.put (by simpa using hb) v
    · cases h
theorem gd_wanted {n : FrC} {a : Act} {ops : List Oper} {gs : List Nat} {o : Oper} {b : Bool} (hA : Agr n a E) (h : gd ops gs E o.guard = some b) :
    Region.wanted o (yielded ops.toArray a.tmps) = b := by
  unfold Region.wanted
  unfold gd at h
  split at h
  · rename_i hg; simp only [Option.some.injEq] at h; subst h; simp [hg]
  · rename_i j want hg
    simp only [hg]
    split at h
    · split at h
      · rename_i oj hoj
        split at h
        · rename_i t ht
          split at h
          · rename_i b' hb'
            simp only [Option.some.injEq] at h
            subst h
            have := hA.get _ _ hb'
            have hy : yielded ops.toArray a.tmps j = some b' := by simp [yielded, hoj, ht, this]
            rw [hy]
            cases b' <;> cases want <;> rfl
          · rename_i vs hb'
            simp only [Option.some.injEq] at h
            subst h
            have := hA.get _ _ hb'
            have hy : yielded ops.toArray a.tmps j = none := by simp [yielded, hoj, ht, this]
            rw [hy]; rfl
          · cases h
        · cases h
      · cases h
    · cases h

/-- The operation answers 'v' and leaves memory alone. -/
def OpV (X : Cx) (o : Oper) (E : Env) (H : Heap) (v : Value) : Prop :=
  ∀ a w, Agr X.n a E → Has X.w0 X.M w H → (execOp a.eval o).run Try.prog w = .ok (.value v) w
theorem OpV_pure {o : Oper} {v : Value} (h : evP E o.op = some v) : OpV X o E H v := fun _ w hA _ => evP_run h hA o.dst o.type o.pos o.after o.guard w

def bef (n : FrC) (ops : List Oper) (gs : List Nat) (E : Env) (o : Oper) (v : Value) : Option Env := match gd ops gs E o.guard with
  | some true => putE n o.dst v E
  | _ => none
theorem bef_spec {n : FrC} {ops : List Oper} {gs : List Nat} {o : Oper} {v : Value} (h : bef n ops gs E o v = some E') : gd ops gs E o.guard = some true ∧ putE n o.dst v E = some E' := by
  unfold bef at h
  split at h
  · rename_i hg; exact ⟨hg, h⟩
  · cases h

theorem JL_val {ops l : List Oper} {o : Oper} {v : Value} (gs : List Nat) (hv : OpV X o E H v) (hb : bef X.n ops gs E o v = some E') (h : JL X ops l Q E' H) : JL X ops (o :: l) Q E H := by
  intro a w hA hH
  obtain ⟨hg, hp⟩ := bef_spec hb
  unfold wpList
  rw [if_pos (gd_wanted hA hg)]
  left
  show o.upon _ a _ _ ((execOp a.eval o).run _ w)
  rw [hv a w hA hH]
  exact h _ _ (hA.putE hp) hH
/-- A guarded operation that is not carried out. -/
theorem JL_pass {ops l : List Oper} {o : Oper} (gs : List Nat) (hg : gd ops gs E o.guard = some false) (hp : putE X.n o.dst undef E = some E') (h : JL X ops l Q E' H) : JL X ops (o :: l) Q E H := by
  intro a w hA hH
  unfold wpList
  rw [if_neg (by rw [gd_wanted hA hg]; decide)]
  exact h _ _ (hA.putE hp) hH

/-- One operation, if it only reckons: what is known behind it. -/
noncomputable def evO (n : FrC) (ops : List Oper) (gs : List Nat) (E : Env) (o : Oper) : Option Env := match gd ops gs E o.guard with
  | some true => match evP E o.op with
    | some v => putE n o.dst v E
    | none => none
  | some false => putE n o.dst undef E
  | none => none
/-- As many operations as only reckon. -/
noncomputable def evL (n : FrC) (ops : List Oper) (gs : List Nat) (E : Env) : List Oper → Env × List Oper
  | [] => (E, [])
  | o :: l => match evO n ops gs E o with
    | some E' => evL n ops gs E' l
    | none => (E, o :: l)
theorem JL_evO {ops l : List Oper} {o : Oper} {gs : List Nat} (he : evO X.n ops gs E o = some E') (h : JL X ops l Q E' H) : JL X ops (o :: l) Q E H := by
  unfold evO at he
  split at he
  · rename_i hg
    split at he
    · rename_i v hv
      exact JL_val gs (OpV_pure hv) (by unfold bef; rw [hg]; exact he) h
    · cases he
  · rename_i hg; exact JL_pass gs hg he h
  · cases he
theorem JL_run {ops l' : List Oper} (gs : List Nat) : ∀ {l : List Oper} {E : Env}, evL X.n ops gs E l = (E', l') → JL X ops l' Q E' H → JL X ops l Q E H
  | [], E, h, k => by
    simp only [evL, Prod.mk.injEq] at h
    obtain ⟨rfl, rfl⟩ := h
    exact k
  | o :: l, E, h, k => by
    unfold evL at h
    split at h
    · rename_i E1 h1; exact JL_evO h1 (JL_run gs h k)
    · simp only [Prod.mk.injEq] at h
      obtain ⟨rfl, rfl⟩ := h
      exact k
theorem JL_all {ops : List Oper} (gs : List Nat) {l : List Oper} (h : evL X.n ops gs E l = (E', [])) (k : Q .normal E' H) : JL X ops l Q E H := JL_run gs h (JL_nil k)
/-- A guard that is not known: both ways. 'j': the operation that it asks. -/
theorem JL_guard {ops l : List Oper} {oj : Oper} {t : Nat} {b : Bool} (j : Nat) (_hj : ops[j]? = some oj) (_ht : oj.dst = some t) (hv : look E t = some (.bool b))
    (h1 : b = true → JL X ops l Q ((t, .bool true) :: E) H) (h0 : b = false → JL X ops l Q ((t, .bool false) :: E) H) : JL X ops l Q E H := by
  intro a w hA hH
  cases b with
  | true => exact h1 rfl a w (Agr.known (c := .tmp t) hA hv) hH
  | false => exact h0 rfl a w (Agr.known (c := .tmp t) hA hv) hH
theorem JL_guardd {ops l : List Oper} {oj : Oper} {t : Nat} {p : Prop} (j : Nat) (hj : ops[j]? = some oj) (ht : oj.dst = some t) (hv : look E t = some (.bool (cdec p)))
    (h1 : p → JL X ops l Q ((t, .bool true) :: E) H) (h0 : ¬ p → JL X ops l Q ((t, .bool false) :: E) H) : JL X ops l Q E H :=
  JL_guard j hj ht hv (fun h => h1 (of_cdec h)) (fun h => h0 (of_cdec_no h))

/-- The same for the guard of the next operation. -/
theorem JL_splitd {ops l : List Oper} {o oj : Oper} {j t : Nat} {want : Bool} {p : Prop} (_hg : o.guard = some (j, want)) (hj : ops[j]? = some oj) (ht : oj.dst = some t) (hv : look E t = some (.bool (cdec p)))
    (h1 : p → JL X ops (o :: l) Q ((t, .bool true) :: E) H) (h0 : ¬ p → JL X ops (o :: l) Q ((t, .bool false) :: E) H) : JL X ops (o :: l) Q E H := JL_guardd j hj ht hv h1 h0
theorem JL_split {ops l : List Oper} {o oj : Oper} {j t : Nat} {want : Bool} {b : Bool} (_hg : o.guard = some (j, want)) (hj : ops[j]? = some oj) (ht : oj.dst = some t) (hv : look E t = some (.bool b))
    (h1 : b = true → JL X ops (o :: l) Q ((t, .bool true) :: E) H) (h0 : b = false → JL X ops (o :: l) Q ((t, .bool false) :: E) H) : JL X ops (o :: l) Q E H := JL_guard j hj ht hv h1 h0
/-- What a temporary holds, said in another way. -/
theorem Agr.set {n : FrC} {a : Act} {t : Nat} {v v' : Value} (hA : Agr n a E) (hv : look E t = some v) (e : v = v') : Agr n a ((t, v') :: E) := by
  subst e
  refine ⟨hA.size, hA.defers, fun u x hu => ?_⟩
  simp only [look] at hu
  cases hb : Nat.beq t u with
  | true =>
    obtain rfl := Nat.eq_of_beq_eq_true hb
    rw [hb] at hu
    simp only [cond_true, Option.some.injEq] at hu
    subst hu
    exact hA.get _ _ hv
  | false => rw [hb] at hu; exact hA.get u x hu
theorem JL_set {ops l : List Oper} (t : Nat) {v v' : Value} (hv : look E t = some v) (e : v = v') (h : JL X ops l Q ((t, v') :: E) H) : JL X ops l Q E H := fun a w hA hH => h a w (hA.set hv e) hH
theorem J_set {c : Code} (t : Nat) {v v' : Value} (hv : look E t = some v) (e : v = v') (h : J X c Q ((t, v') :: E) H) : J X c Q E H := fun a w hA hH => h a w (hA.set hv e) hH
/-- The ways meet again: behind 'k' operations this is known. -/
theorem wpList_app {ops : Array Oper} {R R' : Exit → Act → World → Prop} : ∀ (l1 l2 : List Oper) (a : Act) (w : World), wpList Try.prog ops R l1 a w → (∀ a w, R .normal a w → wpList Try.prog ops R' l2 a w) → (∀ e a w, e ≠ .normal → R e a w → R' e a w) →
    wpList Try.prog ops R' (l1 ++ l2) a w
  | [], l2, a, w, h, k, _ => k a w h
  | o :: l1, l2, a, w, h, k, hq => by
    unfold wpList at h
    show wpList Try.prog ops R' (o :: (l1 ++ l2)) a w
    unfold wpList
    split
    · rename_i hw
      rw [if_pos hw] at h
      rcases h with h | ⟨h1, h2⟩
      · left
        unfold Oper.wp at h ⊢
        generalize (execOp a.eval o).run Try.prog w = r at *
        have hn := fun a w h => wpList_app l1 l2 a w h k hq
        cases r with
        | ok x w' =>
          cases x <;> simp only [Oper.upon] at h ⊢ <;> first | exact hn _ _ h | exact h.elim | skip
          · refine h.mono fun e w'' he => ?_
            cases e with
            | returned v => exact hn _ _ he
            | panicked ch => exact hq _ _ _ (by simp) he
            | outgrown => obtain ⟨a0, w0, h0⟩ := he; exact ⟨a0, w0, hq _ _ _ (by simp) h0⟩
          · exact h.mono fun v w'' he => hn _ _ he
        | halt x w' =>
          cases x <;> simp only [Oper.upon] at h ⊢
          exact hq _ _ _ (by simp) h
      · right
        obtain ⟨a0, w0, h0⟩ := h2
        exact ⟨h1, a0, w0, hq _ _ _ (by simp) h0⟩
    · rename_i hw
      rw [if_neg hw] at h
      exact wpList_app l1 l2 _ _ h k hq
theorem JL_cut {ops l : List Oper} (k : Nat) (F : Env) (K : Heap) (h1 : JL X ops (l.take k) (thenQ (fun E' H' => ∃ ix : List Nat, Ents E' F ∧ ix.Nodup ∧ picks H' ix = some K) Q) E H) (h2 : JL X ops (l.drop k) Q F K) : JL X ops l Q E H := by
  intro a w hA hH
  rw [← List.take_append_drop k l]
  refine wpList_app _ _ a w (h1 a w hA hH) ?_ ?_
  · rintro a' w' ⟨E', H', hA', hH', ix, h3, h4, h5⟩
    exact h2 a' w' (hA'.ents F h3) (hH'.picks ix h4 h5)
  · rintro e a' w' hne ⟨E', H', hA', hH', hq⟩
    cases e with
    | normal => exact absurd rfl hne
    | _ => exact ⟨E', H', hA', hH', hq⟩
theorem J_cut {x y : Code} (F : Env) (K : Heap) (h1 : J X x (thenQ (fun E' H' => ∃ ix : List Nat, Ents E' F ∧ ix.Nodup ∧ picks H' ix = some K) Q) E H) (h2 : J X y Q F K) : J X (.seq x y) Q E H := by
  refine J_seq (J_mono h1 ?_)
  intro e E' H' hq
  cases e with
  | normal => obtain ⟨ix, h3, h4, h5⟩ := hq; exact J_weak F K ix h3 h4 h5 h2
  | _ => exact hq

/-! ### Regions that draw their order -/
theorem hmix : Try.prog.follows .mixedOrders = true := by kernel_rfl
def JQ (X : Cx) (ops : List Oper) (l : List Oper) (H : Heap) (K : Env → Prop) (E : Env) : Prop :=
  ∀ a, Agr X.n a E → wpQuiet Try.prog ops.toArray (fun w => Has X.w0 X.M w H) (fun a' => ∃ E', Agr X.n a' E' ∧ K E') l a
theorem J_quiet {id : Nat} {l : List Oper} (hB : Region.lexB .any l.toArray = true) (h : JQ X l l H (fun E => Q .normal E H) E) : J X (.region id l.toArray true) Q E H := by
  intro a w hA hH
  refine wp_region_quiet (C := fun w => Has X.w0 X.M w H) hmix hB hH.drew ?_
  have := h a hA
  simp only []
  refine (?_ : ∀ (Q1 Q2 : Act → Prop), (∀ a, Q1 a → Q2 a) → ∀ l a, wpQuiet Try.prog _ (fun w => Has X.w0 X.M w H) Q1 l a → wpQuiet Try.prog _ (fun w => Has X.w0 X.M w H) Q2 l a) _ _ ?_ l a this
  · intro Q1 Q2 hq l
    induction l with
    | nil => exact fun a h => hq a h
    | cons o l ih =>
      intro a h
      unfold wpQuiet at h ⊢
      split
      · rename_i hw; rw [if_pos hw] at h; exact Oper.quiet_mono ih h
      · rename_i hw; rw [if_neg hw] at h; exact ih _ h
  · rintro a ⟨E', hA', hq⟩ w' hw'
    exact ⟨E', H, hA', hw', hq⟩
theorem JQ_nil {ops : List Oper} {K : Env → Prop} (h : K E) : JQ X ops [] H K E := fun _ hA => ⟨E, hA, h⟩
theorem JQ_val {ops l : List Oper} {o : Oper} {v : Value} {K : Env → Prop} (gs : List Nat) (hv : OpV X o E H v) (hb : bef X.n ops gs E o v = some E') (h : JQ X ops l H K E') : JQ X ops (o :: l) H K E := by
  intro a hA
  obtain ⟨hg, hp⟩ := bef_spec hb
  unfold wpQuiet
  rw [if_pos (gd_wanted hA hg)]
  refine ⟨v, fun w hw => ?_, h _ (hA.putE hp)⟩
  unfold Oper.quietAt
  rw [hv a w hA hw]
  exact ⟨rfl, rfl⟩
theorem JQ_evO {ops l : List Oper} {o : Oper} {gs : List Nat} {K : Env → Prop} (he : evO X.n ops gs E o = some E') (h : JQ X ops l H K E') : JQ X ops (o :: l) H K E := by
  unfold evO at he
  split at he
  · rename_i hg
    split at he
    · rename_i v hv
      exact JQ_val gs (OpV_pure hv) (by unfold bef; rw [hg]; exact he) h
    · cases he
  · rename_i hg
    intro a hA
    unfold wpQuiet
    rw [if_neg (by rw [gd_wanted hA hg]; decide)]
    exact h _ (hA.putE he)
  · cases he
theorem JQ_run {ops l' : List Oper} {K : Env → Prop} (gs : List Nat) : ∀ {l : List Oper} {E : Env}, evL X.n ops gs E l = (E', l') → JQ X ops l' H K E' → JQ X ops l H K E
  | [], E, h, k => by
    simp only [evL, Prod.mk.injEq] at h
    obtain ⟨rfl, rfl⟩ := h
    exact k
  | o :: l, E, h, k => by
    unfold evL at h
    split at h
    · rename_i E1 h1; exact JQ_evO h1 (JQ_run gs h k)
    · simp only [Prod.mk.injEq] at h
      obtain ⟨rfl, rfl⟩ := h
      exact k
/-- The head only reads; the tail has one order. -/
def JS (X : Cx) (ops : List Oper) (l : List Oper) (H : Heap) (K : Env → Prop) (E : Env) : Prop :=
  ∀ a w, Agr X.n a E → Has X.w0 X.M w H → wpStill Try.prog ops.toArray w (fun a' => ∃ E', Agr X.n a' E' ∧ K E') l a
theorem J_still {id : Nat} {l : List Oper} (k : Nat) (hB : Region.lexTailB .any l.toArray k = true) (h : JS X l (l.take k) H (fun E => JL X l (l.drop k) Q E H) E) : J X (.region id l.toArray true) Q E H := by
  intro a w hA hH
  refine wp_region_still_tail k hmix hB ?_
  have := h a _ hA hH.drew
  refine (?_ : ∀ (Q1 Q2 : Act → Prop), (∀ a, Q1 a → Q2 a) → ∀ l a, wpStill Try.prog _ _ Q1 l a → wpStill Try.prog _ _ Q2 l a) _ _ ?_ _ a this
  · intro Q1 Q2 hq l
    induction l with
    | nil => exact fun a h => hq a h
    | cons o l ih =>
      intro a h
      unfold wpStill at h ⊢
      split
      · rename_i hw; rw [if_pos hw] at h; exact Oper.still_mono ih h
      · rename_i hw; rw [if_neg hw] at h; exact ih _ h
  · rintro a ⟨E', hA', hq⟩
    exact hq a _ hA' hH.drew
theorem JS_nil {ops : List Oper} {K : Env → Prop} (h : K E) : JS X ops [] H K E := fun _ _ hA _ => ⟨E, hA, h⟩
theorem JS_val {ops l : List Oper} {o : Oper} {v : Value} {K : Env → Prop} (gs : List Nat) (hv : OpV X o E H v) (hb : bef X.n ops gs E o v = some E') (h : JS X ops l H K E') : JS X ops (o :: l) H K E := by
  intro a w hA hH
  obtain ⟨hg, hp⟩ := bef_spec hb
  unfold wpStill
  rw [if_pos (gd_wanted hA hg)]
  unfold Oper.still
  rw [hv a w hA hH]
  exact ⟨rfl, h _ w (hA.putE hp) hH⟩
theorem JS_evO {ops l : List Oper} {o : Oper} {gs : List Nat} {K : Env → Prop} (he : evO X.n ops gs E o = some E') (h : JS X ops l H K E') : JS X ops (o :: l) H K E := by
  unfold evO at he
  split at he
  · rename_i hg
    split at he
    · rename_i v hv
      exact JS_val gs (OpV_pure hv) (by unfold bef; rw [hg]; exact he) h
    · cases he
  · rename_i hg
    intro a w hA hH
    unfold wpStill
    rw [if_neg (by rw [gd_wanted hA hg]; decide)]
    exact h _ w (hA.putE he) hH
  · cases he
theorem JS_run {ops l' : List Oper} {K : Env → Prop} (gs : List Nat) : ∀ {l : List Oper} {E : Env}, evL X.n ops gs E l = (E', l') → JS X ops l' H K E' → JS X ops l H K E
  | [], E, h, k => by
    simp only [evL, Prod.mk.injEq] at h
    obtain ⟨rfl, rfl⟩ := h
    exact k
  | o :: l, E, h, k => by
    unfold evL at h
    split at h
    · rename_i E1 h1; exact JS_evO h1 (JS_run gs h k)
    · simp only [Prod.mk.injEq] at h
      obtain ⟨rfl, rfl⟩ := h
      exact k

/-! ### Functions -/
def initE : Nat → List Value → Env
  | _, [] => []
  | i, v :: l => (i, v) :: initE (i + 1) l
def resE (E : Env) : List ResultVar → Option (List Value)
  | [] => some []
  | .tmp t :: l => match look E t with
    | some v => match resE E l with
      | some vs => some (v :: vs)
      | none => none
    | none => none
  | _ => none
def pack : List Value → Value
  | [v] => v
  | vs => .tuple vs.toArray
/-- What a call promises: called in a world with these pieces, it comes back, with a value and pieces of which 'R' holds; of older blocks it writes those of 'M' alone. -/
def Fn (f : FuncId) (args : List Value) (M : List Nat) (H : Heap) (R : Value → Heap → Prop) : Prop :=
  ∀ w, Has w M w H → Calls Try.prog f args.toArray w fun e w' => ∃ v H', e = .returned v ∧ Has w M w' H' ∧ R v H'
def retQ (rs : List ResultVar) (R : Value → Heap → Prop) : Post := fun e E H => match e with
  | .normal => ∃ vs, resE E rs = some vs ∧ R (pack vs) H
  | .ret => ∃ vs, resE E rs = some vs ∧ R (pack vs) H
  | _ => False
theorem look_initE : ∀ (args : List Value) (i t : Nat) (v : Value), look (initE i args) t = some v → i ≤ t ∧ args[t - i]? = some v
  | [], i, t, v, h => by simp [initE, look] at h
  | u :: args, i, t, v, h => by
    unfold initE look at h
    cases hb : Nat.beq i t with
    | true =>
      obtain rfl := Nat.eq_of_beq_eq_true hb
      rw [hb] at h
      simp only [cond_true, Option.some.injEq] at h
      subst h
      simp
    | false =>
      rw [hb] at h
      have ih := look_initE args (i + 1) t v h
      refine ⟨by omega, ?_⟩
      have : t - i = (t - (i + 1)) + 1 := by omega
      rw [this, List.getElem?_cons_succ]
      exact ih.2
def resOne (tmps : Array Value) : ResultVar → Sem Value
  | .tmp t => pure (tmps.getD t undef)
  | .cell addr t => do loadVar t (← asAddr (tmps.getD addr undef))
theorem resE_run {a : Act} {n : FrC} (hA : Agr n a E) : ∀ (rs : List ResultVar) (vs : List Value), resE E rs = some vs → ∀ w,
    (rs.mapM (m := Sem) (resOne a.tmps)).run Try.prog w = .ok vs w
  | [], vs, h, w => by simp [resE] at h; simp [h]
  | .tmp t :: l, vs, h, w => by
    unfold resE at h
    split at h
    · rename_i v hv
      split at h
      · rename_i us hus
        simp only [Option.some.injEq] at h
        subst h
        have h1 := hA.get _ _ hv
        have h2 := resE_run hA l us hus w
        rw [List.mapM_cons]
        simp [resOne, h2, Array.getD_eq_getD_getElem?, h1]
      · cases h
    · cases h
  | .cell a t :: l, vs, h, w => by simp [resE] at h
theorem results_run {a : Act} {n : FrC} (hA : Agr n a E) {fn : Func} {vs : List Value} (h : resE E fn.results.toList = some vs) (w : World) :
    (results fn a.tmps).run Try.prog w = .ok (pack vs) w := by
  have e : results fn a.tmps = (do let vs ← fn.results.mapM (resOne a.tmps); pure (if h : vs.size = 1 then vs[0] else .tuple vs)) := rfl
  rw [e, Array.mapM_eq_mapM_toList]
  simp only [map_eq_pure_bind, bind_assoc, pure_bind, Sem.run_bind, resE_run hA _ _ h w]
  show Result.ok (if h : vs.toArray.size = 1 then vs.toArray[0] else Value.tuple vs.toArray) w = _
  congr 1
  match vs with
  | [] => rfl
  | [v] => rfl
  | u :: v :: l =>
    have : ¬ (u :: v :: l).toArray.size = 1 := by simp
    rw [dif_neg this]
    rfl
theorem agr_init {n : Nat} {args : List Value} (hn : Nat.ble args.length n = true) : Agr ⟨n, []⟩ { tmps := args.toArray ++ Array.replicate (n - args.toArray.size) undef, defers := [] } (initE 0 args) := by
  have hn := Nat.le_of_ble_eq_true hn
  refine ⟨by simp; omega, rfl, fun t v hv => ?_⟩
  have := (look_initE args 0 t v hv).2
  simp only [Nat.sub_zero] at this
  have hl := (List.getElem?_eq_some_iff.1 this).1
  rw [Array.getElem?_append_left (by simpa using hl)]
  simpa using this
/-- A function by its body. -/
theorem Fn_of {f : FuncId} {fn : Func} {c : Code} {args : List Value} {M : List Nat} {R : Value → Heap → Prop} (hf : Try.prog.funcs[f]? = some fn) (hb : fn.body = some c) (hn : Nat.ble args.length fn.ntmps = true)
    (h : ∀ w0, J ⟨w0, M, ⟨fn.ntmps, []⟩⟩ c (retQ fn.results.toList R) (initE 0 args) H) : Fn f args M H R := by
  intro w hH
  refine calls_of_wp hf hb ?_
  have hA := agr_init (args := args) hn
  refine wp_mono (h w _ w hA hH) ?_
  rintro e a w' ⟨E', H', hA', hH', hq⟩
  cases e with
  | normal =>
    obtain ⟨vs, h1, h2⟩ := hq
    exact ⟨hA'.defers, pack vs, results_run hA' h1 w', pack vs, H', rfl, hH', h2⟩
  | ret =>
    obtain ⟨vs, h1, h2⟩ := hq
    exact ⟨hA'.defers, pack vs, results_run hA' h1 w', pack vs, H', rfl, hH', h2⟩
  | _ => exact hq.elim
theorem Fn.mono {f : FuncId} {args : List Value} {M : List Nat} {R R' : Value → Heap → Prop} (h : Fn f args M H R) (hr : ∀ v H', R v H' → R' v H') : Fn f args M H R' :=
  fun w hw => (h w hw).mono fun _ _ ⟨v, H', h1, h2, h3⟩ => ⟨v, H', h1, h2, hr _ _ h3⟩
end Go.Proofs.Ytbhfbpeldcnpfaa
