/- The engine, its tenth part: regions that draw their order, with loads that may come at any time and effects that come one behind the other. -/
import Derived.Test.YtbhfbpeldcnpfaaData
namespace Go.Proofs.Ytbhfbpeldcnpfaa
open Go.RowKit
section
variable {P : Program} {ops : Array Oper} {md : Region.Mode} {S : World → Prop} {F : Exit → Act → World → Prop}
/-- In every world of the class the operation yields this, and leaves the world. -/
def YS (P : Program) (ops : Array Oper) (S : World → Prop) (o : Oper) (v : Value) (a : Act) : Prop :=
  (Region.wanted o (yielded ops a.tmps) = true ∧ ∀ w, S w → (execOp a.eval o).run P w = .ok (.value v) w) ∨ (Region.wanted o (yielded ops a.tmps) = false ∧ v = undef)
theorem YS.of_same {o : Oper} {v : Value} {a a' : Act} (hy : YS P ops S o v a) (he : execOp a'.eval o = execOp a.eval o) (hw : Region.wanted o (yielded ops a'.tmps) = Region.wanted o (yielded ops a.tmps)) : YS P ops S o v a' := by
  unfold YS at *; rw [he, hw]; exact hy
theorem YS.wpOp {i : Nat} {o : Oper} {v : Value} {a : Act} {w : World} {K : Act → World → Prop} (hi : ops[i]? = some o) (hy : YS P ops S o v a) (hw : S w) (h : K (a.put o.dst v) w) : wpOp P ops F i K a w := by
  unfold Go.wpOp
  simp only [hi]
  rcases hy with ⟨h1, h2⟩ | ⟨h1, rfl⟩
  · rw [if_pos h1]; left; unfold Oper.wp; rw [h2 w hw]; exact h
  · rw [if_neg (by rw [h1]; decide)]; exact h
/-- No way out. -/
def noExit : Exit → Act → World → Prop := fun _ _ _ => False
theorem wpOp_put {j : Nat} {oi oj : Oper} {v : Value} (hj : ops[j]? = some oj) (hap : oi.apart ops oj = true) (hsi : ∀ cs b, oi.op ≠ .select cs b) (hsj : ∀ cs b, oj.op ≠ .select cs b) {K : Act → World → Prop} {a : Act} {w : World}
    (hy : YS P ops S oi v a) (h : wpOp P ops noExit j K (a.put oi.dst v) w) : wpOp P ops noExit j (fun a' w' => YS P ops S oi v a' ∧ K (a'.put oi.dst v) w') a w := by
  obtain ⟨h1, h2, h3⟩ := Oper.apart_spec hap
  have keep : ∀ (a : Act), YS P ops S oi v a → ∀ u, YS P ops S oi v (a.put oj.dst u) := fun a hy u => hy.of_same (execOp_put oi hsi a oj.dst u h3) (wanted_put oi a oj.dst u h3)
  have keepd : ∀ (a : Act) (d : Deferred), YS P ops S oi v a → YS P ops S oi v { a with defers := d :: a.defers } := fun a d hy => hy
  unfold wpOp at *
  simp only [hj] at *
  rw [wanted_put oj a oi.dst v h1] at h
  split
  · rename_i hw
    rw [if_pos hw] at h
    rcases h with h | ⟨_, _, _, h⟩
    · left
      unfold Oper.wp at *
      rw [execOp_put oj hsj a oi.dst v h1] at h
      generalize (execOp a.eval oj).run P w = r at *
      cases r with
      | ok n w' =>
        cases n <;> simp only [Oper.upon] at h ⊢
        case value u => exact ⟨keep a hy u, by rw [← Act.put_comm a v u h2]; exact h⟩
        case skip => exact ⟨keep a hy _, by rw [← Act.put_comm a v undef h2]; exact h⟩
        case defer d =>
          have e : ({ a.put oi.dst v with defers := d :: (a.put oi.dst v).defers } : Act) = ({ a with defers := d :: a.defers } : Act).put oi.dst v := by cases oi.dst <;> rfl
          exact ⟨keep _ (keepd a d hy) _, by rw [← Act.put_comm _ v undef h2, ← e]; exact h⟩
        case enter f args =>
          refine h.mono fun e w'' he => ?_
          cases e with
          | returned u => exact ⟨keep a hy u, by rw [← Act.put_comm a v u h2]; exact he⟩
          | panicked ch => exact he
          | outgrown => exact he
        case row r args => exact h.mono fun u w'' hu => ⟨keep a hy u, by rw [← Act.put_comm a v u h2]; exact hu⟩
      | halt x w' => cases x <;> simp only [Oper.upon] at h ⊢ <;> exact h
    · exact h.elim
  · rename_i hw
    rw [if_neg hw] at h
    exact ⟨keep a hy _, by rw [← Act.put_comm a v undef h2]; exact h⟩
/-- Whatever order is picked, over the head of the region. -/
def wpAnyC (P : Program) (md : Region.Mode) (ops : Array Oper) (S : World → Prop) (n : Nat) (L : Array Bool → Act → World → Prop) : Nat → Array Bool → Act → World → Prop
  | 0, listed, a, w => L listed a w
  | f + 1, listed, a, w => Region.ready md ops listed ≠ [] ∧ ∀ i ∈ Region.ready md ops listed, i < n ∧ wpOp P ops noExit i (fun a' w' => S w' ∧ wpAnyC P md ops S n L f (listed.setIfInBounds i true) a' w') a w
theorem wpOp_exits {i : Nat} {K : Act → World → Prop} {Q1 Q' : Exit → Act → World → Prop} {a : Act} {w : World} (hno : ∀ e a w, e ≠ .normal → ¬ Q1 e a w) (h : wpOp P ops Q1 i K a w) : wpOp P ops Q' i K a w := by
  unfold wpOp at *
  split
  · rename_i ho; simp only [ho] at h; exact h
  · rename_i o ho
    simp only [ho] at h
    split
    · rename_i hw
      rw [if_pos hw] at h
      rcases h with h | ⟨_, a1, w1, h⟩
      · left
        unfold Oper.wp at *
        generalize (execOp a.eval o).run P w = r at *
        cases r with
        | ok n w' =>
          cases n <;> simp only [Oper.upon] at h ⊢
          case enter f args =>
            refine h.mono fun e w'' he => ?_
            cases e with
            | returned u => exact he
            | panicked ch => exact (hno _ _ _ (by simp) he).elim
            | outgrown => obtain ⟨_, _, h⟩ := he; exact (hno _ _ _ (by simp) h).elim
          all_goals exact h
        | halt x w' => cases x <;> simp only [Oper.upon] at h ⊢ <;> exact (hno _ _ _ (by simp) h).elim
      · exact (hno _ _ _ (by simp) h).elim
    · rename_i hw; rw [if_neg hw] at h; exact h
theorem wpAny_of_headC {n g : Nat} {L : Array Bool → Act → World → Prop} {Q' : Exit → Act → World → Prop} (hL : ∀ listed a w, L listed a w → wpAny P md ops Q' g listed a w) :
    ∀ (f : Nat) (listed : Array Bool) (a : Act) (w : World), wpAnyC P md ops S n L f listed a w → wpAny P md ops Q' (f + g) listed a w
  | 0, listed, a, w, h => by rw [Nat.zero_add]; exact hL _ _ _ h
  | f + 1, listed, a, w, h => by
    rw [show f + 1 + g = (f + g) + 1 by omega]
    exact ⟨fun h0 => absurd h0 h.1, fun i hi => wpOp_exits (fun _ _ _ _ h => h) (wpOp_mono (fun a' w' h' => wpAny_of_headC hL f _ a' w' h'.2) (h.2 i hi).2)⟩
/-- Behind the head comes a tail of one order, or nothing. -/
def tailB (md : Region.Mode) (ops : Array Oper) (n : Nat) : Bool := decide (n = ops.size) || (decide (n < ops.size) && Region.sinkB md ops n && Region.chainB md ops n)
theorem tailB_waits {n : Nat} {listed : Array Bool} (ht : tailB md ops n = true) (inv : HeadInv md ops n listed) {i : Nat} (hin : i < n) (hun : listed.getD i true = false) : ∀ j ∈ Region.ready md ops listed, j < n := by
  intro j hj
  simp only [tailB, Bool.or_eq_true, Bool.and_eq_true, decide_eq_true_eq] at ht
  rcases ht with ht | ⟨⟨hn, hs⟩, hc⟩
  · obtain ⟨_, o, ho, _⟩ := mem_ready.1 hj
    have := (Array.getElem?_eq_some_iff.1 ho).1
    omega
  · rcases Nat.lt_or_ge j n with h | h
    · exact h
    · exact absurd hj (tail_waits hs hc hn inv _ i rfl hin hun j h)
theorem wpAnyC_first {n i : Nat} {oi : Oper} {v : Value} {L : Array Bool → Act → World → Prop} (hi : ops[i]? = some oi) (hsel : ∀ (j : Nat) (o : Oper) cs b, ops[j]? = some o → o.op ≠ .select cs b)
    (ht : tailB md ops n = true) (hin : i < n) (hdone : ∀ listed a w, L listed a w → ∀ j ∈ Region.ready md ops listed, n ≤ j) :
    ∀ (f : Nat) (listed : Array Bool) (a : Act) (w : World), HeadInv md ops n listed →
      (∀ j oj, ops[j]? = some oj → j ≠ i → listed.getD j true = false → (∀ e ∈ oj.after, Region.binds md e = true → e.on ≠ i) → oi.apart ops oj = true) →
      i ∈ Region.ready md ops listed → YS P ops S oi v a → S w →
      wpAnyC P md ops S n L f (listed.setIfInBounds i true) (a.put oi.dst v) w → wpAnyC P md ops S n L (f + 1) listed a w := by
  intro f
  induction f with
  | zero =>
    intro listed a w inv _ hr hy hS H
    have hun := (mem_ready.1 hr).1
    refine ⟨fun h => (by rw [h] at hr; cases hr), fun j hj => ?_⟩
    have hjn := tailB_waits ht inv hin hun j hj
    refine ⟨hjn, ?_⟩
    by_cases hji : j = i
    · subst hji; exact hy.wpOp hi hS ⟨hS, H⟩
    · have := hdone _ _ _ H j (ready_mono hj hji)
      omega
  | succ f ih =>
    intro listed a w inv hfree hr hy hS H
    have hun := (mem_ready.1 hr).1
    refine ⟨fun h => (by rw [h] at hr; cases hr), fun j hj => ?_⟩
    have hjn := tailB_waits ht inv hin hun j hj
    refine ⟨hjn, ?_⟩
    by_cases hji : j = i
    · subst hji; exact hy.wpOp hi hS ⟨hS, H⟩
    · have h1 := (H.2 j (ready_mono hj hji)).2
      obtain ⟨hjun, oj, hoj, hall⟩ := mem_ready.1 hj
      have hnot : ∀ e ∈ oj.after, Region.binds md e = true → e.on ≠ i := fun e he hb heq => by
        have h1 := hall e he hb
        rw [heq, getD_both hun] at h1
        cases h1
      have h2 := wpOp_put hoj (hfree j oj hoj hji hjun hnot) (fun cs b => hsel i oi cs b hi) (fun cs b => hsel j oj cs b hoj) hy h1
      have hfree' : ∀ k ok, ops[k]? = some ok → k ≠ i → (listed.setIfInBounds j true).getD k true = false →
          (∀ e ∈ ok.after, Region.binds md e = true → e.on ≠ i) → oi.apart ops ok = true := fun k ok hk hki hun hno => by
        refine hfree k ok hk hki ?_ hno
        by_cases hjk : j = k
        · subst hjk; exact hjun
        · rw [getD_set_ne true hjk] at hun; exact hun
      refine wpOp_mono (fun a' w' h3 => ⟨h3.2.1, ih (listed.setIfInBounds j true) a' w' (inv.set hj hjn) hfree' (ready_mono hr (Ne.symm hji)) h3.1 h3.2.1 ?_⟩) h2
      rw [Array.setIfInBounds_comm _ _ hji]
      exact h3.2.2
/-- The walk: a list of numbers, each with whether it only reads. -/
def wpW (P : Program) (ops : Array Oper) (S : World → Prop) (Q : Act → World → Prop) : List (Nat × Bool) → Act → World → Prop
  | [], a, w => Q a w
  | (k, true) :: rest, a, w => ∃ o v, ops[k]? = some o ∧ YS P ops S o v a ∧ wpW P ops S Q rest (a.put o.dst v) w
  | (k, false) :: rest, a, w => wpOp P ops noExit k (fun a' w' => S w' ∧ wpW P ops S Q rest a' w') a w
def walkB (md : Region.Mode) (ops : Array Oper) (n g : Nat) : List (Nat × Bool) → Array Bool → Bool
  | [], listed => Region.seqB md ops g n listed
  | (k, st) :: rest, listed => decide (k < n) && (match st with
      | true => (Region.ready md ops listed).contains k && Region.free md ops listed k
      | false => decide (Region.ready md ops listed = [k])) && walkB md ops n g rest (listed.setIfInBounds k true)
theorem wpAnyC_walk {n g : Nat} {Lq : Act → World → Prop} (hsel : Region.noSelect ops = true) (ht : tailB md ops n = true) : ∀ (l : List (Nat × Bool)) (listed : Array Bool) (a : Act) (w : World), HeadInv md ops n listed → S w →
    walkB md ops n g l listed = true → wpW P ops S Lq l a w → wpAnyC P md ops S n (fun listed' a' w' => Region.seqB md ops g n listed' = true ∧ Lq a' w') l.length listed a w
  | [], listed, a, w, _, _, hB, h => ⟨hB, h⟩
  | (k, true) :: l, listed, a, w, inv, hS, hB, h => by
    simp only [walkB, Bool.and_eq_true, decide_eq_true_eq] at hB
    obtain ⟨⟨hkn, hr, hf⟩, hB'⟩ := hB
    obtain ⟨o, v, h0, hy, hK⟩ := h
    have hr' : k ∈ Region.ready md ops listed := by simpa using hr
    exact wpAnyC_first h0 (Region.noSelect_spec hsel) ht hkn (fun listed' a' w' hL => seqB_ready hL.1) l.length listed a w inv (Region.free_spec h0 hf) hr' hy hS (wpAnyC_walk hsel ht l _ _ w (inv.set hr' hkn) hS hB' hK)
  | (k, false) :: l, listed, a, w, inv, hS, hB, h => by
    simp only [walkB, Bool.and_eq_true, decide_eq_true_eq] at hB
    obtain ⟨⟨hkn, hr⟩, hB'⟩ := hB
    refine ⟨by rw [hr]; simp, fun i hi => ?_⟩
    have hr' : k ∈ Region.ready md ops listed := by rw [hr]; simp
    rw [hr] at hi
    obtain rfl : i = k := by simpa using hi
    exact ⟨hkn, wpOp_mono (fun a' w' h' => ⟨h'.1, wpAnyC_walk hsel ht l _ _ _ (inv.set hr' hkn) h'.1 hB' h'.2⟩) h⟩
def drawB (ops : Array Oper) (n : Nat) (l : List (Nat × Bool)) : Bool := Region.noSelect ops && tailB .any ops n && decide (l.length = n) && decide (n ≤ ops.size) && walkB .any ops n (ops.size - n) l (Array.replicate ops.size false)
theorem wp_region_walk {id : Nat} {Q : Exit → Act → World → Prop} {a : Act} {w : World} {l : List Oper} (n : Nat) (order : List (Nat × Bool)) (hm : P.follows .mixedOrders = true) (hB : drawB l.toArray n order = true) (hS : S { w with drawn := w.drawn + 1 })
    (h : wpW P l.toArray S (fun a' w' => wpList P l.toArray Q (l.drop n) a' w') order a { w with drawn := w.drawn + 1 }) : (Code.region id l.toArray true).wp P Q a w := by
  simp only [drawB, Bool.and_eq_true, decide_eq_true_eq] at hB
  obtain ⟨⟨⟨⟨hsel, ht⟩, hlen⟩, hn⟩, hwk⟩ := hB
  have inv0 : HeadInv .any l.toArray n (Array.replicate l.toArray.size false) :=
    ⟨by simp, fun j oj _ hl => (by rw [getD_replicate_false] at hl; cases hl), fun t _ ht => getD_in (by simpa using ht) (getD_replicate_false _ _)⟩
  have hdl : (l.drop n).length = l.toArray.size - n := by simp
  have H := wpAnyC_walk (md := .any) (g := l.toArray.size - n) hsel ht order _ a _ inv0 hS hwk h
  refine wp_region_any hm ?_
  have := wpAny_of_headC (Q' := Q) (g := l.toArray.size - n) (fun listed a' w' hL => by
    have := wpAny_of_seq (md := .any) (Q' := Q) (l.drop n) n listed a' w' (fun j => by simp [List.getElem?_drop]) (by rw [hdl]; exact hL.1) hL.2
    rwa [hdl] at this) _ _ _ _ H
  rw [hlen, show n + (l.toArray.size - n) = l.toArray.size by omega] at this
  exact this
end
section
variable {X : Cx} {Q : Post} {E E' : Env} {H Sf : Heap} {K : Env → Heap → Prop}
def JW (X : Cx) (ops : List Oper) (order : List (Nat × Bool)) (Sf : Heap) (K : Env → Heap → Prop) (E : Env) (H : Heap) : Prop :=
  ∀ a w, Agr X.n a E → Has X.w0 X.M w H → wpW Try.prog ops.toArray (fun w => Has X.w0 X.M w Sf) (fun a' w' => ∃ E' H', Agr X.n a' E' ∧ Has X.w0 X.M w' H' ∧ K E' H') order a w
/-- A region that draws: 'n' operations of the head in the order told, the tail behind; 'ix' is what no effect of the head touches. -/
theorem J_walk {id : Nat} {l : List Oper} (n : Nat) (order : List (Nat × Bool)) (ix : List Nat) (hB : drawB l.toArray n order = true) (hi : ix.Nodup) (hS : picks H ix = some Sf) (h : JW X l order Sf (fun E' H' => JL X l (l.drop n) Q E' H') E H) :
    J X (.region id l.toArray true) Q E H := by
  intro a w hA hH
  refine wp_region_walk (S := fun w => Has X.w0 X.M w Sf) n order hmix hB (hH.drew.picks ix hi hS) ?_
  have := h a _ hA hH.drew
  refine (?_ : ∀ (Q1 Q2 : Act → World → Prop), (∀ a w, Q1 a w → Q2 a w) → ∀ l a w, wpW Try.prog _ _ Q1 l a w → wpW Try.prog _ _ Q2 l a w) _ _ ?_ _ a _ this
  · intro Q1 Q2 hq l
    induction l with
    | nil => exact fun a w h => hq a w h
    | cons o l ih =>
      intro a w h
      obtain ⟨k, st⟩ := o
      cases st with
      | true => obtain ⟨o, v, h1, h2, h3⟩ := h; exact ⟨o, v, h1, h2, ih _ _ h3⟩
      | false => exact wpOp_mono (fun a' w' h' => ⟨h'.1, ih _ _ h'.2⟩) h
  · rintro a w ⟨E', H', hA', hH', hq⟩
    exact hq a w hA' hH'
theorem JW_nil {ops : List Oper} (h : K E H) : JW X ops [] Sf K E H := fun _ _ hA hH => ⟨E, H, hA, hH, h⟩
theorem JW_still {ops : List Oper} {rest : List (Nat × Bool)} {k : Nat} {o : Oper} {v : Value} (gs : List Nat) (ho : ops[k]? = some o) (hv : OpV X o E Sf v) (hb : bef X.n ops gs E o v = some E') (h : JW X ops rest Sf K E' H) : JW X ops ((k, true) :: rest) Sf K E H := by
  intro a w hA hH
  obtain ⟨hg, hp⟩ := bef_spec hb
  exact ⟨o, v, by simpa using ho, .inl ⟨gd_wanted hA hg, fun w' hw' => hv a w' hA hw'⟩, h _ w (hA.putE hp) hH⟩
theorem JW_evO {ops : List Oper} {rest : List (Nat × Bool)} {k : Nat} {o : Oper} {gs : List Nat} (ho : ops[k]? = some o) (he : evO X.n ops gs E o = some E') (h : JW X ops rest Sf K E' H) : JW X ops ((k, true) :: rest) Sf K E H := by
  unfold evO at he
  split at he
  · rename_i hg
    split at he
    · rename_i v hv
      exact JW_still gs ho (OpV_pure hv) (by unfold bef; rw [hg]; exact he) h
    · cases he
  · rename_i hg
    intro a w hA hH
    exact ⟨o, undef, by simpa using ho, .inr ⟨gd_wanted hA hg, rfl⟩, h _ w (hA.putE he) hH⟩
  · cases he
noncomputable def evW (n : FrC) (ops : List Oper) (gs : List Nat) (E : Env) : List (Nat × Bool) → Env × List (Nat × Bool)
  | [] => (E, [])
  | (k, false) :: l => (E, (k, false) :: l)
  | (k, true) :: l => match ops[k]? with
    | some o => match evO n ops gs E o with
      | some E' => evW n ops gs E' l
      | none => (E, (k, true) :: l)
    | none => (E, (k, true) :: l)
theorem JW_run {ops : List Oper} {l' : List (Nat × Bool)} (gs : List Nat) : ∀ {l : List (Nat × Bool)} {E : Env}, evW X.n ops gs E l = (E', l') → JW X ops l' Sf K E' H → JW X ops l Sf K E H
  | [], E, h, k => by
    simp only [evW, Prod.mk.injEq] at h
    obtain ⟨rfl, rfl⟩ := h
    exact k
  | (_, false) :: l, E, h, k => by
    simp only [evW, Prod.mk.injEq] at h
    obtain ⟨rfl, rfl⟩ := h
    exact k
  | (i, true) :: l, E, h, k => by
    unfold evW at h
    split at h
    · rename_i o ho
      split at h
      · rename_i E1 h1; exact JW_evO ho h1 (JW_run gs h k)
      · simp only [Prod.mk.injEq] at h
        obtain ⟨rfl, rfl⟩ := h
        exact k
    · simp only [Prod.mk.injEq] at h
      obtain ⟨rfl, rfl⟩ := h
      exact k
theorem JW_all {ops : List Oper} (gs : List Nat) {l : List (Nat × Bool)} {E : Env} (h : evW X.n ops gs E l = (E', [])) (k : K E' H) : JW X ops l Sf K E H := JW_run gs h (JW_nil k)
theorem JW_set {ops : List Oper} {l : List (Nat × Bool)} (t : Nat) {v v' : Value} (hv : look E t = some v) (e : v = v') (h : JW X ops l Sf K ((t, v') :: E) H) : JW X ops l Sf K E H := fun a w hA hH => h a w (hA.set hv e) hH
def effQ (X : Cx) (ops : List Oper) (rest : List (Nat × Bool)) (Sf : Heap) (K : Env → Heap → Prop) : Post := fun e E' H' => match e with
  | .normal => (∃ ix : List Nat, ix.Nodup ∧ picks H' ix = some Sf) ∧ JW X ops rest Sf K E' H'
  | _ => False
theorem JW_eff {ops : List Oper} {rest : List (Nat × Bool)} {k : Nat} {o : Oper} (ho : ops[k]? = some o) (h : JL X ops [o] (effQ X ops rest Sf K) E H) : JW X ops ((k, false) :: rest) Sf K E H := by
  intro a w hA hH
  have h1 := h a w hA hH
  show wpOp _ _ _ _ _ _ _
  refine wpOp_exits (Q1 := lift X (effQ X ops rest Sf K)) (fun e a w hne hq => ?_) ?_
  · obtain ⟨E1, H1, _, _, hq⟩ := hq
    cases e with
    | normal => exact hne rfl
    | _ => exact hq
  · unfold wpOp
    have ho' : ops.toArray[k]? = some o := by simpa using ho
    simp only [ho']
    unfold wpList at h1
    have hfin : ∀ a' w', wpList Try.prog ops.toArray (lift X (effQ X ops rest Sf K)) [] a' w' → Has X.w0 X.M w' Sf ∧ wpW Try.prog ops.toArray (fun w => Has X.w0 X.M w Sf) (fun a' w' => ∃ E' H', Agr X.n a' E' ∧ Has X.w0 X.M w' H' ∧ K E' H') rest a' w' := by
      rintro a' w' ⟨E1, H1, hA1, hH1, ⟨ix, hix, hp⟩, hj⟩
      exact ⟨hH1.picks ix hix hp, hj a' w' hA1 hH1⟩
    split
    · rename_i hw
      rw [if_pos hw] at h1
      exact h1.imp (Oper.wp_mono hfin) id
    · rename_i hw
      rw [if_neg hw] at h1
      exact hfin _ _ h1
end
/-! ### Results that stand in memory -/
/-- Each result is read where it stands. -/
def ResC (E : Env) (H : Heap) : List ResultVar → List Value → Prop
  | [], [] => True
  | .tmp t :: rs, v :: vs => look E t = some v ∧ ResC E H rs vs
  | .cell t e :: rs, v :: vs => (∃ (b k e' : Nat) (cs : List Value), look E t = some (.pointer (some ⟨b, 0, none⟩)) ∧ H[k]? = some (blk b e' cs) ∧ readT e cs 0 = some v) ∧ ResC E H rs vs
  | _, _ => False
def retC (rs : List ResultVar) (R : Value → Heap → Prop) : Post := fun e E H => match e with
  | .normal => ∃ vs ix H', ResC E H rs vs ∧ ix.Nodup ∧ picks H ix = some H' ∧ R (pack vs) H'
  | .ret => ∃ vs ix H', ResC E H rs vs ∧ ix.Nodup ∧ picks H ix = some H' ∧ R (pack vs) H'
  | _ => False
theorem ResC_run {w0 w : World} {M : List Nat} {H : Heap} {E : Env} {a : Act} {n : FrC} (hA : Agr n a E) (hH : Has w0 M w H) : ∀ (rs : List ResultVar) (vs : List Value), ResC E H rs vs → (rs.toArray.toList.mapM (m := Sem) (resOne a.tmps)).run Try.prog w = .ok vs w
  | [], [], _ => by simp
  | .tmp t :: rs, v :: vs, h => by
    have h1 := hA.get _ _ h.1
    have h2 := ResC_run hA hH rs vs h.2
    simp only [List.mapM_cons] at h2 ⊢
    simp [resOne, h2, Array.getD_eq_getD_getElem?, h1]
  | .cell t e :: rs, v :: vs, h => by
    obtain ⟨⟨b, k, e', cs, g1, g2, g3⟩, h'⟩ := h
    have h1 := hA.get _ _ g1
    have h2 := ResC_run hA hH rs vs h'
    have h3 := loadVar_run (w := w) (b := b) (o := 0) (t := e) (cs := cs) (v := v) (shows_blk b e' cs (0, 0) w (hH.holds _ (List.mem_of_getElem? g2))) g3
    simp only [List.mapM_cons] at h2 ⊢
    simp [resOne, h2, Array.getD_eq_getD_getElem?, h1, asAddr, h3]
  | [], _ :: _, h => h.elim
  | .tmp _ :: _, [], h => h.elim
  | .cell _ _ :: _, [], h => h.elim
theorem resultsC_run {w0 w : World} {M : List Nat} {H : Heap} {E : Env} {a : Act} {n : FrC} (hA : Agr n a E) (hH : Has w0 M w H) {fn : Func} {vs : List Value} (h : ResC E H fn.results.toList vs) : (results fn a.tmps).run Try.prog w = .ok (pack vs) w := by
  have e : results fn a.tmps = (do let vs ← fn.results.mapM (resOne a.tmps); pure (if h : vs.size = 1 then vs[0] else .tuple vs)) := rfl
  have hr := ResC_run hA hH _ _ h
  rw [List.toList_toArray] at hr
  rw [e, Array.mapM_eq_mapM_toList]
  simp only [map_eq_pure_bind, bind_assoc, pure_bind, Sem.run_bind, hr]
  show Result.ok (if h : vs.toArray.size = 1 then vs.toArray[0] else Value.tuple vs.toArray) w = _
  congr 1
  match vs with
  | [] => rfl
  | [v] => rfl
  | u :: v :: l =>
    have : ¬ (u :: v :: l).toArray.size = 1 := by simp
    rw [dif_neg this]
    rfl
/-- A function by its body, its results in memory. -/
theorem Fn_ofC {f : FuncId} {fn : Func} {c : Code} {args : List Value} {M : List Nat} {H : Heap} {R : Value → Heap → Prop} (hf : Try.prog.funcs[f]? = some fn) (hb : fn.body = some c) (hn : Nat.ble args.length fn.ntmps = true)
    (h : ∀ w0, J ⟨w0, M, ⟨fn.ntmps, []⟩⟩ c (retC fn.results.toList R) (initE 0 args) H) : Fn f args M H R := by
  intro w hH
  refine calls_of_wp hf hb ?_
  have hA := agr_init (args := args) hn
  refine wp_mono (h w _ w hA hH) ?_
  rintro e a w' ⟨E', H', hA', hH', hq⟩
  cases e with
  | normal =>
    obtain ⟨vs, ix, H2, h1, h2, h3, h4⟩ := hq
    exact ⟨hA'.defers, pack vs, resultsC_run hA' hH' h1, pack vs, H2, rfl, hH'.picks ix h2 h3, h4⟩
  | ret =>
    obtain ⟨vs, ix, H2, h1, h2, h3, h4⟩ := hq
    exact ⟨hA'.defers, pack vs, resultsC_run hA' hH' h1, pack vs, H2, rfl, hH'.picks ix h2 h3, h4⟩
  | _ => exact hq.elim
end Go.Proofs.Ytbhfbpeldcnpfaa
