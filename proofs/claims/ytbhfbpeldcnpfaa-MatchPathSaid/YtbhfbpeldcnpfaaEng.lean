/-
The engine: a program logic over the model's walk rules. A state is a list of temporaries that are known (Env) and a list of blocks that are known (Heap). Plain theorems, no condition.
-/
import Derived.Test.YtbhfbpeldcnpfaaProg
import Derived.Below
import Derived.Scope
import Derived.Deep.QuietTactic
import Derived.Deep.LoopGhost
import Derived.StillTailTactics
import Derived.Laws.MakeOwn
import Derived.Laws.OwnMore
import Derived.WalkKit
namespace Go.Proofs.Ytbhfbpeldcnpfaa
open Go.RowKit

/-! ### Temporaries -/
abbrev Env := List (Nat × Value)
def look : Env → Nat → Option Value
  | [], _ => none
  | (t, v) :: E, u => bif Nat.beq t u then some v else look E u
def val (E : Env) : Operand → Option Value
  | .tmp t => look E t
  | .const v => some v
  | .func f => some (.func (.func f) #[] #[])
  | .global g => some (.pointer (some ⟨g, 0, none⟩))
def vals (E : Env) : List Operand → Option (List Value)
  | [] => some []
  | x :: xs => match val E x with
    | some v => match vals E xs with
      | some vs => some (v :: vs)
      | none => none
    | none => none

/-- How many temporaries a function has, and what is deferred. -/
structure FrC where
  len : Nat
  ds : List Deferred
structure Agr (n : FrC) (a : Act) (E : Env) : Prop where
  size : a.tmps.size = n.len
  defers : a.defers = n.ds
  get : ∀ t v, look E t = some v → a.tmps[t]? = some v

theorem Agr.val {n : FrC} {a : Act} {E : Env} (h : Agr n a E) {x : Operand} {v : Value} (hv : val E x = some v) : a.eval x = v := by
  cases x with
  | tmp t =>
    have := h.get t v hv
    simp [Act.eval, Array.getD_eq_getD_getElem?, this]
  | const u => simpa [Act.eval, Proofs.Ytbhfbpeldcnpfaa.val] using hv
  | global g => simpa [Act.eval, Proofs.Ytbhfbpeldcnpfaa.val] using hv
  | func f => simpa [Act.eval, Proofs.Ytbhfbpeldcnpfaa.val] using hv

theorem Agr.vals {n : FrC} {a : Act} {E : Env} (h : Agr n a E) : ∀ (xs : List Operand) (vs : List Value), vals E xs = some vs → xs.map a.eval = vs
  | [], vs, hv => by simp [Proofs.Ytbhfbpeldcnpfaa.vals] at hv; simp [hv]
  | x :: xs, vs, hv => by
    unfold Proofs.Ytbhfbpeldcnpfaa.vals at hv
    split at hv
    · rename_i v hx
      split at hv
      · rename_i us hxs
        simp only [Option.some.injEq] at hv
        subst hv
        simp [h.val hx, h.vals xs us hxs]
      · cases hv
    · cases hv

theorem Agr.put {n : FrC} {a : Act} {E : Env} (h : Agr n a E) {d : Nat} (hd : d < n.len) (v : Value) : Agr n (a.put (some d) v) ((d, v) :: E) := by
  refine ⟨by simp [Act.put, h.size], h.defers, fun t u hu => ?_⟩
  unfold look at hu
  by_cases e : d = t
  · subst e
    simp only [Nat.beq_refl, cond_true] at hu
    simp only [Option.some.injEq] at hu
    subst hu
    simp [Act.put, h.size, hd]
  · have : Nat.beq d t = false := by
      cases hb : Nat.beq d t with
      | false => rfl
      | true => exact absurd (Nat.eq_of_beq_eq_true hb) e
    rw [this] at hu
    simp only [cond_false] at hu
    have := h.get t u hu
    simp only [Act.put]
    rw [Array.getElem?_setIfInBounds_ne e]
    exact this

/-- What is known may be known again, or less. -/
def Ents (E : Env) : Env → Prop
  | [] => True
  | (t, v) :: F => look E t = some v ∧ Ents E F
theorem Agr.ents {n : FrC} {a : Act} {E : Env} (h : Agr n a E) : ∀ F, Ents E F → Agr n a F
  | [], _ => ⟨h.size, h.defers, fun t v hv => by simp [look] at hv⟩
  | (t, v) :: F, hF => by
    have ih := h.ents F hF.2
    refine ⟨h.size, h.defers, fun u x hx => ?_⟩
    unfold look at hx
    cases hb : Nat.beq t u with
    | true =>
      rw [hb] at hx
      simp only [cond_true, Option.some.injEq] at hx
      obtain rfl := Nat.eq_of_beq_eq_true hb
      subst hx
      exact h.get _ _ hF.1
    | false =>
      rw [hb] at hx
      exact ih.get u x hx

/-! ### Memory -/
inductive Chunk where
  | obj (b : Nat) (o : Obj)
  | seg (b off : Nat) (vs : List Value)
  | own (v : Value) (e sz n : Nat) (xs : List Value)
abbrev Heap := List Chunk
@[reducible] def blk (b e : Nat) (cs : List Value) : Chunk := .obj b (.cells cs.toArray e (0, 0))

def Chunk.holds (w : World) : Chunk → Prop
  | .obj b o => w.heap[b]? = some o
  | .seg b off vs => ∀ i v, vs[i]? = some v → w.cell? ⟨b, off + i, none⟩ = some v
  | .own v e sz n xs => w.ownsRow 0 e sz v n xs
/-- The block that a piece has for itself. -/
def Chunk.mine : Chunk → Option Nat
  | .obj b _ => some b
  | .seg .. => none
  | .own v .. => v.ownBlock
/-- The block that a piece reads. -/
def Chunk.at_ : Chunk → Option Nat
  | .obj b _ => some b
  | .seg b _ vs => if vs = [] then none else some b
  | .own v .. => v.ownBlock
def apart (c d : Chunk) : Prop := (∀ b, c.mine = some b → d.at_ ≠ some b) ∧ (∀ b, d.mine = some b → c.at_ ≠ some b)

structure Has (w0 : World) (M : List Nat) (w : World) (H : Heap) : Prop where
  os : w.os = w0.os
  tape : w.tape = w0.tape
  output : w.output = w0.output
  size : w0.heap.size ≤ w.heap.size
  keep : ∀ k, k < w0.heap.size → k ∉ M → w.heap[k]? = w0.heap[k]?
  holds : ∀ c ∈ H, c.holds w
  own : ∀ c ∈ H, ∀ b, c.mine = some b → w0.heap.size ≤ b ∨ b ∈ M
  dis : H.Pairwise apart

theorem apart_symm {c d : Chunk} (h : apart c d) : apart d c := ⟨h.2, h.1⟩

theorem Has.drew {w0 : World} {M : List Nat} {w : World} {H : Heap} (h : Has w0 M w H) : Has w0 M { w with drawn := w.drawn + 1 } H :=
  ⟨h.os, h.tape, h.output, h.size, h.keep, fun c hc => by have := h.holds c hc; cases c <;> exact this, h.own, h.dis⟩

/-- The block of a piece exists. -/
theorem Chunk.at_lt {w : World} {c : Chunk} (h : c.holds w) {b : Nat} (hb : c.at_ = some b) : b < w.heap.size := by
  cases c with
  | obj b' o => simp [Chunk.at_] at hb; subst hb; exact (Array.getElem?_eq_some_iff.1 h).1
  | seg b' off vs =>
    simp only [Chunk.at_] at hb
    split at hb
    · cases hb
    · rename_i hne
      simp only [Option.some.injEq] at hb
      subst hb
      cases vs with
      | nil => exact absurd rfl hne
      | cons v vs =>
        have := h 0 v rfl
        exact World.block_lt_of_cell? w _ this
  | own v e sz n xs => exact (World.ownsRow.lt h b hb).2
theorem Chunk.mine_at {c : Chunk} {b : Nat} (h : c.mine = some b) : c.at_ = some b := by
  cases c with
  | obj => exact h
  | seg => simp [Chunk.mine] at h
  | own => exact h
/-- A piece hangs on its block alone. -/
theorem Chunk.holds_of {w w' : World} {c : Chunk} (h : c.holds w) (hb : ∀ b, c.at_ = some b → w'.heap[b]? = w.heap[b]?) : c.holds w' := by
  cases c with
  | obj b o => exact (hb b rfl).trans h
  | seg b off vs =>
    intro i v hv
    have hne : vs ≠ [] := by rintro rfl; simp at hv
    have : (Chunk.seg b off vs).at_ = some b := by simp [Chunk.at_, hne]
    rw [World.cell?_of_block (a := ⟨b, off + i, none⟩) (hb b this)]
    exact h i v hv
  | own v e sz n xs =>
    refine ⟨h.1, ?_⟩
    rcases h.2 with hn | ⟨g, cap, cur, rfl, h1, h2, h3⟩
    · exact .inl hn
    · exact .inr ⟨g, cap, cur, rfl, h1, (hb g rfl).trans h2, h3⟩

theorem Has.mono {w0 : World} {M : List Nat} {w : World} {H K : Heap} (h : Has w0 M w H) (hs : ∀ c ∈ K, c ∈ H) (hd : K.Pairwise apart) : Has w0 M w K :=
  ⟨h.os, h.tape, h.output, h.size, h.keep, fun c hc => h.holds c (hs c hc), fun c hc => h.own c (hs c hc), hd⟩

/-- Pieces by their places. -/
def picks (H : Heap) : List Nat → Option Heap
  | [] => some []
  | i :: l => match H[i]? with
    | some c => match picks H l with
      | some K => some (c :: K)
      | none => none
    | none => none
theorem picks_mem {H : Heap} : ∀ {l : List Nat} {K : Heap}, picks H l = some K → ∀ c ∈ K, ∃ i ∈ l, H[i]? = some c
  | [], K, h, c, hc => by simp [picks] at h; subst h; cases hc
  | i :: l, K, h, c, hc => by
    unfold picks at h
    split at h
    · rename_i d hd
      split at h
      · rename_i K' hK'
        simp only [Option.some.injEq] at h
        subst h
        rcases List.mem_cons.1 hc with rfl | hc
        · exact ⟨i, by simp, hd⟩
        · obtain ⟨j, hj, hjc⟩ := picks_mem hK' c hc
          exact ⟨j, by simp [hj], hjc⟩
      · cases h
    · cases h
theorem apart_of_get {H : Heap} (hd : H.Pairwise apart) {i j : Nat} {c d : Chunk} (hi : H[i]? = some c) (hj : H[j]? = some d) (hij : i ≠ j) : apart c d := by
  rw [List.pairwise_iff_getElem] at hd
  obtain ⟨h1, rfl⟩ := List.getElem?_eq_some_iff.1 hi
  obtain ⟨h2, rfl⟩ := List.getElem?_eq_some_iff.1 hj
  rcases Nat.lt_or_gt_of_ne hij with h | h
  · exact hd i j h1 h2 h
  · exact apart_symm (hd j i h2 h1 h)
theorem picks_pairwise {H : Heap} (hd : H.Pairwise apart) : ∀ {l : List Nat} {K : Heap}, l.Nodup → picks H l = some K → K.Pairwise apart
  | [], K, _, h => by simp [picks] at h; subst h; exact List.Pairwise.nil
  | i :: l, K, hn, h => by
    unfold picks at h
    split at h
    · rename_i c hc
      split at h
      · rename_i K' hK'
        simp only [Option.some.injEq] at h
        subst h
        rw [List.nodup_cons] at hn
        refine List.Pairwise.cons (fun d hdm => ?_) (picks_pairwise hd hn.2 hK')
        obtain ⟨j, hj, hjd⟩ := picks_mem hK' d hdm
        exact apart_of_get hd hc hjd (fun e => hn.1 (e ▸ hj))
      · cases h
    · cases h
theorem Has.picks {w0 : World} {M : List Nat} {w : World} {H K : Heap} (h : Has w0 M w H) (l : List Nat) (hl : l.Nodup) (hp : picks H l = some K) : Has w0 M w K :=
  h.mono (fun c hc => by obtain ⟨i, _, hi⟩ := picks_mem hp c hc; exact List.mem_of_getElem? hi) (picks_pairwise h.dis hl hp)

/-- A world that parts from 'w' in the block of one piece alone, and in new blocks: the others stand. -/
theorem Has.step {w0 : World} {M : List Nat} {w w' : World} {H : Heap} (h : Has w0 M w H) (i : Nat) {c d : Chunk} (hi : H[i]? = some c)
    (hos : w'.os = w.os) (htape : w'.tape = w.tape) (hout : w'.output = w.output) (hsize : w.heap.size ≤ w'.heap.size)
    (hb : ∀ k, k < w.heap.size → c.mine ≠ some k → w'.heap[k]? = w.heap[k]?) (hd : d.holds w') (hm : ∀ b, d.at_ = some b → c.mine = some b ∨ w.heap.size ≤ b) : Has w0 M w' (H.set i d) := by
  have hci : c ∈ H := List.mem_of_getElem? hi
  have hil : i < H.length := (List.getElem?_eq_some_iff.1 hi).1
  have hoth : ∀ j e, H[j]? = some e → j ≠ i → apart e c := fun j e hj hne => apart_of_get h.dis hj hi hne
  have hget : ∀ e ∈ H.set i d, e = d ∨ ∃ j, j ≠ i ∧ H[j]? = some e := by
    intro e he
    obtain ⟨j, hj⟩ := List.mem_iff_getElem?.1 he
    by_cases hij : i = j
    · subst hij; rw [List.getElem?_set_self hil] at hj; exact .inl (Option.some.inj hj).symm
    · rw [List.getElem?_set_ne hij] at hj; exact .inr ⟨j, fun x => hij x.symm, hj⟩
  have hnew : ∀ e, (∃ j, j ≠ i ∧ H[j]? = some e) → apart e d := by
    rintro e ⟨j, hji, hj⟩
    have hap := hoth j e hj hji
    have heh := h.holds e (List.mem_of_getElem? hj)
    constructor
    · intro b hb1 hb2
      rcases hm b hb2 with h1 | h1
      · exact hap.2 b h1 (Chunk.mine_at hb1)
      · have := Chunk.at_lt heh (Chunk.mine_at hb1); omega
    · intro b hb1 hb2
      rcases hm b (Chunk.mine_at hb1) with h1 | h1
      · exact hap.2 b h1 hb2
      · have := Chunk.at_lt heh hb2; omega
  refine ⟨hos.trans h.os, htape.trans h.tape, hout.trans h.output, Nat.le_trans h.size hsize, fun k hk hkM => ?_, fun e he => ?_, fun e he b hbm => ?_, ?_⟩
  · rw [hb k (Nat.lt_of_lt_of_le hk h.size) (fun e => by
      rcases h.own c hci k e with h1 | h1
      · omega
      · exact hkM h1)]
    exact h.keep k hk hkM
  · rcases hget e he with rfl | ⟨j, hji, hj⟩
    · exact hd
    · have heh := h.holds e (List.mem_of_getElem? hj)
      exact Chunk.holds_of heh fun b hbe => hb b (Chunk.at_lt heh hbe) (fun x => (hoth j e hj hji).2 b x hbe)
  · rcases hget e he with rfl | ⟨j, hji, hj⟩
    · rcases hm b (Chunk.mine_at hbm) with h1 | h1
      · exact h.own c hci b h1
      · exact .inl (Nat.le_trans h.size h1)
    · exact h.own e (List.mem_of_getElem? hj) b hbm
  · rw [List.pairwise_iff_getElem]
    intro p q hp hq hpq
    by_cases h1 : p = i
    · subst h1
      have : q ≠ p := by omega
      simp only [List.getElem_set_self]
      rw [List.getElem_set_ne (by omega)]
      exact apart_symm (hnew _ ⟨q, this, List.getElem?_eq_getElem _⟩)
    · rw [List.getElem_set_ne (by omega)]
      by_cases h2 : q = i
      · subst h2
        simp only [List.getElem_set_self]
        exact hnew _ ⟨p, h1, List.getElem?_eq_getElem _⟩
      · rw [List.getElem_set_ne (by omega)]
        exact apart_of_get h.dis (List.getElem?_eq_getElem _) (List.getElem?_eq_getElem _) (by omega)

/-- New memory. -/
theorem Has.grow {w0 : World} {M : List Nat} {w w' : World} {H : Heap} (h : Has w0 M w H) {d : Chunk}
    (hos : w'.os = w.os) (htape : w'.tape = w.tape) (hout : w'.output = w.output) (hsize : w.heap.size ≤ w'.heap.size)
    (hb : ∀ k, k < w.heap.size → w'.heap[k]? = w.heap[k]?) (hd : d.holds w') (hm : ∀ b, d.at_ = some b → w.heap.size ≤ b) : Has w0 M w' (d :: H) := by
  refine ⟨hos.trans h.os, htape.trans h.tape, hout.trans h.output, Nat.le_trans h.size hsize, fun k hk hkM => ?_, fun e he => ?_, fun e he b hbm => ?_, ?_⟩
  · rw [hb k (Nat.lt_of_lt_of_le hk h.size)]; exact h.keep k hk hkM
  · rcases List.mem_cons.1 he with rfl | he
    · exact hd
    · exact Chunk.holds_of (h.holds e he) fun b hbe => hb b (Chunk.at_lt (h.holds e he) hbe)
  · rcases List.mem_cons.1 he with rfl | he
    · exact .inl (Nat.le_trans h.size (hm b (Chunk.mine_at hbm)))
    · exact h.own e he b hbm
  · refine List.Pairwise.cons (fun e he => ?_) h.dis
    have heh := h.holds e he
    constructor
    · intro b hb1 hb2
      have h1 := hm b (Chunk.mine_at hb1)
      have h2 := Chunk.at_lt heh hb2
      omega
    · intro b hb1 hb2
      have h1 := hm b hb2
      have h2 := Chunk.at_lt heh (Chunk.mine_at hb1)
      omega
end Go.Proofs.Ytbhfbpeldcnpfaa
