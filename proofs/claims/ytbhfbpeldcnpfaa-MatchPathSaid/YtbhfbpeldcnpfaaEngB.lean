/- The engine, its third part: what operations without memory answer. -/
import Derived.Test.YtbhfbpeldcnpfaaEngA
namespace Go.Proofs.Ytbhfbpeldcnpfaa
open Go.RowKit

/-- A test, as a Bool that does not reckon by itself. -/
noncomputable def cdec (p : Prop) : Bool := @decide p (Classical.propDecidable p)
theorem cdec_dec (p : Prop) [h : Decidable p] : cdec p = decide p := by unfold cdec; cases h <;> simp [*]
theorem cdec_yes {p : Prop} (h : p) : cdec p = true := by unfold cdec; exact @decide_eq_true p (Classical.propDecidable p) h
theorem cdec_no {p : Prop} (h : ¬ p) : cdec p = false := by unfold cdec; exact @decide_eq_false p (Classical.propDecidable p) h
theorem of_cdec {p : Prop} (h : cdec p = true) : p := by unfold cdec at h; exact @of_decide_eq_true p (Classical.propDecidable p) h
theorem of_cdec_no {p : Prop} (h : cdec p = false) : ¬ p := by unfold cdec at h; exact @of_decide_eq_false p (Classical.propDecidable p) h
theorem cdec_iff {p q : Prop} (h : p ↔ q) : cdec p = cdec q := by rw [propext h]
noncomputable def intB (op : BinOp) (k : IntKind) (a b : Int) : Option Value :=
  match op with
  | .add => some (.int k (k.wrap (a + b)))
  | .sub => some (.int k (k.wrap (a - b)))
  | .mul => some (.int k (k.wrap (a * b)))
  | .eql => some (.bool (cdec (a = b)))
  | .neq => some (.bool (cdec (a ≠ b)))
  | .lss => some (.bool (cdec (a < b)))
  | .leq => some (.bool (cdec (a ≤ b)))
  | .gtr => some (.bool (cdec (b < a)))
  | .geq => some (.bool (cdec (b ≤ a)))
  | .and => some (.int k (k.wrap (BitVec.ofInt k.bits a &&& BitVec.ofInt k.bits b).toNat))
  | .or => some (.int k (k.wrap (BitVec.ofInt k.bits a ||| BitVec.ofInt k.bits b).toNat))
  | .xor => some (.int k (k.wrap (BitVec.ofInt k.bits a ^^^ BitVec.ofInt k.bits b).toNat))
  | _ => none
/-- A quotient, a rest, a shift, by a number that is written out. -/
def constB (op : BinOp) (k : IntKind) (a : Int) (y : Operand) : Option Value :=
  match y with
  | .const (.int _ c) => match c with
    | .ofNat m => match op with
      | .shl => some (.int k (k.wrap (a * 2 ^ (min m k.bits))))
      | .shr => some (.int k (a.fdiv (2 ^ (min m k.bits))))
      | .quo => match m with
        | 0 => none
        | _ + 1 => some (.int k (k.wrap (a.tdiv c)))
      | .rem => match m with
        | 0 => none
        | _ + 1 => some (.int k (a.tmod c))
      | _ => none
    | .negSucc _ => none
  | _ => none
def boolB (op : BinOp) (p q : Bool) : Option Value :=
  match op with
  | .eql => some (.bool (p == q))
  | .neq => some (.bool (p != q))
  | _ => none
def strB (op : BinOp) (a b : ByteArray) : Option Value :=
  match op with
  | .eql => some (.bool (a.toList == b.toList))
  | .neq => some (.bool (!(a.toList == b.toList)))
  | _ => none
def isB (t : Nat) : Bool := match tab t with | some ⟨.bool, _, _, _⟩ => true | _ => false

def isI (t : Nat) : Bool := match tab t with | some ⟨.iface, _, _, _⟩ => true | _ => false
def nilB (op : BinOp) (b : Bool) : Option Value :=
  match op with
  | .eql => some (.bool b)
  | .neq => some (.bool (!b))
  | _ => none

noncomputable def evP (E : Env) : Op → Option Value
  | .move x => val E x
  | .assign x => val E x
  | .pick c a b => match val E c with
    | some (.bool true) => val E a
    | some (.bool false) => val E b
    | _ => none
  | .binOp op t x y _ => match val E x, val E y with
    | some (.int k a), some (.int k' b) => if k = k' then (match intB op k a b with
      | some v => some v
      | none => constB op k a y) else none
    | some (.bool p), some (.bool q) => match isB t with | true => boolB op p q | false => none
    | some (.string p), some (.string q) => strB op p q
    | some (.iface _ _), some .nilIface => match isI t with | true => nilB op false | false => none
    | some .nilIface, some .nilIface => match y with
      | .const _ => match isI t with | true => nilB op true | false => none
      | _ => none
    | _, _ => none
  | .unOp op _ x => match op, val E x with
    | .not, some (.bool b) => some (.bool (!b))
    | .neg, some (.int k n) => some (.int k (k.wrap (0 - n)))
    | _, _ => none
  | .convert s d x => match tab s, tab d, val E x with
    | some ⟨.int _, _, _, _⟩, some ⟨.int k, _, _, _⟩, some (.int _ n) => some (.int k (k.wrap n))
    | _, _, _ => none
  | .fieldAddr t x f => match tab t, val E x with
    | some ⟨.struct fs, _, _, _⟩, some (.pointer (some ⟨b, o, none⟩)) => match fs[f]? with
      | some (off, _ + 1, _) => some (.pointer (some ⟨b, o + off, none⟩))
      | _ => none
    | _, _ => none
  | .field t x f => match tab t, val E x with
    | some ⟨.struct fs, _, _, _⟩, some (.agg cs) => match fs[f]? with
      | some (off, _ + 1, 0) => cs.toList[off]?
      | some (off, sz + 1, 1) => some (.agg (cs.extract off (off + (sz + 1))))
      | _ => none
    | _, _ => none
  | .extract x i => match val E x with
    | some (.tuple vs) => vs.toList[i]?
    | _ => none
  | .nilCheck x => match val E x with
    | some (.pointer (some p)) => some (.pointer (some p))
    | _ => none
  | .makeFunc fn first cap => match vals E first.toList, vals E cap.toList with
    | some f, some c => some (.func fn f.toArray c.toArray)
    | _, _ => none
  | .makeInterface t x => match tab t, val E x with
    | some ⟨.iface, _, _, _⟩, _ => none
    | some _, some v => some (.iface t v)
    | _, _ => none
  | .typeAssert x _ t ok => match tab t, val E x with
    | some ⟨.iface, _, _, _⟩, _ => none
    | some _, some (.iface u v) => match Nat.beq u t with
      | true => match ok with
        | true => some (.tuple #[v, .bool true])
        | false => some v
      | false => none
    | _, _ => none
  | .call ⟨.builtin .len, xs, ts⟩ => match xs.toList, ts.toList with
    | [x], [t] => match tab t, val E x with
      | some ⟨.slice _, _, _, _⟩, some (.slice _ n _) => some (.int .i64 n)
      | some ⟨.string, _, _, _⟩, some (.string s) => some (.int .i64 s.size)
      | _, _ => none
    | _, _ => none
  | .call ⟨.builtin .min, xs, _⟩ => match xs.toList with
    | [x, y] => match val E x, val E y with
      | some (.int k a), some (.int _ b) => some (.int k (if b < a then b else a))
      | _, _ => none
    | _ => none
  | .call ⟨.builtin .max, xs, _⟩ => match xs.toList with
    | [x, y] => match val E x, val E y with
      | some (.int k a), some (.int _ b) => some (.int k (if b > a then b else a))
      | _, _ => none
    | _ => none
  | _ => none

theorem eqGuard_int (op : BinOp) (t : TypeId) (x y : Operand) (k l : IntKind) (a b : Int) (P : Program) (w : World) :
    (eqGuard op t x y (.int k a) (.int l b)).run P w = .ok () w := by
  cases op <;> simp [eqGuard]
theorem eqGuard_bool (op : BinOp) (t : TypeId) (x y : Operand) (a b : Bool) (P : Program) (w : World) :
    (eqGuard op t x y (.bool a) (.bool b)).run P w = .ok () w := by
  cases op <;> simp [eqGuard]
theorem eqGuard_str (op : BinOp) (t : TypeId) (x y : Operand) (a b : ByteArray) (P : Program) (w : World) :
    (eqGuard op t x y (.string a) (.string b)).run P w = .ok () w := by
  cases op <;> simp [eqGuard]

theorem eq_dec (a b : Int) : (a == b) = decide (a = b) := by
  by_cases h : a = b <;> simp [h]
theorem ne_dec (a b : Int) : (a != b) = decide (a ≠ b) := by
  by_cases h : a = b <;> simp [h]
theorem intB_run {op : BinOp} {k : IntKind} {a b : Int} {v : Value} (h : intB op k a b = some v) (t : TypeId) (P : Program) (w : World) :
    (binOp op t (.int k a) (.int k b)).run P w = .ok v w := by
  cases op <;> simp only [intB, Option.some.injEq, reduceCtorEq] at h <;> subst h <;> simp [binOp, Op.intArith, Op.intCmp, Op.intBits, eq_dec, ne_dec, cdec_dec]
theorem constB_run {op : BinOp} {k : IntKind} {a b : Int} {y : Operand} {v : Value} {E : Env} (h : constB op k a y = some v) (hy : val E y = some (.int k b)) (t : TypeId) (P : Program) (w : World) :
    (binOp op t (.int k a) (.int k b)).run P w = .ok v w := by
  unfold constB at h
  split at h
  · rename_i k2 c
    simp only [val, Option.some.injEq, Value.int.injEq] at hy
    obtain ⟨rfl, rfl⟩ := hy
    split at h
    · rename_i m
      have hm : ¬ (Int.ofNat m) < 0 := Int.not_lt.2 (Int.natCast_nonneg m)
      split at h
      · simp only [Option.some.injEq] at h; subst h
        simp only [binOp, Op.shift]
        rw [if_neg hm]; rfl
      · simp only [Option.some.injEq] at h; subst h
        simp only [binOp, Op.shift]
        rw [if_neg hm]; rfl
      · split at h
        · cases h
        · rename_i q
          simp only [Option.some.injEq] at h; subst h
          have h0 : ¬ (Int.ofNat (q + 1)) = 0 := by simp; omega
          simp only [binOp, Op.intDiv, ne_eq, not_true, if_false]
          rw [if_neg h0]; rfl
      · split at h
        · cases h
        · rename_i q
          simp only [Option.some.injEq] at h; subst h
          have h0 : ¬ (Int.ofNat (q + 1)) = 0 := by simp; omega
          simp only [binOp, Op.intDiv, ne_eq, not_true, if_false]
          rw [if_neg h0]; rfl
      · cases h
    · cases h
  · cases h
theorem isB_und {t : Nat} (h : isB t = true) : Try.prog.underlying t = some .bool := by
  unfold isB at h
  split at h
  · rename_i z s b hz hh
    obtain ⟨d, j, hd, _, hu, _⟩ := tab_und hh
    rw [hd]
    cases d <;> simp [ukOf] at hu ⊢
  · cases h
theorem equal_bool {t : Nat} (hu : Try.prog.underlying t = some .bool) (a b : Bool) (w : World) : (Op.equal t (.bool a) (.bool b)).run Try.prog w = .ok (a == b) w := by
  have h : ∀ d : Nat, (Op.equalIn (d + 1) t (.bool a) (.bool b)).run Try.prog w = .ok (a == b) w := fun d => by
    simp [Op.equalIn, run_underlying hu]
  exact h 9999
theorem boolB_run {op : BinOp} {a b : Bool} {v : Value} (h : boolB op a b = some v) {t : TypeId} (ht : isB t = true) (w : World) :
    (binOp op t (.bool a) (.bool b)).run Try.prog w = .ok v w := by
  have hu := equal_bool (isB_und ht) a b w
  cases op <;> simp only [boolB, Option.some.injEq, reduceCtorEq] at h <;> subst h
  · have : binOp .eql t (.bool a) (.bool b) = (do pure (.bool (← Op.equal t (.bool a) (.bool b)))) := rfl
    rw [this]; simp [hu]
  · have : binOp .neq t (.bool a) (.bool b) = (do pure (.bool (!(← Op.equal t (.bool a) (.bool b))))) := rfl
    rw [this]; simp [hu, bne]
theorem strB_run {op : BinOp} {a b : ByteArray} {v : Value} (h : strB op a b = some v) (t : TypeId) (P : Program) (w : World) :
    (binOp op t (.string a) (.string b)).run P w = .ok v w := by
  cases op <;> simp only [strB, Option.some.injEq, reduceCtorEq] at h <;> subst h <;> simp [binOp, Op.stringOp]

theorem isI_und {t : Nat} (h : isI t = true) : ∃ ms, Try.prog.underlying t = some (.interface ms) := by
  unfold isI at h
  split at h
  · rename_i z s b hz hh
    obtain ⟨d, j, hd, _, hu, _⟩ := tab_und hh
    rw [hd]
    cases d <;> simp [ukOf] at hu
    exact ⟨_, rfl⟩
  · cases h
theorem nilB_run1 {op : BinOp} {v u : Value} {d t : Nat} (h : nilB op false = some v) (ht : isI t = true) (w : World) : (binOp op t (.iface d u) .nilIface).run Try.prog w = .ok v w := by
  obtain ⟨ms, hu⟩ := isI_und ht
  have he : (Op.equal t (.iface d u) .nilIface).run Try.prog w = .ok false w := by
    have h : ∀ k : Nat, (Op.equalIn (k + 1) t (.iface d u) .nilIface).run Try.prog w = .ok false w := fun k => by
      simp [Op.equalIn, run_underlying hu]
    exact h 9999
  cases op <;> simp only [nilB, Option.some.injEq, reduceCtorEq] at h <;> subst h
  · have : binOp .eql t (.iface d u) .nilIface = (do pure (.bool (← Op.equal t (.iface d u) .nilIface))) := rfl
    rw [this]; simp [he]
  · have : binOp .neq t (.iface d u) .nilIface = (do pure (.bool (!(← Op.equal t (.iface d u) .nilIface)))) := rfl
    rw [this]; simp [he]
theorem nilB_run2 {op : BinOp} {v : Value} {t : Nat} (h : nilB op true = some v) (ht : isI t = true) (w : World) : (binOp op t .nilIface .nilIface).run Try.prog w = .ok v w := by
  obtain ⟨ms, hu⟩ := isI_und ht
  have he : (Op.equal t .nilIface .nilIface).run Try.prog w = .ok true w := by
    have h : ∀ k : Nat, (Op.equalIn (k + 1) t .nilIface .nilIface).run Try.prog w = .ok true w := fun k => by
      simp [Op.equalIn, run_underlying hu]
    exact h 9999
  cases op <;> simp only [nilB, Option.some.injEq, reduceCtorEq] at h <;> subst h
  · have : binOp .eql t .nilIface .nilIface = (do pure (.bool (← Op.equal t .nilIface .nilIface))) := rfl
    rw [this]; simp [he]
  · have : binOp .neq t .nilIface .nilIface = (do pure (.bool (!(← Op.equal t .nilIface .nilIface)))) := rfl
    rw [this]; simp [he]
theorem eqGuard_in (op : BinOp) (t : TypeId) (x y : Operand) (d : TypeId) (u : Value) (P : Program) (w : World) : (eqGuard op t x y (.iface d u) .nilIface).run P w = .ok () w := by
  cases op <;> simp [eqGuard]
theorem eqGuard_nn (op : BinOp) (t : TypeId) (x : Operand) (c : Value) (P : Program) (w : World) : (eqGuard op t x (.const c) .nilIface .nilIface).run P w = .ok () w := by
  cases op <;> cases x <;> simp [eqGuard]

theorem und_slice {t e s b : Nat} {z : Option Value} (h : tab t = some ⟨.slice e, s, b, z⟩) : Try.prog.underlying t = some (.slice e) := by
  obtain ⟨d, j, hd, _, hu, _⟩ := tab_und h
  rw [hd]; cases d <;> simp [ukOf] at hu ⊢; exact hu
theorem und_int {t s b : Nat} {k : IntKind} {z : Option Value} (h : tab t = some ⟨.int k, s, b, z⟩) : Try.prog.underlying t = some (.int k) := by
  obtain ⟨d, j, hd, _, hu, _⟩ := tab_und h
  rw [hd]; cases d <;> simp [ukOf] at hu ⊢; exact hu
theorem und_string {t s b : Nat} {z : Option Value} (h : tab t = some ⟨.string, s, b, z⟩) : Try.prog.underlying t = some .string := by
  obtain ⟨d, j, hd, _, hu, _⟩ := tab_und h
  rw [hd]; cases d <;> simp [ukOf] at hu ⊢
theorem und_struct {t s b : Nat} {fs : List (Nat × Nat × Nat)} {z : Option Value} (h : tab t = some ⟨.struct fs, s, b, z⟩) :
    ∃ F : Array Field, Try.prog.underlying t = some (.struct F) ∧ fs = F.toList.map fun f => (f.offset, Try.prog.cellsOf f.type, aggB Try.prog f.type) := by
  obtain ⟨d, j, hd, _, hu, _⟩ := tab_und h
  cases d <;> simp [ukOf] at hu
  rename_i F
  exact ⟨F, hd, hu.symm⟩
theorem und_field {t s b f off sz : Nat} {ag : Nat} {fs : List (Nat × Nat × Nat)} {z : Option Value} (h : tab t = some ⟨.struct fs, s, b, z⟩) (hf : fs[f]? = some (off, sz, ag)) :
    ∃ (F : Array Field) (g : Field), Try.prog.underlying t = some (.struct F) ∧ F[f]? = some g ∧ g.offset = off ∧ Try.prog.cellsOf g.type = sz ∧ aggB Try.prog g.type = ag := by
  obtain ⟨F, hF, rfl⟩ := und_struct h
  simp only [List.getElem?_map, Option.map_eq_some_iff, Array.getElem?_toList, Prod.mk.injEq] at hf
  obtain ⟨g, hg, h1, h2, h3⟩ := hf
  exact ⟨F, g, hF, hg, h1, h2, h3⟩
theorem isAgg_no {t : TypeId} (h : aggB Try.prog t = 0) (w : World) : (isAgg t).run Try.prog w = .ok false w := by
  unfold aggB at h
  split at h
  · cases h
  · cases h
  · rename_i d h1 h2 hd
    unfold isAgg
    rw [Sem.run_bind, run_underlying hd]
    cases d <;> first | rfl | exact absurd rfl (h1 _) | exact absurd rfl (h2 _ _)
  · cases h
theorem isAgg_yes {t : TypeId} (h : aggB Try.prog t = 1) (w : World) : (isAgg t).run Try.prog w = .ok true w := by
  unfold aggB at h
  split at h
  · rename_i hd; unfold isAgg; rw [Sem.run_bind, run_underlying hd]; rfl
  · rename_i hd; unfold isAgg; rw [Sem.run_bind, run_underlying hd]; rfl
  · cases h
  · cases h
theorem sizeOf_run {t sz : Nat} (h : Try.prog.cellsOf t = sz + 1) (w : World) : (sizeOf t).run Try.prog w = .ok (sz + 1) w := by
  unfold Program.cellsOf at h
  cases hi : Try.prog.info? t with
  | none => simp [hi] at h
  | some i => simp [hi] at h; simp [sizeOf, typeInfo, hi, h]

theorem evP_run {op : Op} {v : Value} {E : Env} (h : evP E op = some v) {a : Act} {n : FrC} (hA : Agr n a E) (dst : Option Tmp) (ty : TypeId) (pos : String) (after : Array Edge)
    (guard : Option (Nat × Bool)) (w : World) : (execOp a.eval { dst, op, type := ty, pos, after, guard }).run Try.prog w = .ok (.value v) w := by
  cases op with
  | move x => simp only [evP] at h; simp [execOp, hA.val h]
  | assign x => simp only [evP] at h; simp [execOp, hA.val h]
  | pick c x y =>
    simp only [evP] at h
    split at h
    · rename_i hc; simp [execOp, hA.val h, hA.val hc, asBool]
    · rename_i hc; simp [execOp, hA.val h, hA.val hc, asBool]
    · cases h
  | binOp op t x y yt =>
    simp only [evP] at h
    split at h
    · rename_i k p k' q hx hy
      split at h
      · rename_i hk; subst hk
        split at h
        · rename_i u hu
          simp only [Option.some.injEq] at h; subst h
          simp [execOp, hA.val hx, hA.val hy, eqGuard_int, intB_run hu]
        · simp [execOp, hA.val hx, hA.val hy, eqGuard_int, constB_run h hy]
      · cases h
    · rename_i p q hx hy
      split at h
      · rename_i hb; simp [execOp, hA.val hx, hA.val hy, eqGuard_bool, boolB_run h hb]
      · cases h
    · rename_i p q hx hy; simp [execOp, hA.val hx, hA.val hy, eqGuard_str, strB_run h]
    · rename_i d u hx hy
      split at h
      · rename_i ht; simp [execOp, hA.val hx, hA.val hy, eqGuard_in, nilB_run1 h ht]
      · cases h
    · rename_i hx hy
      split at h
      · rename_i c
        split at h
        · rename_i ht
          have hy' := hA.val hy
          simp [execOp, hA.val hx, hy', eqGuard_nn, nilB_run2 h ht]
        · cases h
      · cases h
    · cases h
  | unOp op t x =>
    simp only [evP] at h
    split at h
    · rename_i b hx; simp only [Option.some.injEq] at h; subst h; simp [execOp, hA.val hx, Op.unary]
    · rename_i k m hx; simp only [Option.some.injEq] at h; subst h; simp [execOp, hA.val hx, Op.unary, Op.intArith]
    · cases h
  | convert s d x =>
    simp only [evP] at h
    split at h
    · rename_i k1 _ _ _ k2 _ _ _ k3 m hs hd hx
      simp only [Option.some.injEq] at h; subst h
      simp [execOp, hA.val hx, convert, run_underlying (und_int hs), run_underlying (und_int hd), Conv.intToInt]
    · cases h
  | fieldAddr t x f =>
    simp only [evP] at h
    split at h
    · rename_i fs _ _ _ b o ht hx
      split at h
      · rename_i off sz _ hf
        simp only [Option.some.injEq] at h; subst h
        obtain ⟨F, g, hF, hg, h1, h2, _⟩ := und_field ht hf
        have hi : ∃ i, Try.prog.info? g.type = some i ∧ i.size = sz + 1 := by
          unfold Program.cellsOf at h2
          cases hi : Try.prog.info? g.type with
          | none => simp [hi] at h2
          | some i => exact ⟨i, rfl, by simpa [hi] using h2⟩
        obtain ⟨i, hi, hs⟩ := hi
        subst h1
        have : Addr.add ⟨b, o, none⟩ g.offset = ⟨b, o + g.offset, none⟩ := by
          unfold Addr.add; split <;> simp_all
        simp [execOp, hA.val hx, Instr.fieldAt, run_underlying hF, hg, Instr.sureAddr, fieldPlace, sizeOf, typeInfo, hi, hs, this]
      · cases h
    · cases h
  | field t x f =>
    simp only [evP] at h
    split at h
    · rename_i fs _ _ _ cs ht hx
      split at h
      · rename_i off sz _ hf
        obtain ⟨F, g, hF, hg, h1, h2, h3⟩ := und_field ht hf
        subst h1
        simp [execOp, hA.val hx, Instr.field, run_underlying hF, hg, asAgg, part, isAgg_no h3, Array.getElem?_toList ▸ h]
      · rename_i off sz hf
        obtain ⟨F, g, hF, hg, h1, h2, h3⟩ := und_field ht hf
        subst h1
        simp only [Option.some.injEq] at h; subst h
        simp [execOp, hA.val hx, Instr.field, run_underlying hF, hg, asAgg, part, isAgg_yes h3, sizeOf_run h2]
      · cases h
    · cases h
  | extract x i =>
    simp only [evP] at h
    split at h
    · rename_i vs hx; simp [execOp, hA.val hx, Instr.extract, Array.getElem?_toList ▸ h]
    · cases h
  | makeFunc fn first cap =>
    simp only [evP] at h
    split at h
    · rename_i f c hf hc
      simp only [Option.some.injEq] at h; subst h
      have e1 := hA.vals _ _ hf
      have e2 := hA.vals _ _ hc
      have e3 : first.map a.eval = f.toArray := by rw [← e1]; exact Array.ext' (by simp)
      have e4 : cap.map a.eval = c.toArray := by rw [← e2]; exact Array.ext' (by simp)
      simp [execOp, Instr.makeFunc, e3, e4]
    · cases h
  | nilCheck x =>
    simp only [evP] at h
    split at h
    · rename_i p hx
      simp only [Option.some.injEq] at h; subst h; simp [execOp, hA.val hx]
    · cases h
  | makeInterface t x =>
    simp only [evP] at h
    split at h
    · cases h
    · rename_i i u hn ht hx
      simp only [Option.some.injEq] at h; subst h
      obtain ⟨d, j, hd, _, hu, _⟩ := tab_und ht
      have : ∀ ms, d ≠ .interface ms := by
        rintro ms rfl
        obtain ⟨uk, s1, s2, z⟩ := i
        simp [ukOf] at hu
        subst hu
        exact hn _ _ _ rfl
      have hr : (Instr.makeInterface t u).run Try.prog w = .ok (.iface t u) w := by
        unfold Instr.makeInterface
        rw [Sem.run_bind, run_underlying hd]
        cases d <;> first | rfl | exact absurd rfl (this _)
      simp [execOp, hA.val hx, hr]
    · cases h
  | typeAssert x xt t ok =>
    simp only [evP] at h
    split at h
    · cases h
    · rename_i i u v hn ht hx
      split at h
      · rename_i hb
        obtain rfl := Nat.eq_of_beq_eq_true hb
        obtain ⟨d, j, hd, _, hu, _⟩ := tab_und ht
        have hni : ∀ ms, d ≠ .interface ms := by
          rintro ms rfl
          obtain ⟨uk, s1, s2, z⟩ := i
          simp [ukOf] at hu
          subst hu
          exact hn _ _ _ rfl
        have hr : ∀ ok : Bool, (Instr.typeAssert (.iface u v) xt u ok).run Try.prog w = .ok (if ok then .tuple #[v, .bool true] else v) w := by
          intro ok
          unfold Instr.typeAssert
          simp only [Sem.run_bind, run_underlying hd, Result.andThen_ok]
          cases d <;> first | exact absurd rfl (hni _) | (simp)
        split at h
        · simp only [Option.some.injEq] at h; subst h; simp [execOp, hA.val hx, hr]
        · simp only [Option.some.injEq] at h; subst h; simp [execOp, hA.val hx, hr]
      · cases h
    · cases h
  | call c =>
    obtain ⟨callee, xs, ts⟩ := c
    cases callee with
    | value f => simp [evP] at h
    | invoke r m => simp [evP] at h
    | builtin b =>
      cases b with
      | len =>
        simp only [evP] at h
        split at h
        · rename_i x t hxs hts
          have e1 : xs = #[x] := by cases xs; simp at hxs; simp [hxs]
          have e2 : ts = #[t] := by cases ts; simp at hts; simp [hts]
          subst e1; subst e2
          split at h
          · rename_i ht hx
            simp only [Option.some.injEq] at h; subst h
            simp [execOp, resolve, invoke, builtin, Builtin.len_, hA.val hx, run_underlying (und_slice ht), goInt]
          · rename_i ht hx
            simp only [Option.some.injEq] at h; subst h
            simp [execOp, resolve, invoke, builtin, Builtin.len_, hA.val hx, run_underlying (und_string ht), goInt]
          · cases h
        · cases h
      | min =>
        simp only [evP] at h
        split at h
        · rename_i x y hxs
          have e1 : xs = #[x, y] := by cases xs; simp at hxs; simp [hxs]
          subst e1
          split at h
          · rename_i k p k' q hx hy
            simp only [Option.some.injEq] at h; subst h
            simp [execOp, resolve, invoke, builtin, Builtin.min_, Builtin.min2, hA.val hx, hA.val hy]
          · cases h
        · cases h
      | max =>
        simp only [evP] at h
        split at h
        · rename_i x y hxs
          have e1 : xs = #[x, y] := by cases xs; simp at hxs; simp [hxs]
          subst e1
          split at h
          · rename_i k p k' q hx hy
            simp only [Option.some.injEq] at h; subst h
            simp [execOp, resolve, invoke, builtin, Builtin.max_, Builtin.max2, hA.val hx, hA.val hy]
          · cases h
        · cases h
      | _ => simp [evP] at h
  | _ => simp [evP] at h

end Go.Proofs.Ytbhfbpeldcnpfaa
