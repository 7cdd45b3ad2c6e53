/- Arguments that hold rows, opened into the engine's pieces. -/
import Derived.Test.YtkiadfpkgpgbiaaGreatDoorRw
import Derived.Test.YtkiadfpkgpgbiaaGreatDoorQA
import Derived.SizedLaws
import Derived.ChangeSlices
import Derived.Deep.Slices
import Derived.Deep.Fields
import Derived.ChangeSame
import Derived.Lib.SmallJoins
import Derived.ShutString
import Derived.ChangeOld
set_option linter.unusedVariables false
set_option linter.unusedSimpArgs false
namespace Go.Proofs.YtkiadfpkgpgbiaaGreatDoor
open Go.RowKit Go.ChangeShapes Go.WideShapes Go.Deep Go.Joins
section
variable {H : Type} {enc : TypeId × Value → H} {P : Program} {w : World} {base : Nat} {spare : Nat → Bool} {held : Bool}
theorem sized_of {ts : List TypeId} {ds : List (DataW H)} (h : (DataW.weightsEach P ts ds).all (· ≤ reachBytes) = true) {j : Nat} {t : TypeId} {d : DataW H} (ht : ts[j]? = some t) (hd : ds[j]? = some d) : ∀ n ∈ d.weights P t, n ≤ reachBytes := fun n hn => by
  have := List.all_eq_true.1 h n (DataW.weights_mem_each ht hd n hn)
  simpa using this
theorem at_none {a : Addr} {v : Value} (h : w.cell? a = some v) : a = ⟨a.block, a.off, none⟩ := by
  unfold World.cell? at h
  obtain ⟨b, o, s⟩ := a
  cases s with
  | none => rfl
  | some q => revert h; simp only [Option.isSome]; split <;> simp
theorem at_add (b o i : Nat) : (⟨b, o, none⟩ : Addr).add i = ⟨b, o + i, none⟩ := by
  unfold Addr.add
  split
  · rename_i h; subst h; rfl
  · rfl
theorem core_ints {t e : TypeId} {fuel : Nat} {cs : List Value} {x : DataW H × List MemPlace} (ht : P.underlying t = some (.slice e)) (he : P.underlying e = some (.int .i64)) (hC : P.cellsOf e = 1) (hB : P.bytesOf e = 8)
    (h : DataW.trod enc P w base spare held fuel t cs = some x) (hz : ∀ n ∈ x.1.weights P t, n ≤ reachBytes) :
    ∃ (A : Option Addr) (c b o : Nat) (l : List Int), cs = [.slice A l.length c] ∧ (l ≠ [] → A = some ⟨b, o, none⟩) ∧ (Chunk.seg b o (ints l)).holds w ∧ (∀ n ∈ l, inB n) ∧ l.length * 8 ≤ 140737488351232 := by
  rcases open_ints ht he hC h with ⟨rfl, rfl⟩ | ⟨a, len, cap, zs, rfl, _, hl, _, hlz, rfl, hcell, hwf⟩
  · exact ⟨none, 0, 0, 0, [], rfl, fun h => absurd rfl h, fun i v hv => by simp [ints] at hv, fun n hn => (List.not_mem_nil hn).elim, by simp⟩
  · have hle : len ≤ zs.length := by rw [hlz]; split; · exact hl
                                     · exact Nat.le_refl _
    have hlen : (zs.take len).length = len := by rw [List.length_take]; omega
    refine ⟨some a, cap, a.block, a.off, zs.take len, by rw [hlen], fun hne => ?_, fun i v hv => ?_, fun n hn => ?_, ?_⟩
    · have hpos : 0 < len := by
        rcases Nat.eq_zero_or_pos len with h0 | h0
        · exact absurd (by rw [h0]; rfl) hne
        · exact h0
      have := hcell 0 (by omega)
      exact congrArg some (at_none (a := a) (by simpa [Addr.add] using this))
    · simp only [ints, List.getElem?_map, Option.map_eq_some_iff] at hv
      obtain ⟨n, hn, rfl⟩ := hv
      have hi : i < len := by have := (List.getElem?_eq_some_iff.1 hn).1; omega
      have hn' : zs[i]? = some n := by rw [List.getElem?_take] at hn; simpa [hi] using hn
      have h0 := hcell 0 (by omega)
      have ea := at_none (a := a) (by simpa [Addr.add] using h0)
      have := hcell i (by omega)
      rw [ea, at_add] at this
      rw [this]
      simp [List.getD, hn']
    · have := hwf n (List.mem_of_mem_take hn)
      exact inB_of this
    · have hw := hz ((zs.take len).length * 8 + (zs.drop len).length * 8) (by
        simp only [DataW.weights, ht, hB, lits, List.length_map, List.mem_cons]
        left
        rw [Nat.add_mul])
      have : reachBytes = 140737488351232 := by decide
      omega
theorem opn_ints {r : Reach} {b0 : Nat} {t e : TypeId} {v : Value} {d : DataW H} {p : List MemPlace} (ht : P.underlying t = some (.slice e)) (he : P.underlying e = some (.int .i64)) (hC : P.cellsOf e = 1) (hB : P.bytesOf e = 8) (hok : Value.okWide P w r b0 t v)
    (h : DataW.Trod enc P w base spare held t v d p) (hz : ∀ n ∈ d.weights P t, n ≤ reachBytes) :
    ∃ (A : Option Addr) (c b o : Nat) (l : List Int), v = .slice A l.length c ∧ (l ≠ [] → A = some ⟨b, o, none⟩) ∧ (Chunk.seg b o (ints l)).holds w ∧ (∀ n ∈ l, inB n) ∧ l.length * 8 ≤ 140737488351232 := by
  obtain ⟨a, n, c, rfl⟩ := okWide_slice ht hok
  obtain ⟨fuel, hf⟩ := h
  obtain ⟨A, c', b, o, l, h1, h2⟩ := core_ints ht he hC hB hf hz
  refine ⟨A, c', b, o, l, ?_, h2⟩
  simpa [Value.cells] using h1
/-- Three whole numbers. -/
def recB (P : Program) (e : TypeId) (fs : Array Field) : Bool := oneCellFields P fs && Nat.beq (P.cellsOf e) 3 && Nat.beq (P.bytesOf e) 24 && Nat.beq fs.size 3 && fs.all fun f => match P.underlying f.type with
  | some (.int .i64) => true
  | _ => false
theorem rec3 {e : TypeId} {fs : Array Field} {n : Nat} {cs : List Value} {y : DataW H × List MemPlace} (he : P.underlying e = some (.struct fs)) (hB : recB P e fs = true) (h : DataW.trod enc P w base spare held n e cs = some y) :
    ∃ a : Arc, cs = [.int .i64 a.fr, .int .i64 a.to, .int .i64 a.cap] ∧ inB a.fr ∧ inB a.to ∧ inB a.cap := by
  simp only [recB, Bool.and_eq_true] at hB
  obtain ⟨⟨⟨⟨h1, h2⟩, _⟩, h4⟩, h5⟩ := hB
  have h2' := Nat.eq_of_beq_eq_true h2
  have h4' := Nat.eq_of_beq_eq_true h4
  obtain ⟨xs, n', _, _, hl, hlen, hf⟩ := DataW.trod_struct he h
  have one : ∀ j, j < 3 → ∃ k, cs[j]? = some (.int .i64 k) ∧ inB k := by
    intro j hj
    have hlt : j < fs.size := by omega
    obtain ⟨f, hfj⟩ : ∃ f, fs[j]? = some f := ⟨fs[j], Array.getElem?_eq_getElem hlt⟩
    obtain ⟨o1, o2⟩ := hone_of h1 j f hfj
    have hx := hf j f hfj
    rw [o1, o2] at hx
    have hu : P.underlying f.type = some (.int .i64) := by
      have := Array.all_eq_true.1 h5 j hlt
      rw [Array.getElem?_eq_getElem hlt] at hfj
      simp only [Option.some.injEq] at hfj
      rw [hfj] at this
      split at this
      · assumption
      · cases this
    have hxs : ∃ x, xs[j]? = some x := ⟨xs[j]'(by omega), List.getElem?_eq_getElem (by omega)⟩
    obtain ⟨x, hxs⟩ := hxs
    rw [hxs] at hx
    obtain ⟨k, hk, _, hw⟩ := DataW.trod_int hu hx
    refine ⟨k, ?_, inB_of hw⟩
    have hjc : j < cs.length := by omega
    rw [List.drop_eq_getElem_cons hjc] at hk
    have hk' : [cs[j]] = [Value.int .i64 k] := hk
    rw [List.getElem?_eq_getElem hjc, (List.cons.inj hk').1]
  obtain ⟨a, ha, ha'⟩ := one 0 (by omega)
  obtain ⟨b, hb, hb'⟩ := one 1 (by omega)
  obtain ⟨c, hc, hc'⟩ := one 2 (by omega)
  refine ⟨⟨a, b, c⟩, ?_, ha', hb', hc'⟩
  have hl3 : cs.length = 3 := by omega
  refine List.ext_getElem? fun i => ?_
  match i with
  | 0 => exact ha
  | 1 => exact hb
  | 2 => exact hc
  | i + 3 => rw [List.getElem?_eq_none (by omega)]; rfl
theorem core_recs {t e : TypeId} {fs : Array Field} {fuel : Nat} {cs : List Value} {x : DataW H × List MemPlace} (ht : P.underlying t = some (.slice e)) (he : P.underlying e = some (.struct fs)) (hB : recB P e fs = true)
    (h : DataW.trod enc P w base spare held fuel t cs = some x) (hz : ∀ n ∈ x.1.weights P t, n ≤ reachBytes) :
    ∃ (A : Option Addr) (c b o : Nat) (l : List Arc), cs = [.slice A l.length c] ∧ (l ≠ [] → A = some ⟨b, o, none⟩) ∧ (Chunk.seg b o (arcs l)).holds w ∧ (∀ a ∈ l, inB a.fr ∧ inB a.to ∧ inB a.cap) ∧ l.length * 24 ≤ 140737488351232 := by
  have hB' := hB
  simp only [recB, Bool.and_eq_true] at hB'
  obtain ⟨⟨⟨⟨_, h2⟩, h3⟩, _⟩, _⟩ := hB'
  have hC := Nat.eq_of_beq_eq_true h2
  have hBy := Nat.eq_of_beq_eq_true h3
  rcases open_slice ht h with ⟨rfl, rfl⟩ | ⟨a, len, cap, m, n, D, Pl, rfl, _, hl, _, hm, rfl, hi⟩
  · exact ⟨none, 0, 0, 0, [], rfl, fun h => absurd rfl h, fun i v hv => by simp [arcs] at hv, fun n hn => (List.not_mem_nil hn).elim, by simp⟩
  · have hle : len ≤ m := by rw [hm]; split <;> omega
    rw [hC] at hi
    have each : ∀ i, i < len → ∃ r : Arc, (w.cell? (a.add (i * 3)) = some (.int .i64 r.fr) ∧ w.cell? ((a.add (i * 3)).add 1) = some (.int .i64 r.to) ∧ w.cell? ((a.add (i * 3)).add 2) = some (.int .i64 r.cap)) ∧ inB r.fr ∧ inB r.to ∧ inB r.cap := by
      intro i hil
      obtain ⟨cs', hc, ht'⟩ := hi i (by omega)
      obtain ⟨r, rfl, hr⟩ := rec3 he hB ht'
      obtain ⟨_, _, hat⟩ := World.cells?_some hc
      refine ⟨r, ⟨?_, ?_, ?_⟩, hr⟩
      · have := hat 0 (by omega); simpa [Addr.add] using this
      · have := hat 1 (by omega); simpa using this
      · have := hat 2 (by omega); simpa using this
    have : Inhabited Arc := ⟨⟨0, 0, 0⟩⟩
    obtain ⟨L, hL⟩ := choose_lt (α := Arc) each
    refine ⟨some a, cap, a.block, a.off, (List.range len).map L, by simp, fun hne => ?_, fun i v hv => ?_, fun r hr => ?_, ?_⟩
    · have hpos : 0 < len := by
        rcases Nat.eq_zero_or_pos len with h0 | h0
        · exact absurd (by rw [h0]; rfl) hne
        · exact h0
      have := (hL 0 hpos).1.1
      exact congrArg some (at_none (a := a) (by simpa [Addr.add] using this))
    · have hil : i < ((List.range len).map L).length * 3 := by
        have h1 := (List.getElem?_eq_some_iff.1 hv).1
        have h2 : (arcs ((List.range len).map L)).length = ((List.range len).map L).length * 3 := by
          generalize (List.range len).map L = l
          induction l with
          | nil => rfl
          | cons a l ih =>
            have e : arcs (a :: l) = [.int .i64 a.fr, .int .i64 a.to, .int .i64 a.cap] ++ arcs l := by simp [arcs]
            rw [e, List.length_append, ih]; simp; omega
        omega
      simp only [List.length_map, List.length_range] at hil
      have h0 := (hL 0 (by omega)).1.1
      have ea := at_none (a := a) (by simpa [Addr.add] using h0)
      have hd : i / 3 < len := by omega
      have hg : ((List.range len).map L)[i / 3]? = some (L (i / 3)) := by simp [hd]
      obtain ⟨g0, g1, g2⟩ := arcs_get hg
      obtain ⟨⟨c0, c1, c2⟩, _⟩ := hL (i / 3) hd
      rw [ea, at_add, at_add] at c1 c2
      rw [ea, at_add] at c0
      have h3 : i % 3 = 0 ∨ i % 3 = 1 ∨ i % 3 = 2 := by omega
      rcases h3 with h3 | h3 | h3
      · rw [show i = i / 3 * 3 by omega] at hv ⊢
        rw [g0] at hv; rw [← hv, c0]
      · rw [show i = i / 3 * 3 + 1 by omega] at hv ⊢
        rw [g1] at hv; rw [← hv, ← Nat.add_assoc, c1]
      · rw [show i = i / 3 * 3 + 2 by omega] at hv ⊢
        rw [g2] at hv; rw [← hv, ← Nat.add_assoc, c2]
    · obtain ⟨i, hi', rfl⟩ := List.mem_map.1 hr
      exact (hL i (by simpa using hi')).2
    · have hw := hz (len * 24 + (m - len) * 24) (by
        simp only [DataW.weights, ht, hBy, List.length_map, List.length_range, List.mem_cons]
        left
        rw [Nat.add_mul])
      have : reachBytes = 140737488351232 := by decide
      simp only [List.length_map, List.length_range]
      omega
theorem opn_recs3 {r : Reach} {b0 : Nat} {t e : TypeId} {fs : Array Field} {v : Value} {d : DataW H} {p : List MemPlace} (ht : P.underlying t = some (.slice e)) (he : P.underlying e = some (.struct fs)) (hB : recB P e fs = true) (_ : true = true) (hok : Value.okWide P w r b0 t v)
    (h : DataW.Trod enc P w base spare held t v d p) (hz : ∀ n ∈ d.weights P t, n ≤ reachBytes) :
    ∃ (A : Option Addr) (c b o : Nat) (l : List Arc), v = .slice A l.length c ∧ (l ≠ [] → A = some ⟨b, o, none⟩) ∧ (Chunk.seg b o (arcs l)).holds w ∧ (∀ a ∈ l, inB a.fr ∧ inB a.to ∧ inB a.cap) ∧ l.length * 24 ≤ 140737488351232 := by
  obtain ⟨a, n, c, rfl⟩ := okWide_slice ht hok
  obtain ⟨fuel, hf⟩ := h
  obtain ⟨A, c', b, o, l, h1, h2⟩ := core_recs ht he hB hf hz
  refine ⟨A, c', b, o, l, ?_, h2⟩
  simpa [Value.cells] using h1
end
end Go.Proofs.YtkiadfpkgpgbiaaGreatDoor
