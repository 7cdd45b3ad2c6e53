/- The engine: pieces in another order, and rows of rows. -/
import Derived.Test.YtbhfbpeldcnpfaaEngH
import Derived.Test.YtbhfbpeldcnpfaaEngI
import Derived.Test.YtbhfbpeldcnpfaaEngM
import Derived.Scope
namespace Go.Proofs.Ytbhfbpeldcnpfaa
open Go.RowKit
variable {X : Cx} {Q : Post} {E E' : Env} {H H' K : Heap}
/-- Whatever world has these pieces has those. -/
def Fit (X : Cx) (H K : Heap) : Prop := ∀ w, Has X.w0 X.M w H → Has X.w0 X.M w K
theorem Fit.refl : Fit X H H := fun _ h => h
theorem Fit.trans (h1 : Fit X H H') (h2 : Fit X H' K) : Fit X H K := fun w h => h2 w (h1 w h)
theorem Fit.picks (ix : List Nat) (hi : ix.Nodup) (h : Proofs.Ytbhfbpeldcnpfaa.picks H ix = some K) : Fit X H K := fun _ hw => hw.picks ix hi h
theorem Has.perm {w0 w : World} {M : List Nat} (h : Has w0 M w H) (hp : H.Perm K) : Has w0 M w K :=
  ⟨h.os, h.tape, h.output, h.size, h.keep, fun c hc => h.holds c (hp.mem_iff.2 hc), fun c hc => h.own c (hp.mem_iff.2 hc), h.dis.perm hp fun h => apart_symm h⟩
theorem Fit.perm (h : H.Perm K) : Fit X H K := fun _ hw => hw.perm h
theorem Has.sub {w0 w : World} {M : List Nat} (h : Has w0 M w H) (hp : K.Sublist H) : Has w0 M w K :=
  ⟨h.os, h.tape, h.output, h.size, h.keep, fun c hc => h.holds c (hp.mem hc), fun c hc => h.own c (hp.mem hc), h.dis.sublist hp⟩
theorem Fit.sub (h : K.Sublist H) : Fit X H K := fun _ hw => hw.sub h
theorem JL_fit {ops l : List Oper} (hf : Fit X H K) (h : JL X ops l Q E K) : JL X ops l Q E H := fun a w hA hH => h a w hA (hf w hH)
theorem J_fit {c : Code} (hf : Fit X H K) (h : J X c Q E K) : J X c Q E H := fun a w hA hH => h a w hA (hf w hH)
theorem JW_fit {ops : List Oper} {l : List (Nat × Bool)} {Sf : Heap} {P : Env → Heap → Prop} (hf : Fit X H K) (h : JW X ops l Sf P E K) : JW X ops l Sf P E H := fun a w hA hH => h a w hA (hf w hH)
/-- A loop, its pieces known by a fit. -/
theorem J_loopF {σ : Type} {c : Code} (F : σ → Env) (K : σ → Heap) (I : σ → Prop) (μ : σ → Nat) (s : σ) (hF : Ents E (F s)) (hK : Fit X H (K s)) (hI : I s)
    (round : ∀ s, I s → J X c (thenQ (fun E' H' => ∃ s', Ents E' (F s') ∧ Fit X H' (K s') ∧ I s' ∧ μ s' < μ s) Q) (F s) (K s)) : J X (.loop c) Q E H := by
  intro a w hA hH
  refine wp_loop_ghost (fun k a w => ∃ s, k = μ s ∧ I s ∧ Agr X.n a (F s) ∧ Has X.w0 X.M w (K s)) (μ s) ⟨s, rfl, hI, hA.ents _ hF, hK w hH⟩ ?_
  rintro k a w ⟨s, rfl, hI, hA, hH⟩
  refine wp_mono (round s hI a w hA hH) ?_
  rintro e a' w' ⟨E', H', hA', hH', hq⟩
  cases e with
  | normal =>
    obtain ⟨s', h1, h2, h3, h4⟩ := hq
    exact ⟨μ s', h4, s', rfl, h3, hA'.ents _ h1, h2 w' hH'⟩
  | _ => exact ⟨E', H', hA', hH', hq⟩
theorem J_cutF {x y : Code} (F : Env) (K : Heap) (h1 : J X x (thenQ (fun E' H' => Ents E' F ∧ Fit X H' K) Q) E H) (h2 : J X y Q F K) : J X (.seq x y) Q E H := by
  refine J_seq (J_mono h1 ?_)
  intro e E' H' hq
  cases e with
  | normal => exact fun a w hA hH => h2 a w (hA.ents F hq.1) (hq.2 w hH)
  | _ => exact hq
/-! ### One piece of many, brought to the front, and back -/
theorem front_perm {A R : Heap} {c : Chunk} {i : Nat} (h : R[i]? = some c) : (A ++ R).Perm (c :: (A ++ R.eraseIdx i)) := by
  obtain ⟨hi, rfl⟩ := List.getElem?_eq_some_iff.1 h
  have h1 : R.Perm (R[i] :: R.eraseIdx i) := by
    rw [List.eraseIdx_eq_take_drop_succ]
    have e : R = R.take i ++ R[i] :: R.drop (i + 1) := by rw [← List.drop_eq_getElem_cons hi, List.take_append_drop]
    exact (List.Perm.of_eq e).trans List.perm_middle
  exact (List.Perm.append_left A h1).trans List.perm_middle
theorem back_perm {A R : Heap} {c : Chunk} {i : Nat} (h : i < R.length) : (c :: (A ++ R.eraseIdx i)).Perm (A ++ R.set i c) := by
  have h1 : (R.set i c)[i]? = some c := by simp [h]
  have h2 : (R.set i c).eraseIdx i = R.eraseIdx i := by
    rw [List.eraseIdx_eq_take_drop_succ, List.eraseIdx_eq_take_drop_succ, List.take_set_of_le (Nat.le_refl _), List.drop_set_of_lt (by omega)]
  have := (front_perm (A := A) h1).symm
  rwa [h2] at this
/-! ### Labels that are only broken to -/
def noGotoQ (Q : Post) : Post
  | .goto _, _, _ => False
  | e, E, H => Q e E H
theorem J_scope {c : Code} (h : J X c (noGotoQ Q) E H) : J X (.scope c) Q E H := by
  intro a w hA hH
  refine wp_scope_straight (wp_mono (h a w hA hH) ?_)
  rintro e a' w' ⟨E', H', hA', hH', hq⟩
  cases e with
  | goto l => exact hq.elim
  | _ => exact ⟨E', H', hA', hH', hq⟩
theorem J_label {l : Nat} (h : Q .normal E H) : J X (.label l) Q E H := fun _ _ hA hH => wp_label ⟨E, H, hA, hH, h⟩
/-! ### A row that is cut at its end -/
theorem own_shrink {w : World} {e sz n m c : Nat} {A : Option Addr} {xs : List Value} (h : w.ownsRow 0 e sz (.slice A n c) n xs) (hm : m ≤ n) : w.ownsRow 0 e sz (.slice A m c) m (xs.take (m * sz)) := by
  obtain ⟨h1, h2 | ⟨g, cap, cur, hv, h0, hg, hn, hc, hs, hx⟩⟩ := h
  · obtain ⟨hv, rfl⟩ := h2
    obtain rfl : m = 0 := by omega
    simp only [Value.slice.injEq] at hv
    obtain ⟨rfl, _, rfl⟩ := hv
    exact ⟨by simp, .inl ⟨rfl, rfl⟩⟩
  · simp only [Value.slice.injEq] at hv
    obtain ⟨rfl, _, rfl⟩ := hv
    have hle : m * sz ≤ n * sz := Nat.mul_le_mul_right sz hm
    refine ⟨by rw [List.length_take, h1]; omega, .inr ⟨g, c, cur, rfl, h0, hg, by omega, hc, hs, ?_⟩⟩
    rw [← hx, List.take_take, Nat.min_eq_left hle]
theorem Has.chunk {w0 w : World} {M : List Nat} {c d : Chunk} (k : Nat) (hH : Has w0 M w H) (hk : H[k]? = some c) (hd : d.holds w) (hm : ∀ b, d.mine = some b → c.mine = some b) (ha : ∀ b, d.at_ = some b → c.at_ = some b ) : Has w0 M w (H.set k d) := by
  have hkl : k < H.length := (List.getElem?_eq_some_iff.1 hk).1
  have hmem : ∀ e ∈ H.set k d, e = d ∨ e ∈ H := fun e he => by
    rcases List.mem_or_eq_of_mem_set he with h | h
    · exact .inr h
    · exact .inl h
  refine ⟨hH.os, hH.tape, hH.output, hH.size, hH.keep, fun e he => ?_, fun e he b hb => ?_, ?_⟩
  · rcases hmem e he with rfl | h
    · exact hd
    · exact hH.holds e h
  · rcases hmem e he with rfl | h
    · exact hH.own c (List.mem_of_getElem? hk) b (hm b hb)
    · exact hH.own e h b hb
  · rw [List.pairwise_iff_getElem]
    intro i j hi hj hij
    simp only [List.length_set] at hi hj
    have hp : ∀ i j (hi : i < H.length) (hj : j < H.length), i ≠ j → apart H[i] H[j] := fun i j hi hj hne => apart_of_get hH.dis (List.getElem?_eq_getElem hi) (List.getElem?_eq_getElem hj) hne
    have hck : c = H[k] := by rw [List.getElem?_eq_getElem hkl] at hk; exact (Option.some.inj hk).symm
    simp only [List.getElem_set]
    split
    · rename_i e1
      subst e1
      rw [if_neg (by omega)]
      have := hp k j hi hj (by omega)
      rw [← hck] at this
      exact ⟨fun b hb => this.1 b (hm b hb), fun b hb hb2 => this.2 b hb (ha b hb2)⟩
    · split
      · rename_i e1
        subst e1
        have := hp i k hi hj (by omega)
        rw [← hck] at this
        exact ⟨fun b hb hb2 => this.1 b hb (ha b hb2), fun b hb => this.2 b (hm b hb)⟩
      · exact hp i j hi hj (by omega)
theorem JL_shrink {ops l : List Oper} {e sz n m c : Nat} {A : Option Addr} {xs : List Value} (k : Nat) (hk : H[k]? = some (.own (.slice A n c) e sz n xs)) (hm : m ≤ n) (h : JL X ops l Q E (H.set k (.own (.slice A m c) e sz m (xs.take (m * sz))))) : JL X ops l Q E H :=
  fun a w hA hH => h a w hA (hH.chunk k hk (own_shrink (hH.holds _ (List.mem_of_getElem? hk)) hm) (fun _ h => by cases A <;> exact h) (fun _ h => by cases A <;> exact h))
theorem Fit.shrink {e sz n m c : Nat} {A : Option Addr} {xs : List Value} (k : Nat) (hk : H[k]? = some (.own (.slice A n c) e sz n xs)) (hm : m ≤ n) : Fit X H (H.set k (.own (.slice A m c) e sz m (xs.take (m * sz)))) :=
  fun _ hH => hH.chunk k hk (own_shrink (hH.holds _ (List.mem_of_getElem? hk)) hm) (fun _ h => by cases A <;> exact h) (fun _ h => by cases A <;> exact h)
/-! ### Rows of rows -/
structure Row where
  A : Option Addr
  c : Nat
  l : List Int
def rowV (r : Row) : Value := .slice r.A r.l.length r.c
def rowC (e : Nat) (r : Row) : Chunk := .own (rowV r) e 1 r.l.length (ints r.l)
def nilRow : Row := ⟨none, 0, []⟩
theorem Has.nils {w0 w : World} {M : List Nat} (e : Nat) (h : Has w0 M w H) : ∀ n : Nat, Has w0 M w (H ++ List.replicate n (rowC e nilRow))
  | 0 => by simpa using h
  | n + 1 => by
    have h1 := (h.nils e n).addnil e 1
    refine h1.perm ?_
    rw [List.replicate_succ]
    exact List.perm_middle.symm
theorem Fit.nils (e n : Nat) : Fit X H (H ++ (List.replicate n nilRow).map (rowC e)) := fun w h => by rw [List.map_replicate]; exact h.nils e n
theorem put_one {t by_ i : Nat} {uk : UK} {z : Option Value} {cs : List Value} {v : Value} (ht : tab t = some ⟨uk, 1, by_, z⟩) (hv : v.cells.toList = [v]) (h1 : v.oneCell' = true) (hi : i < cs.length) : putT t cs i v.cells.toList = some (cs.set i v) := by
  unfold putT
  rw [ht, hv]
  have h2 : Nat.ble (i + 1) cs.length = true := Nat.ble_eq_true_of_le (by omega)
  simp only [List.length_cons, List.length_nil, Nat.zero_add, Nat.beq_refl, h2, one, h1, wr]
theorem Fit.front {A R : Heap} {c : Chunk} {i : Nat} (h : R[i]? = some c) : Fit X (A ++ R) (c :: (A ++ R.eraseIdx i)) := Fit.perm (front_perm h)
theorem Fit.back {A R : Heap} {c : Chunk} {i : Nat} (h : i < R.length) : Fit X (c :: (A ++ R.eraseIdx i)) (A ++ R.set i c) := Fit.perm (back_perm h)
end Go.Proofs.Ytbhfbpeldcnpfaa
