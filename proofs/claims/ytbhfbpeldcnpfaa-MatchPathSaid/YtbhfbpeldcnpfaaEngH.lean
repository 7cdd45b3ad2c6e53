/- The engine, its ninth part: rows that may hold nothing, and parts of rows. -/
import Derived.Test.YtbhfbpeldcnpfaaData
namespace Go.Proofs.Ytbhfbpeldcnpfaa
open Go.RowKit
variable {X : Cx} {Q : Post} {E E' : Env} {H : Heap}
theorem JL_know {ops l : List Oper} {p : Prop} (h0 : ∀ w, Has X.w0 X.M w H → p) (h : p → JL X ops l Q E H) : JL X ops l Q E H := fun a w hA hH => h (h0 w hH) a w hA hH
theorem J_know {c : Code} {p : Prop} (h0 : ∀ w, Has X.w0 X.M w H → p) (h : p → J X c Q E H) : J X c Q E H := fun a w hA hH => h (h0 w hH) a w hA hH
/-- What an own row tells. -/
theorem own_is (k : Nat) {A : Option Addr} {n m c e sz : Nat} {xs : List Value} (hk : H[k]? = some (.own (.slice A m c) e sz n xs)) : ∀ w, Has X.w0 X.M w H → n = m ∧ n ≤ c ∧ (0 < n → ∃ g, A = some ⟨g, 0, none⟩) ∧ xs.length = n * sz := by
  intro w hH
  have h : w.ownsRow 0 e sz (.slice A m c) n xs := hH.holds _ (List.mem_of_getElem? hk)
  obtain ⟨h1, h2 | ⟨g, cap, cur, hv, _, _, hn, _⟩⟩ := h
  · obtain ⟨hv, rfl⟩ := h2
    simp only [Value.slice.injEq] at hv
    exact ⟨hv.2.1.symm, Nat.zero_le _, fun h => absurd h (by omega), h1⟩
  · simp only [Value.slice.injEq] at hv
    obtain ⟨rfl, rfl, rfl⟩ := hv
    exact ⟨rfl, hn, fun _ => ⟨g, rfl⟩, h1⟩
theorem shows_drop {c : Chunk} {b off : Nat} {xs : List Value} (h : c.shows b off xs) (k : Nat) : c.shows b (off + k) (xs.drop k) := by
  intro w hw i v hv
  rw [List.getElem?_drop] at hv
  rw [Nat.add_assoc]
  exact h w hw _ v hv
theorem shows_take {c : Chunk} {b off : Nat} {xs : List Value} (h : c.shows b off xs) (k : Nat) : c.shows b off (xs.take k) := by
  intro w hw i v hv
  rw [List.getElem?_take] at hv
  split at hv
  · exact h w hw _ v hv
  · cases hv
theorem shows_nil {c : Chunk} {b off : Nat} : c.shows b off [] := fun _ _ _ _ hv => by simp at hv
theorem shows_ownS {g e sz n cap : Nat} {A : Option Addr} {xs : List Value} (hA : xs ≠ [] → A = some ⟨g, 0, none⟩) : (Chunk.own (.slice A n cap) e sz n xs).shows g 0 xs := by
  by_cases h : xs = []
  · subst h; exact shows_nil
  · rw [hA h]; exact shows_own
theorem seen_ownS {g e sz n cap : Nat} {A : Option Addr} {xs : List Value} (hA : xs ≠ [] → A = some ⟨g, 0, none⟩) : xs = [] ∨ (Chunk.own (.slice A n cap) e sz n xs).at_ = some g := by
  by_cases h : xs = []
  · exact .inl h
  · rw [hA h]; exact .inr rfl
theorem seen_seg {b off : Nat} {vs : List Value} : vs = [] ∨ (Chunk.seg b off vs).at_ = some b := by
  by_cases h : vs = []
  · exact .inl h
  · exact .inr (by simp only [Chunk.at_]; rw [if_neg h])
/-- An own row's address, put so that an empty row has one too. -/
theorem own_at {A : Option Addr} {n sz : Nat} {xs : List Value} (h : 0 < n → ∃ g, A = some ⟨g, 0, none⟩) (hl : xs.length = n * sz) : ∃ g, xs ≠ [] → A = some ⟨g, 0, none⟩ := by
  by_cases h0 : 0 < n
  · obtain ⟨g, hg⟩ := h h0; exact ⟨g, fun _ => hg⟩
  · refine ⟨0, fun hx => absurd (List.length_eq_zero_iff.1 ?_) hx⟩
    rw [hl, show n = 0 by omega, Nat.zero_mul]
/-- A block that is known whole, as a row of the call's own. -/
theorem own_of_blk {w : World} {b e sz n : Nat} {cs : List Value} (h : (blk b e cs).holds w) (hl : cs.length = n * sz) (hn : n ≤ maxLen) : (Chunk.own (.slice (some ⟨b, 0, none⟩) n n) e sz n cs).holds w := by
  refine ⟨hl, .inr ⟨b, n, cs.toArray, rfl, Nat.zero_le _, h, Nat.le_refl _, hn, by simp [hl], ?_⟩⟩
  simp only [← hl]
  exact List.take_length
theorem Has.blkOwn {w0 w : World} {M : List Nat} {b e sz n : Nat} {cs : List Value} (hH : Has w0 M w (blk b e cs :: H)) (hl : cs.length = n * sz) (hn : n ≤ maxLen) : Has w0 M w (.own (.slice (some ⟨b, 0, none⟩) n n) e sz n cs :: H) := by
  refine ⟨hH.os, hH.tape, hH.output, hH.size, hH.keep, fun c hc => ?_, fun c hc b' hb' => ?_, ?_⟩
  · rcases List.mem_cons.1 hc with rfl | hc
    · exact own_of_blk (hH.holds _ (by simp)) hl hn
    · exact hH.holds c (by simp [hc])
  · rcases List.mem_cons.1 hc with rfl | hc
    · exact hH.own (blk b e cs) (by simp) b' hb'
    · exact hH.own c (by simp [hc]) b' hb'
  · obtain ⟨h1, h2⟩ := List.pairwise_cons.1 hH.dis
    exact List.pairwise_cons.2 ⟨fun c hc => h1 c hc, h2⟩
theorem JL_own {ops l : List Oper} {b e : Nat} {cs : List Value} (sz n : Nat) (hl : cs.length = n * sz) (hn : n ≤ maxLen) (h : JL X ops l Q E (.own (.slice (some ⟨b, 0, none⟩) n n) e sz n cs :: H)) : JL X ops l Q E (blk b e cs :: H) :=
  fun a w hA hH => h a w hA (hH.blkOwn hl hn)
theorem append_none {t ty e sz by_ n c cx : Nat} {A Ax : Option Addr} {z : Option Value} {et : TI} (w : World) (ht : tab t = some ⟨.slice e, sz, by_, z⟩) (he : tab e = some et) (hn : n ≤ c) :
    (Builtin.append_ #[t, t] ty #[.slice A n c, .slice Ax 0 cx]).run Try.prog w = .ok (.slice A n c) w := by
  have h1 := und_slice ht
  cases A <;> cases Ax <;> simp [Builtin.append_, run_underlying h1, sizeOf_tab he, Builtin.lenOf, Builtin.firstCells, loadCells, loadCellsFrom, storeCells, hn]
/-- 'append(s, x...)': s the call's own, x any row. -/
theorem JL_appendS {F : Option Addr → Nat → Env} {ops l : List Oper} {o : Oper} {t e sz by_ sz' by' n m c0 cx b off : Nat} {s x : Operand} {uk : UK} {zv : Value} {A0 Ax : Option Addr} {z : Option Value} {xs news : List Value} {c2 : Chunk} (k k2 : Nat)
    (ho : o.op = .call ⟨.builtin .append, #[s, x], #[t, t]⟩) (hs : val E s = some (.slice A0 n c0)) (hx : val E x = some (.slice Ax m cx)) (ht : tab t = some ⟨.slice e, sz', by', z⟩)
    (he : tab e = some ⟨uk, sz, by_, some zv⟩) (hzs : zv.cells.size = sz) (hsz : 0 < sz) (hk : H[k]? = some (.own (.slice A0 n c0) e sz n xs)) (hk2 : H[k2]? = some c2) (hc2 : c2.shows b off news) (hAx : news ≠ [] → Ax = some ⟨b, off, none⟩)
    (hl : news.length = m * sz) (h1 : one news = true)
    (hmax : (n + m) * by_ ≤ 140737488355328) (hmax2 : n + m ≤ 2147483648) (hb : ∀ A c, bef X.n ops [] E o (.slice A (n + m) c) = some (F A c))
    (h : ∀ A c, JL X ops l Q (F A c) (H.set k (.own (.slice A (n + m) c) e sz (n + m) (xs ++ news)))) : JL X ops (o :: l) Q E H := by
  rcases Nat.eq_zero_or_pos m with h0 | hm
  · subst h0
    have hnew : news = [] := List.length_eq_zero_iff.1 (by simpa using hl)
    subst hnew
    refine JL_know (own_is k hk) fun ⟨_, hle, _, _⟩ => ?_
    refine JL_val [] (v := .slice A0 (n + 0) c0) (fun a w hA hH => ?_) (hb A0 c0) ?_
    · simp [execOp, ho, resolve, invoke, builtin, hA.val hs, hA.val hx, append_none w ht he hle]
    · have := h A0 c0
      rw [List.append_nil] at this
      have e1 : H.set k (.own (.slice A0 (n + 0) c0) e sz (n + 0) xs) = H := by
        refine List.ext_getElem? fun i => ?_
        rw [List.getElem?_set]
        split
        · rename_i hi; subst hi; split
          · exact hk.symm
          · rename_i hge; rw [List.getElem?_eq_none (by omega)] at hk; cases hk
        · rfl
      rw [e1] at this
      exact this
  · have hne : news ≠ [] := by
      intro h0
      rw [h0, List.length_nil] at hl
      have := Nat.mul_pos hm hsz
      omega
    rw [hAx hne] at hx
    exact JL_append k k2 ho hs hx ht he hzs hsz hk hk2 hc2 hl h1 hm hmax hmax2 (fun g c => hb _ c) (fun g c => h _ c)
/-- Parts of a row. -/
def cutA (A : Option Addr) (c l sz : Nat) : Option Addr := if c = l then A else A.map (·.add (l * sz))
theorem cutA_at {A : Option Addr} {c l sz n b o : Nat} (hA : l < n → A = some ⟨b, o, none⟩) (hc : n ≤ c) (hl : l < n) : cutA A c l sz = some ⟨b, o + l * sz, none⟩ := by
  unfold cutA
  rw [if_neg (by omega), hA hl]
  simp [Addr.add_at]
theorem cutA_zero {A : Option Addr} {c sz : Nat} : cutA A c 0 sz = A := by
  unfold cutA
  split
  · rfl
  · cases A <;> simp [Addr.add]
theorem und_elem {t e sz by_ : Nat} {z : Option Value} (ht : tab t = some ⟨.slice e, sz, by_, z⟩) : Try.prog.underlying t = some (.slice (Try.prog.elem t)) := by
  have h := und_slice ht
  rw [h]
  simp [Program.elem, h]
theorem und_elem' {t e sz by_ : Nat} {z : Option Value} (ht : tab t = some ⟨.slice e, sz, by_, z⟩) : Try.prog.elem t = e := by
  have h := und_slice ht
  simp [Program.elem, h]
theorem OpV_from {o : Oper} {t e n c i sz' by' : Nat} {x lo : Operand} {A : Option Addr} {z : Option Value} {et : TI} {k : IntKind} (ho : o.op = .slice t x (some lo) none none) (hx : val E x = some (.slice A n c)) (hlo : val E lo = some (.int k (i : Int)))
    (ht : tab t = some ⟨.slice e, sz', by', z⟩) (he : tab e = some et) (hi : i ≤ n) : OpV X o E H (.slice (cutA A c i et.size) (n - i) (c - i)) := by
  intro a w hA hH
  have h1 := und_elem ht
  have h2 := run_slice_l (P := Try.prog) (w := w) t A n c h1 k (i : Int) (by omega) (by omega)
  rw [und_elem' ht] at h2
  simp [execOp, ho, hA.val hx, hA.val hlo, run_sliceAt_slice w t _ _ _ _ h1, h2, sizeOf_tab he, sliced, cutA]
theorem OpV_upto {o : Oper} {t e n c i sz' by' : Nat} {x hi : Operand} {A : Option Addr} {z : Option Value} {et : TI} {k : IntKind} (ho : o.op = .slice t x none (some hi) none) (hx : val E x = some (.slice A n c)) (hlo : val E hi = some (.int k (i : Int)))
    (ht : tab t = some ⟨.slice e, sz', by', z⟩) (he : tab e = some et) (hi' : i ≤ c) : OpV X o E H (.slice A i c) := by
  intro a w hA hH
  have h1 := und_elem ht
  have h2 := run_slice_h (P := Try.prog) (w := w) t A n c h1 k (i : Int) (by omega) (by omega)
  rw [und_elem' ht] at h2
  have h3 := cutA_zero (A := A) (c := c) (sz := et.size)
  unfold cutA at h3
  simp only [Nat.zero_mul] at h3
  simp [execOp, ho, hA.val hx, hA.val hlo, run_sliceAt_slice w t _ _ _ _ h1, h2, sizeOf_tab he, sliced, h3]
end Go.Proofs.Ytbhfbpeldcnpfaa
