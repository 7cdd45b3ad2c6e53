/- The engine and the words that all chapters share: several texts in one. -/
import Derived.Test.YtfogkbmbmaganaaGreatQX16

/- The engine by trees: a node is taken out of a list. -/
set_option linter.unusedVariables false
set_option linter.unusedSimpArgs false
namespace Go.Proofs.YtfogkbmbmaganaaGreat
open Go.RowKit
def delV (bE bV : Nat) : Value := .func (.func 164) #[] #[.pointer (some ⟨bE, 0, none⟩), .pointer (some ⟨bV, 0, none⟩)]
abbrev EP.box (P : EP) (bE : Nat) : Chunk := .seg bE 0 [.pointer (some ⟨P.pe, 0, none⟩)]
abbrev vbox (bV v : Nat) : Chunk := .seg bV 0 [.int .i64 (v : Int)]
theorem del1_fn (P : EP) (k w bE bV v u : Nat) : Fn 164 [.int .i64 (u : Int), .pointer (some ⟨bE, 0, none⟩), .pointer (some ⟨bV, 0, none⟩)] (mines [P.pc k w]) ([P.box bE, vbox bV v] ++ [P.pc k w])
    fun r H' => r = .bool (cdec ((u : Int) = v)) ∧ H' = [P.pc (k + 1) w] := by
  generalize hM : mines _ = M
  refine Fn_of Tryz.func164 rfl rfl fun w0 => ?_
  (repeat' (first | refine J_seq ?_ | refine J_skip ?_ | refine J_yes rfl ?_ | refine J_no rfl ?_))
  refine J_region ?_
  refine JL_all [] rfl ?_
  (repeat' (first | refine J_seq ?_ | refine J_skip ?_ | refine J_yes rfl ?_ | refine J_no rfl ?_))
  refine J_region ?_
  refine JL_val [] (ldseg (i := 0) 0 rfl rfl rfl rfl rfl) rfl ?_
  refine JL_fit (Fit.re (A := [P.box bE, vbox bV v, P.pc k w]) (R := []) [2, 0, 1] rfl (by decide)) ?_
  refine JL_callK [] (tick_fn P k w) rfl rfl rfl rfl (by kernel_rfl) Fit.refl trivial (fun _ => rfl) ?_
  rintro v0 H' rfl
  refine ⟨rfl, ?_⟩
  refine JL_all [] rfl ?_
  (repeat' (first | refine J_seq ?_ | refine J_skip ?_ | refine J_yes rfl ?_ | refine J_no rfl ?_))
  refine J_region ?_
  refine JL_evO (gs := [999]) rfl ?_
  refine JL_val [] (ldseg (i := 0) 2 rfl rfl rfl rfl rfl) rfl ?_
  refine JL_all [] rfl ?_
  (repeat' (first | refine J_seq ?_ | refine J_skip ?_ | refine J_yes rfl ?_ | refine J_no rfl ?_))
  exact J_drop [0] (by decide) rfl (J_ret ⟨_, rfl, rfl, rfl⟩)
theorem split_get {pre post : List Nat} {v i : Nat} (h : i ≤ pre.length) (hv : v ∉ pre) : ∃ u, (pre ++ v :: post)[i]? = some u ∧ (i < pre.length → u ≠ v) ∧ (i = pre.length → u = v) := by
  by_cases e : i < pre.length
  · refine ⟨pre[i], by rw [List.getElem?_append_left e]; exact List.getElem?_eq_getElem e, fun _ he => hv (he ▸ List.getElem_mem _), fun h => by omega⟩
  · obtain rfl : i = pre.length := by omega
    exact ⟨v, by rw [List.getElem?_append_right (Nat.le_refl _), Nat.sub_self]; rfl, fun h => by omega, fun _ => rfl⟩
theorem idxdel_fn (P : EP) (k w bE bV v : Nat) (pre post : List Nat) (hv : v ∉ pre) (g c : Nat) (hl : (pre ++ v :: post).length ≤ 20000) :
    Fn 121 [.slice (some ⟨g, 0, none⟩) (pre ++ v :: post).length c, delV bE bV] (mines [P.pc k w]) ([P.box bE, vbox bV v, .seg g 0 (natsI (pre ++ v :: post))] ++ [P.pc k w])
      fun r H' => r = .int .i64 (pre.length : Int) ∧ H' = [P.pc (k + pre.length + 1) w] := by
  generalize hM : mines _ = M
  refine Fn_of Tryz.func121 rfl rfl fun w0 => ?_
  (repeat' (first | refine J_seq ?_ | refine J_skip ?_ | refine J_yes rfl ?_ | refine J_no rfl ?_))
  refine J_region ?_
  refine JL_all [] rfl ?_
  (repeat' (first | refine J_seq ?_ | refine J_skip ?_ | refine J_yes rfl ?_ | refine J_no rfl ?_))
  refine J_region ?_
  refine JL_all [] rfl ?_
  refine J_block ?_
  refine J_loop (σ := Nat) (fun i => [(8, .int .i64 (i : Int)), (7, .int .i64 ((pre ++ v :: post).length : Int)), (1, delV bE bV), (0, .slice (some ⟨g, 0, none⟩) (pre ++ v :: post).length c)]) (fun i => [P.box bE, vbox bV v, .seg g 0 (natsI (pre ++ v :: post)), P.pc (k + i) w]) (fun i => i ≤ pre.length) (fun i => pre.length + 1 - i) 0 [0, 1, 2, 3] ⟨rfl, rfl, rfl, rfl, trivial⟩ (by decide) rfl (Nat.zero_le _) ?_
  intro i hi
  have hlen : (pre ++ v :: post).length = pre.length + post.length + 1 := by simp; omega
  obtain ⟨u, hu, hu1, hu2⟩ := split_get (post := post) hi hv
  (repeat' (first | refine J_seq ?_ | refine J_skip ?_ | refine J_yes rfl ?_ | refine J_no rfl ?_))
  refine J_region ?_
  refine JL_all [] rfl ?_
  have hc : ((i : Nat) : Int) < ((pre ++ v :: post).length : Int) := by omega
  (repeat' (first | refine J_seq ?_ | refine J_skip ?_ | refine J_yes rfl ?_ | refine J_no rfl ?_))
  refine J_dec rfl (fun _ => J_skip ?_) (fun h => absurd hc h)
  refine J_seq (J_block ?_)
  (repeat' (first | refine J_seq ?_ | refine J_skip ?_ | refine J_yes rfl ?_ | refine J_no rfl ?_))
  refine J_region ?_
  refine JL_all [] rfl ?_
  (repeat' (first | refine J_seq ?_ | refine J_skip ?_ | refine J_yes rfl ?_ | refine J_no rfl ?_))
  refine J_region ?_
  refine JL_evO (gs := [999]) rfl ?_
  refine JL_evO (gs := [999]) rfl ?_
  refine JL_evO (gs := [999]) rfl ?_
  refine JL_val [] (idx1z rfl rfl rfl rfl rfl (by omega)) rfl ?_
  refine JL_val [] (ldseg 2 rfl rfl rfl (Nat.zero_add _).symm (natsI_get hu)) rfl ?_
  refine JL_fit (Fit.re (A := [P.box bE, vbox bV v, .seg g 0 (natsI (pre ++ v :: post)), P.pc (k + i) w]) (R := []) [3, 0, 1, 2] rfl (by decide)) ?_
  refine JL_callK [] (del1_fn P (k + i) w bE bV v u) rfl rfl rfl rfl (by kernel_rfl) Fit.refl ⟨⟨0, _, by simp, rfl, shows_seg _ _ _, seen_seg⟩, ⟨1, _, by simp, rfl, shows_seg _ _ _, seen_seg⟩, trivial⟩ (fun _ => rfl) ?_
  rintro v0 H' ⟨rfl, rfl⟩
  refine ⟨rfl, ?_⟩
  refine JL_all [] rfl ?_
  refine J_dec rfl (fun h => ?_) (fun h => J_skip ?_)
  · have : i = pre.length := by
      rcases Nat.lt_or_ge i pre.length with h1 | h1
      · exact absurd (by omega) (hu1 h1)
      · omega
    subst this
    (repeat' (first | refine J_seq ?_ | refine J_skip ?_ | refine J_yes rfl ?_ | refine J_no rfl ?_))
    refine J_region ?_
    refine JL_all [] rfl ?_
    refine J_drop [0] (by decide) rfl (J_ret ⟨_, rfl, rfl, rfl⟩)
  · have hlt : i < pre.length := by
      rcases Nat.lt_or_ge i pre.length with h1 | h1
      · exact h1
      · exact absurd (by rw [hu2 (by omega)]) h
    (repeat' (first | refine J_seq ?_ | refine J_skip ?_ | refine J_yes rfl ?_ | refine J_no rfl ?_))
    refine J_region ?_
    refine JL_all [] rfl ?_
    refine ⟨i + 1, [1, 2, 3, 0], ⟨?_, rfl, rfl, rfl, trivial⟩, by decide, rfl, hlt, by omega⟩
    show some (Value.int .i64 (IntKind.i64.wrap ((i : Int) + 1))) = _
    rw [w64 (by omega)]; rfl
def shiftL (pre post : List Nat) (v q : Nat) : List Nat := pre ++ (post.take q ++ (v :: post).drop q)
theorem shiftL_length {pre post : List Nat} {v q : Nat} (h : q ≤ post.length) : (shiftL pre post v q).length = (pre ++ v :: post).length := by
  simp [shiftL]; omega
theorem shiftL_get {pre post : List Nat} {v q u : Nat} (h : post[q]? = some u) : (shiftL pre post v q)[pre.length + (q + 1)]? = some u := by
  have hq := (List.getElem?_eq_some_iff.1 h).1
  unfold shiftL
  rw [List.getElem?_append_right (by omega), Nat.add_sub_cancel_left, List.getElem?_append_right (by simp; omega), List.length_take, Nat.min_eq_left (by omega), List.getElem?_drop]
  show (v :: post)[q + (q + 1 - q)]? = _
  rw [show q + (q + 1 - q) = q + 1 by omega, List.getElem?_cons_succ]; exact h
theorem shiftL_set {pre post : List Nat} {v q u : Nat} (h : post[q]? = some u) : (shiftL pre post v q).set (pre.length + q) u = shiftL pre post v (q + 1) := by
  have hq := (List.getElem?_eq_some_iff.1 h).1
  unfold shiftL
  rw [List.set_append_right _ _ (by omega), Nat.add_sub_cancel_left, List.set_append_right _ _ (by simp; omega), List.length_take, Nat.min_eq_left (by omega), Nat.sub_self]
  have hd : (v :: post).drop q = (v :: post)[q]'(by simp; omega) :: (v :: post).drop (q + 1) := List.drop_eq_getElem_cons (by simp; omega)
  rw [hd, List.set_cons_zero, List.take_add_one, h]
  simp
theorem shiftL_end {pre post : List Nat} {v : Nat} : (shiftL pre post v post.length).take (pre.length + post.length) = pre ++ post := by
  unfold shiftL
  rw [List.take_length, ← List.append_assoc, List.take_append_of_le_length (by simp)]
  exact List.take_of_length_le (by simp)
theorem natsI_set {W : List Nat} {i u : Nat} : (natsI W).set i (.int .i64 (u : Int)) = natsI (W.set i u) := by simp [natsI, ints]
theorem natsI_take {W : List Nat} {m : Nat} : (natsI W).take m = natsI (W.take m) := by simp [natsI, ints]
abbrev ownI (g n c : Nat) (W : List Nat) : Chunk := .own (.slice (some ⟨g, 0, none⟩) n c) 3 1 n (natsI W)
theorem deldel_fn (P : EP) (k w bE bV v : Nat) (pre post : List Nat) (hv : v ∉ pre) (hv2 : v ∉ post) (g n c : Nat) (hn : n = (pre ++ v :: post).length) (hl : n ≤ 20000) (hc : n ≤ c) :
    Fn 163 [.slice (some ⟨g, 0, none⟩) n c, delV bE bV] (mines [P.pc k w, ownI g n c (pre ++ v :: post)]) ([P.box bE, vbox bV v] ++ [P.pc k w, ownI g n c (pre ++ v :: post)])
      fun r H' => r = .slice (some ⟨g, 0, none⟩) (pre.length + post.length) c ∧ H' = [P.pc (k + n) w, ownI g (pre.length + post.length) c (pre ++ post)] := by
  have hlen : n = pre.length + post.length + 1 := by rw [hn]; simp; omega
  generalize hM : mines _ = M
  refine Fn_of Tryz.func163 rfl rfl fun w0 => ?_
  (repeat' (first | refine J_seq ?_ | refine J_skip ?_ | refine J_yes rfl ?_ | refine J_no rfl ?_))
  refine J_region ?_
  refine JL_all [] rfl ?_
  (repeat' (first | refine J_seq ?_ | refine J_skip ?_ | refine J_yes rfl ?_ | refine J_no rfl ?_))
  refine J_region ?_
  refine JL_evO (gs := [999]) rfl ?_
  refine JL_evO (gs := [999]) rfl ?_
  refine JL_fit (Fit.re (A := [P.box bE, vbox bV v, P.pc k w, ownI g n c (pre ++ v :: post)]) (R := []) [2, 0, 1, 3] rfl (by decide)) ?_
  have T := idxdel_fn P k w bE bV v pre post hv g c (by omega)
  rw [← hn] at T
  refine JL_callK [] T rfl rfl rfl rfl (by kernel_rfl) Fit.refl ⟨⟨0, _, by simp, rfl, shows_seg _ _ _, seen_seg⟩, ⟨1, _, by simp, rfl, shows_seg _ _ _, seen_seg⟩, ⟨2, _, by simp, rfl, shows_own, .inr rfl⟩, trivial⟩ (fun _ => rfl) ?_
  rintro v0 H' ⟨rfl, rfl⟩
  refine ⟨rfl, ?_⟩
  refine JL_all [] rfl ?_
  (repeat' (first | refine J_seq ?_ | refine J_skip ?_ | refine J_yes rfl ?_ | refine J_no rfl ?_))
  refine J_region ?_
  refine JL_all [] rfl ?_
  refine J_set 12 (v' := .bool false) rfl (congrArg Value.bool (cdec_no (by omega))) (J_no rfl (J_skip ?_))
  (repeat' (first | refine J_seq ?_ | refine J_skip ?_ | refine J_yes rfl ?_ | refine J_no rfl ?_))
  refine J_region ?_
  refine JL_all [] rfl ?_
  refine J_set 6 (v' := .int .i64 ((pre.length + (0 + 1) : Nat) : Int)) rfl (congrArg (Value.int .i64) ((w64 (by omega)).trans (by omega))) ?_
  refine J_set 5 (v' := .int .i64 ((pre.length + 0 : Nat) : Int)) rfl rfl ?_
  refine J_block ?_
  refine J_loop (σ := Nat) (fun q => [(6, .int .i64 ((pre.length + (q + 1) : Nat) : Int)), (5, .int .i64 ((pre.length + q : Nat) : Int)), (1, delV bE bV), (0, .slice (some ⟨g, 0, none⟩) n c)]) (fun q => [P.box bE, vbox bV v, ownI g n c (shiftL pre post v q), P.pc (k + pre.length + 1 + q) w]) (fun q => q ≤ post.length) (fun q => post.length - q) 0 [1, 2, 3, 0] ⟨rfl, rfl, rfl, rfl, trivial⟩ (by decide) rfl (Nat.zero_le _) ?_
  intro q hq
  (repeat' (first | refine J_seq ?_ | refine J_skip ?_ | refine J_yes rfl ?_ | refine J_no rfl ?_))
  refine J_region ?_
  refine JL_all [] rfl ?_
  (repeat' (first | refine J_seq ?_ | refine J_skip ?_ | refine J_yes rfl ?_ | refine J_no rfl ?_))
  refine J_dec rfl (fun hlt => J_skip ?_) (fun hge => ?_)
  · have hqp : q < post.length := by omega
    obtain ⟨u, hu⟩ : ∃ u, post[q]? = some u := ⟨post[q], List.getElem?_eq_getElem hqp⟩
    have huv : u ≠ v := fun e => hv2 (e ▸ List.mem_of_getElem? hu)
    refine J_seq (J_block ?_)
    (repeat' (first | refine J_seq ?_ | refine J_skip ?_ | refine J_yes rfl ?_ | refine J_no rfl ?_))
    refine J_region ?_
    refine JL_evO (gs := [999]) rfl ?_
    refine JL_evO (gs := [999]) rfl ?_
    refine JL_val [] (idx1z rfl rfl rfl rfl rfl (by omega)) rfl ?_
    refine JL_val [] (OpV_own 2 rfl rfl rfl (natsI_get (shiftL_get hu))) rfl ?_
    refine JL_all [] rfl ?_
    (repeat' (first | refine J_seq ?_ | refine J_skip ?_ | refine J_yes rfl ?_ | refine J_no rfl ?_))
    refine J_region ?_
    refine JL_evO (gs := [999]) rfl ?_
    refine JL_evO (gs := [999]) rfl ?_
    refine JL_fit (Fit.re (A := [P.box bE, vbox bV v, ownI g n c (shiftL pre post v q), P.pc (k + pre.length + 1 + q) w]) (R := []) [3, 0, 1, 2] rfl (by decide)) ?_
    refine JL_callK [] (del1_fn P _ w bE bV v u) rfl rfl rfl rfl (by kernel_rfl) Fit.refl ⟨⟨0, _, by simp, rfl, shows_seg _ _ _, seen_seg⟩, ⟨1, _, by simp, rfl, shows_seg _ _ _, seen_seg⟩, trivial⟩ (fun _ => rfl) ?_
    rintro v0 H' ⟨rfl, rfl⟩
    refine ⟨rfl, ?_⟩
    refine JL_set 28 (v' := .bool false) rfl (congrArg Value.bool (cdec_no (by omega))) ?_
    refine JL_all [] rfl ?_
    (repeat' (first | refine J_seq ?_ | refine J_skip ?_ | refine J_yes rfl ?_ | refine J_no rfl ?_))
    (repeat' (first | refine J_seq ?_ | refine J_skip ?_ | refine J_yes rfl ?_ | refine J_no rfl ?_))
    refine J_region ?_
    refine JL_evO (gs := [999]) rfl ?_
    refine JL_evO (gs := [999]) rfl ?_
    refine JL_evO (gs := [999]) rfl ?_
    refine JL_val [] (idx1z rfl rfl rfl rfl rfl (by omega)) rfl ?_
    refine JL_store_own 3 rfl rfl rfl rfl (put_one rfl rfl rfl (by rw [natsI_length, shiftL_length hq]; omega)) [] rfl ?_
    rw [natsI_set, shiftL_set hu]
    refine JL_nil ?_
    (repeat' (first | refine J_seq ?_ | refine J_skip ?_ | refine J_yes rfl ?_ | refine J_no rfl ?_))
    refine J_region ?_
    refine JL_all [] rfl ?_
    (repeat' (first | refine J_seq ?_ | refine J_skip ?_ | refine J_yes rfl ?_ | refine J_no rfl ?_))
    refine J_region ?_
    refine JL_all [] rfl ?_
    refine ⟨q + 1, [1, 2, 3, 0], ⟨?_, ?_, rfl, rfl, trivial⟩, by decide, rfl, hqp, by omega⟩
    · show some (Value.int .i64 (IntKind.i64.wrap (((pre.length + (q + 1) : Nat) : Int) + 1))) = _
      rw [w64 (by omega)]; rfl
    · show some (Value.int .i64 (IntKind.i64.wrap (((pre.length + q : Nat) : Int) + 1))) = _
      rw [w64 (by omega)]; rfl
  · obtain rfl : q = post.length := by omega
    refine J_exit ?_
    (repeat' (first | refine J_seq ?_ | refine J_skip ?_ | refine J_yes rfl ?_ | refine J_no rfl ?_))
    refine J_region ?_
    refine JL_evO (gs := [999]) rfl ?_
    refine JL_evO (gs := [999]) rfl ?_
    refine JL_val [] (OpV_from (i := pre.length + post.length) rfl rfl rfl rfl rfl (by omega)) rfl ?_
    refine JL_set 38 (v' := .slice (some ⟨g, pre.length + post.length, none⟩) 1 (c - (pre.length + post.length))) rfl ?_ ?_
    · have := cutA_at (A := some ⟨g, 0, none⟩) (c := c) (l := pre.length + post.length) (n := n) (sz := 1) (b := g) (o := 0) (fun _ => rfl) hc (by omega)
      rw [Nat.mul_one, Nat.zero_add] at this
      show Value.slice (cutA _ _ _ 1) _ _ = _
      rw [this, show n - (pre.length + post.length) = 1 by omega]
    refine JL_clear1 2 rfl rfl rfl rfl rfl rfl rfl (by rw [natsI_length, shiftL_length (Nat.le_refl _)]; omega) [] rfl ?_
    refine JL_nil ?_
    (repeat' (first | refine J_seq ?_ | refine J_skip ?_ | refine J_yes rfl ?_ | refine J_no rfl ?_))
    refine J_region ?_
    refine JL_evO (gs := [999]) rfl ?_
    refine JL_evO (gs := [999]) rfl ?_
    refine JL_val [] (OpV_upto (i := pre.length + post.length) rfl rfl rfl rfl rfl (by omega)) rfl ?_
    refine JL_all [] rfl ?_
    (repeat' (first | refine J_seq ?_ | refine J_skip ?_ | refine J_yes rfl ?_ | refine J_no rfl ?_))
    have e0 : ((natsI (shiftL pre post v post.length)).set (pre.length + post.length) (.int .i64 0)).take ((pre.length + post.length) * 1) = natsI (pre ++ post) := by
      rw [Nat.mul_one, List.take_set_of_le (Nat.le_refl _), natsI_take, shiftL_end]
    refine J_fit (Fit.shrink (m := pre.length + post.length) 2 rfl (by omega)) ?_
    show J _ _ _ _ [_, _, .own _ _ _ _ (List.take _ _), _]
    rw [e0]
    refine J_fit (Fit.re (A := [P.box bE, vbox bV v, ownI g (pre.length + post.length) c (pre ++ post), P.pc (k + pre.length + 1 + post.length) w]) (R := []) [3, 2] rfl (by decide)) (J_ret ⟨_, rfl, rfl, ?_⟩)
    rw [show k + n = k + pre.length + 1 + post.length by omega]
    rfl
end Go.Proofs.YtfogkbmbmaganaaGreat


/- The engine by trees: what it keeps, all together. -/
set_option linter.unusedVariables false
set_option linter.unusedSimpArgs false
namespace Go.Proofs.YtfogkbmbmaganaaGreat
open Go.RowKit
theorem nodup_room : ∀ (l m : List Nat), l.Nodup → (∀ x ∈ l, x ∈ m) → l.length ≤ m.length
  | [], _, _, _ => Nat.zero_le _
  | x :: l, m, h, hs => by
    obtain ⟨h1, h2⟩ := List.nodup_cons.1 h
    have hx := hs x (by simp)
    have ih := nodup_room l (m.erase x) h2 fun y hy => (List.mem_erase_of_ne (fun e => h1 (by rw [← e]; exact hy))).2 (hs y (by simp [hy]))
    rw [List.length_erase_of_mem hx] at ih
    have : 0 < m.length := List.length_pos_of_mem hx
    simp only [List.length_cons]; omega
def natZ (W : List Nat) : List Int := W.map fun (i : Nat) => (i : Int)
theorem natZ_length (W : List Nat) : (natZ W).length = W.length := by simp [natZ]
structure TB (n : Nat) (par : OV) (un : List Row) : Prop where
  len : un.length = n + 1
  at_ : ∀ (w : Nat) (row : Row), un[w]? = some row → ∃ W : List Nat, row.l = natZ W ∧ W.Nodup ∧ ∀ v, v ∈ W ↔ v ≤ n ∧ par v = some w
theorem TB.get {n : Nat} {par : OV} {un : List Row} (h : TB n par un) {w : Nat} (hw : w ≤ n) : ∃ (A : Option Addr) (c : Nat) (W : List Nat), un[w]? = some ⟨A, c, natZ W⟩ ∧ W.Nodup ∧ (∀ v, v ∈ W ↔ v ≤ n ∧ par v = some w) ∧ W.length ≤ n + 1 := by
  have hl := h.len
  obtain ⟨row, hr⟩ : ∃ row, un[w]? = some row := ⟨un[w]'(by omega), List.getElem?_eq_getElem (by omega)⟩
  obtain ⟨W, h1, h2, h3⟩ := h.at_ w row hr
  obtain ⟨A, c, l⟩ := row
  simp only at h1
  subst h1
  refine ⟨A, c, W, hr, h2, h3, ?_⟩
  have := nodup_room W (List.range (n + 1)) h2 fun x hx => List.mem_range.2 (by have := ((h3 x).1 hx).1; omega)
  rwa [List.length_range] at this
theorem TB.del {n : Nat} {par : OV} {un : List Row} (h : TB n par un) {v w : Nat} {A : Option Addr} {c : Nat} {pre post : List Nat} (hr : un[w]? = some ⟨A, c, natZ (pre ++ v :: post)⟩) (hd : (pre ++ v :: post).Nodup) (hm : ∀ u, u ∈ pre ++ v :: post ↔ u ≤ n ∧ par u = some w) (hw : par v = some w) {A' : Option Addr} {c' : Nat} : TB n (ovSet par v none) (un.set w ⟨A', c', natZ (pre ++ post)⟩) := by
  have hwl := (List.getElem?_eq_some_iff.1 hr).1
  obtain ⟨d1, d2, d3⟩ := List.nodup_append.1 hd
  obtain ⟨d4, d5⟩ := List.nodup_cons.1 d2
  have hvpre : v ∉ pre := fun hx => d3 v hx v (by simp) rfl
  refine ⟨by rw [List.length_set]; exact h.len, fun z row hz => ?_⟩
  by_cases e : w = z
  · subst e
    rw [List.getElem?_set_self hwl] at hz
    simp only [Option.some.injEq] at hz
    subst hz
    refine ⟨pre ++ post, rfl, List.nodup_append.2 ⟨d1, d5, fun x hx y hy => d3 x hx y (by simp [hy])⟩, fun u => ?_⟩
    have := hm u
    simp only [List.mem_append, List.mem_cons] at this ⊢
    by_cases e : u = v
    · subst e
      simp [ovSet, hvpre, d4]
    · simp only [ovSet, e, if_false, false_or] at this ⊢
      exact this
  · rw [List.getElem?_set_ne e] at hz
    obtain ⟨W, h1, h2, h3⟩ := h.at_ z row hz
    refine ⟨W, h1, h2, fun u => ?_⟩
    rw [h3 u]
    by_cases e2 : u = v
    · subst e2
      simp [ovSet, hw, e]
    · simp [ovSet, e2]
theorem TB.add {n : Nat} {par : OV} {un : List Row} (h : TB n par un) {v w : Nat} {A : Option Addr} {c : Nat} {W : List Nat} (hr : un[w]? = some ⟨A, c, natZ W⟩) (hd : W.Nodup) (hm : ∀ u, u ∈ W ↔ u ≤ n ∧ par u = some w) (hv : v ≤ n) (hn : par v = none) {A' : Option Addr} {c' : Nat} : TB n (ovSet par v (some w)) (un.set w ⟨A', c', natZ (W ++ [v])⟩) := by
  have hwl := (List.getElem?_eq_some_iff.1 hr).1
  have hvW : v ∉ W := fun hx => by have := ((hm v).1 hx).2; rw [hn] at this; cases this
  refine ⟨by rw [List.length_set]; exact h.len, fun z row hz => ?_⟩
  by_cases e : w = z
  · subst e
    rw [List.getElem?_set_self hwl] at hz
    simp only [Option.some.injEq] at hz
    subst hz
    refine ⟨W ++ [v], rfl, List.nodup_append.2 ⟨hd, by simp, fun x hx y hy => by rw [List.mem_singleton.1 hy]; rintro rfl; exact hvW hx⟩, fun u => ?_⟩
    simp only [List.mem_append, List.mem_singleton, hm u]
    by_cases e : u = v
    · subst e
      simp [ovSet, hv]
    · simp [ovSet, e]
  · rw [List.getElem?_set_ne e] at hz
    obtain ⟨W, h1, h2, h3⟩ := h.at_ z row hz
    refine ⟨W, h1, h2, fun u => ?_⟩
    rw [h3 u]
    by_cases e2 : u = v
    · subst e2
      simp [ovSet, hn, e]
    · simp [ovSet, e2]
structure TInv (P : EP) (L : Nat → List Nat) (gv : Nat → Nat) (rm0 tr : List Int) (pos : List Nat) (par : OV) (val : Nat → Int) (s : ES) : Prop where
  fa : ∃ row, FAb (P.n + 1) s.fs par val row
  ta : TA P L rm0 tr pos par val s.rm
  vo : VOK P.rowsL gv pos s.vals
  tb : TB P.n par s.un
def ES.cost (s : ES) : Nat := s.k + s.fs.k
end Go.Proofs.YtfogkbmbmaganaaGreat
