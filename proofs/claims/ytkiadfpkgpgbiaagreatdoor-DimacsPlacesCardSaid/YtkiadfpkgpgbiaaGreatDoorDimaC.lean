
/- A head line that stands twice, or too early: where it is told. -/
import Derived.Test.YtkiadfpkgpgbiaaGreatDoorDimaB
set_option linter.unusedVariables false
set_option linter.unusedSimpArgs false
namespace Go.Proofs.YtkiadfpkgpgbiaaGreatDoor
open Lib
theorem foldW_app : ∀ (a b : List Ws) (r : Rd), foldW r (a ++ b) = (foldW r a).bind fun r' => foldW r' b
  | [], b, r => rfl
  | w :: a, b, r => by
    rw [List.cons_append, foldW, foldW]
    split
    · rfl
    · exact foldW_app a b _
theorem readL_app : ∀ (a b : List (List UInt8)) (r r' : Rd) (i : Nat), foldW r (a.map wordsL) = some r' → readL r i (a ++ b) = readL r' (i + a.length) b
  | [], b, r, r', i, h => by simp only [foldW, List.map_nil, Option.some.injEq] at h; subst h; rfl
  | x :: a, b, r, r', i, h => by
    rw [List.map_cons, foldW] at h
    rw [List.cons_append, readL_cons, List.length_cons]
    split at h
    · cases h
    · rename_i h1
      rw [if_neg h1, readL_app a b _ r' _ h]
      congr 1; omega
theorem line_keep (r : Rd) (w : Ws) (hm : r.most ≠ -1) : (r.line w).1.most = r.most ∧ (r.src ≠ 0 → (r.line w).1.src = r.src) ∧ (r.snk ≠ 0 → (r.line w).1.snk = r.snk) := by
  have hp : (r.problem w).1 = r := by
    unfold Rd.problem
    rw [if_pos (.inr (.inr hm))]
  have he : (r.end_ w).1.most = r.most ∧ (r.src ≠ 0 → (r.end_ w).1.src = r.src) ∧ (r.snk ≠ 0 → (r.end_ w).1.snk = r.snk) := by
    unfold Rd.end_
    (repeat' split) <;> simp_all
  have ha : (r.arc w).1.most = r.most ∧ (r.src ≠ 0 → (r.arc w).1.src = r.src) ∧ (r.snk ≠ 0 → (r.arc w).1.snk = r.snk) := by
    unfold Rd.arc
    (repeat' split) <;> simp
  unfold Rd.line
  split
  · simp
  · split
    · simp
    · split
      · rw [hp]; simp
      · split
        · exact he
        · split
          · exact ha
          · simp
theorem fold_keep : ∀ (ws : List Ws) (r r' : Rd), foldW r ws = some r' → r.most ≠ -1 → r'.most = r.most ∧ (r.src ≠ 0 → r'.src = r.src) ∧ (r.snk ≠ 0 → r'.snk = r.snk)
  | [], r, r', h, _ => by simp only [foldW, Option.some.injEq] at h; subst h; simp
  | w :: ws, r, r', h, hm => by
    rw [foldW] at h
    split at h
    · cases h
    · obtain ⟨h1, h2, h3⟩ := line_keep r w hm
      obtain ⟨k1, k2, k3⟩ := fold_keep ws _ r' h (by rw [h1]; exact hm)
      exact ⟨k1.trans h1, fun h0 => (k2 (by rw [h2 h0]; exact h0)).trans (h2 h0), fun h0 => (k3 (by rw [h3 h0]; exact h0)).trans (h3 h0)⟩
/-- What is known behind the lines up to one. -/
theorem fold_take {N : Net} (hR : N.Right) {W : List Ws} (h : netW N W) (at_ : Nat) : ∃ r, foldW rd0 (W.take (at_ + 1)) = some r ∧ r.most ≠ -1 ∧ (1 ≤ at_ → r.src ≠ 0) ∧ (2 ≤ at_ → r.snk ≠ 0) := by
  obtain ⟨sm, hf⟩ := fold_net hR h
  have hpre : ∀ n, ∃ r, foldW rd0 (W.take n) = some r := fun n => by
    rw [← List.take_append_drop n W, foldW_app] at hf
    cases hq : foldW rd0 (W.take n) with
    | none => rw [hq] at hf; cases hf
    | some r => exact ⟨r, rfl⟩
  have hs := hR.src
  have ht := hR.snk
  have hnn := hR.nodes
  have hln := hR.len
  obtain ⟨a, b, c, d, ws, rfl, ha, hb, hc, hd, hw⟩ := h
  have l1 : rd0.line [[112], [109, 97, 120], a, b] = (⟨N.nodes, 0, 0, [], N.arcs.length, 0⟩, 0) := by
    rw [Rd.line_p]
    unfold Rd.problem
    rw [if_neg (by simp [rd0]), show List.drop 2 [[112], [109, 97, 120], a, b] = [a, b] from rfl, nums2 ha hb, if_neg (by simp), if_neg (by simp; omega)]
    rfl
  have hne := hR.diff
  have l2 : Rd.line ⟨N.nodes, 0, 0, [], N.arcs.length, 0⟩ [[110], c, [115]] = (⟨N.nodes, N.src, 0, [], N.arcs.length, 0⟩, 0) := by
    rw [Rd.line_n]
    unfold Rd.end_
    rw [if_neg (by simp <;> omega), if_pos (by rfl), if_neg (by simp), show [[110], c, [115]].getD 1 [] = c from rfl, nums1 hc, if_neg (by simp), if_neg (by simp; omega), if_neg (by simp; omega)]
    rfl
  have l3 : Rd.line ⟨N.nodes, N.src, 0, [], N.arcs.length, 0⟩ [[110], d, [116]] = (⟨N.nodes, N.src, N.snk, [], N.arcs.length, 0⟩, 0) := by
    rw [Rd.line_n]
    unfold Rd.end_
    rw [if_neg (by simp <;> omega), if_neg (by simp), if_pos (by rfl), if_neg (by simp), show [[110], d, [116]].getD 1 [] = d from rfl, nums1 hd, if_neg (by simp), if_neg (by simp; omega), if_neg (by simp; omega)]
    rfl
  obtain ⟨r, hr⟩ := hpre (at_ + 1)
  refine ⟨r, hr, ?_⟩
  match at_, hr with
  | 0, hr =>
    rw [List.take_succ_cons, foldW, l1, if_neg (by simp)] at hr
    have := fold_keep _ _ _ hr (by simp only; omega)
    exact ⟨by rw [this.1]; simp only; omega, fun h => by omega, fun h => by omega⟩
  | 1, hr =>
    rw [List.take_succ_cons, foldW, l1, if_neg (by simp), List.take_succ_cons, foldW, l2, if_neg (by simp)] at hr
    have := fold_keep _ _ _ hr (by simp only; omega)
    exact ⟨by rw [this.1]; simp only; omega, fun _ => by rw [this.2.1 (by simp only; omega)]; simp only; omega, fun h => by omega⟩
  | n + 2, hr =>
    rw [List.take_succ_cons, foldW, l1, if_neg (by simp), List.take_succ_cons, foldW, l2, if_neg (by simp), List.take_succ_cons, foldW, l3, if_neg (by simp)] at hr
    have := fold_keep _ _ _ hr (by simp only; omega)
    exact ⟨by rw [this.1]; simp only; omega, fun _ => by rw [this.2.1 (by simp only; omega)]; simp only; omega, fun _ => by rw [this.2.2 (by simp only; omega)]; simp only; omega⟩
theorem parse_at {s : List UInt8} {r : Rd} {i : Nat} (h : readL rd0 0 (linesL s) = (r, i, 2)) : parseL s = (net0, i, 2) := by
  unfold parseL
  rw [h, if_pos (by simp)]
theorem twice_at {N : Net} (hR : N.Right) (k at_ : Nat) (hk : k < 3) (hka : k ≤ at_) {m : List UInt8} (hm : (netT N)[k]? = some m) (rest : List (List UInt8)) (hat : at_ < (netT N).length) :
    (readL rd0 0 ((netT N).take (at_ + 1) ++ m :: rest)).2 = (at_ + 2, 2) := by
  have hW := netW_print hR
  obtain ⟨r, hr, h1, h2, h3⟩ := fold_take hR hW at_
  rw [← List.map_take] at hr
  rw [readL_app _ _ _ r 0 hr, readL_cons]
  have hl : ((netT N).take (at_ + 1)).length = at_ + 1 := by rw [List.length_take]; omega
  obtain ⟨a, b, c, d, ws, hWe, _⟩ := hW
  have hmw : (((netT N).map wordsL))[k]? = some (wordsL m) := by rw [List.getElem?_map, hm]; rfl
  rw [hWe] at hmw
  have he : (r.line (wordsL m)).2 = 2 := by
    match k, hk with
    | 0, _ =>
      simp only [List.getElem?_cons_zero, Option.some.injEq] at hmw
      rw [← hmw, Rd.line_p]
      unfold Rd.problem
      rw [if_pos (.inr (.inr h1))]
    | 1, _ =>
      simp only [List.getElem?_cons_succ, List.getElem?_cons_zero, Option.some.injEq] at hmw
      rw [← hmw, Rd.line_n]
      unfold Rd.end_
      split
      · rfl
      · rw [if_pos (by rfl), if_pos (h2 (by omega))]
    | 2, _ =>
      simp only [List.getElem?_cons_succ, List.getElem?_cons_zero, Option.some.injEq] at hmw
      rw [← hmw, Rd.line_n]
      unfold Rd.end_
      split
      · rfl
      · rw [if_neg (by simp), if_pos (by rfl), if_pos (h3 (by omega))]
  rw [he, if_pos (by decide), hl]
  simp only
  refine Prod.ext ?_ rfl
  simp only; omega
/-- One line twice. -/
def twiceT (ls : List (List UInt8)) (k : List UInt8) (at_ : Nat) : List (List UInt8) := ls.take (at_ + 1) ++ k :: ls.drop (at_ + 1)
theorem parse_twice {N : Net} (hR : N.Right) (k at_ : Nat) (hk : k < 3) (hka : k ≤ at_) {m : List UInt8} (hm : (netT N)[k]? = some m) (hat : at_ < (netT N).length) :
    parseL (((twiceT (netT N) m at_).map fun x => x ++ [10]).flatten) = (net0, at_ + 2, 2) := by
  have hno : ∀ x ∈ twiceT (netT N) m at_, ∀ b ∈ x, b ≠ 10 := by
    intro x hx
    unfold twiceT at hx
    rcases List.mem_append.1 hx with hx | hx
    · exact netT_not hR x (List.mem_of_mem_take hx)
    · rcases List.mem_cons.1 hx with rfl | hx
      · exact netT_not hR x (List.mem_of_getElem? hm)
      · exact netT_not hR x (List.mem_of_mem_drop hx)
  have := twice_at hR k at_ hk hka hm ((netT N).drop (at_ + 1)) hat
  refine parse_at (r := (readL rd0 0 ((netT N).take (at_ + 1) ++ m :: (netT N).drop (at_ + 1))).1) ?_
  rw [lines_of _ hno]
  exact Prod.ext rfl this
theorem parse_early (s : List UInt8) : parseL ([97, 32, 49, 32, 50, 32, 51, 10] ++ s) = (net0, 1, 2) := by
  refine parse_at (r := rd0) ?_
  rw [show ([97, 32, 49, 32, 50, 32, 51, 10] : List UInt8) ++ s = [97, 32, 49, 32, 50, 32, 51] ++ 10 :: s from rfl, lines_one (by decide), readL_cons, show wordsL [97, 32, 49, 32, 50, 32, 51] = [[97], [49], [50], [51]] from rfl, Rd.line_a]
  rfl
theorem parse_early2 {N : Net} (hR : N.Right) {m : List UInt8} (hm : (netT N)[1]? = some m) (s : List UInt8) : parseL (m ++ [10] ++ s) = (net0, 1, 2) := by
  refine parse_at (r := rd0) ?_
  have hW := netW_print hR
  obtain ⟨a, b, c, d, ws, hWe, _⟩ := hW
  have hmw : (((netT N).map wordsL))[1]? = some (wordsL m) := by rw [List.getElem?_map, hm]; rfl
  rw [hWe] at hmw
  simp only [List.getElem?_cons_succ, List.getElem?_cons_zero, Option.some.injEq] at hmw
  rw [List.append_assoc]
  show readL rd0 0 (linesL (m ++ 10 :: s)) = _
  rw [lines_one (netT_not hR m (List.mem_of_getElem? hm)), readL_cons, ← hmw, Rd.line_n]
  rfl
end Go.Proofs.YtkiadfpkgpgbiaaGreatDoor
