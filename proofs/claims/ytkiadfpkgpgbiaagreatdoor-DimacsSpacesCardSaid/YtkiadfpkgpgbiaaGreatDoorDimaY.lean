
/- What a network's text says: read by its words. -/
import Derived.Test.YtkiadfpkgpgbiaaGreatDoorDimaT
import Derived.Test.YtkiadfpkgpgbiaaGreatDoorDimaV
set_option linter.unusedVariables false
set_option linter.unusedSimpArgs false
namespace Go.Proofs.YtkiadfpkgpgbiaaGreatDoor
open Lib
def foldW (r : Rd) : List Ws → Option Rd
  | [] => some r
  | w :: ws => if (r.line w).2 ≠ 0 then none else foldW (r.line w).1 ws
theorem read_fold : ∀ (ls : List (List UInt8)) (r : Rd) (i : Nat) (r' : Rd), foldW r (ls.map wordsL) = some r' → readL r i ls = (r', 0, 0)
  | [], r, i, r', h => by simp only [foldW, List.map_nil, Option.some.injEq] at h; subst h; rfl
  | x :: ls, r, i, r', h => by
    rw [List.map_cons, foldW] at h
    rw [readL_cons]
    split at h
    · cases h
    · rename_i h1
      rw [if_neg h1]
      exact read_fold ls _ _ r' h
/-- A line that says nothing. -/
def hushB (w : Ws) : Bool := match w with
  | [] => true
  | x :: _ => x == [99]
theorem line_hush {w : Ws} (h : hushB w = true) (r : Rd) : r.line w = (r, 0) := by
  unfold hushB at h
  unfold Rd.line
  split
  · rfl
  · rename_i x l
    simp only [beq_iff_eq] at h
    rw [if_pos h]
theorem fold_loud : ∀ (ws : List Ws) (r : Rd), foldW r ws = foldW r (ws.filter fun w => !hushB w)
  | [], r => rfl
  | w :: ws, r => by
    rw [foldW]
    cases h : hushB w with
    | true =>
      rw [line_hush h, if_neg (by simp), List.filter_cons_of_neg (by simp [h])]
      exact fold_loud ws r
    | false =>
      rw [List.filter_cons_of_pos (by simp [h]), foldW]
      split
      · rfl
      · exact fold_loud ws _
def arcsW : List Arc → List Ws → Prop
  | [], [] => True
  | a :: l, w :: ws => (∃ x y z, w = [[97], x, y, z] ∧ numL x = (a.fr, 0) ∧ numL y = (a.to, 0) ∧ numL z = (a.cap, 0)) ∧ arcsW l ws
  | _, _ => False
def netW (N : Net) (W : List Ws) : Prop := ∃ a b c d ws, W = [[112], [109, 97, 120], a, b] :: [[110], c, [115]] :: [[110], d, [116]] :: ws ∧ numL a = (N.nodes, 0) ∧ numL b = ((N.arcs.length : Int), 0) ∧ numL c = (N.src, 0) ∧ numL d = (N.snk, 0) ∧ arcsW N.arcs ws
theorem nums1 {x : List UInt8} {n : Int} (h : numL x = (n, 0)) : numsL [x] = ([n], 0) := by
  unfold numsL; unfold numsL; rw [h]; rfl
theorem nums2 {x y : List UInt8} {n m : Int} (h : numL x = (n, 0)) (k : numL y = (m, 0)) : numsL [x, y] = ([n, m], 0) := by
  unfold numsL; rw [h, nums1 k]; rfl
theorem nums3 {x y z : List UInt8} {n m p : Int} (h : numL x = (n, 0)) (k : numL y = (m, 0)) (j : numL z = (p, 0)) : numsL [x, y, z] = ([n, m, p], 0) := by
  unfold numsL; rw [h, nums2 k j]; rfl
theorem fold_arcs : ∀ (l : List Arc) (ws : List Ws) (r : Rd), arcsW l ws → r.src ≠ 0 → r.snk ≠ 0 → (∀ a ∈ l, (1 ≤ a.fr ∧ a.fr ≤ r.nodes) ∧ (1 ≤ a.to ∧ a.to ≤ r.nodes) ∧ 0 ≤ a.cap) → (r.arcs.length : Int) + l.length ≤ r.most →
    0 ≤ r.sum → r.sum + (l.map (·.cap)).sum ≤ 4611686018427387903 → foldW r ws = some { r with arcs := r.arcs ++ l, sum := r.sum + (l.map (·.cap)).sum }
  | [], [], r, _, _, _, _, _, _, _ => by simp [foldW]
  | [], _ :: _, _, h, _, _, _, _, _, _ => h.elim
  | _ :: _, [], _, h, _, _, _, _, _, _ => h.elim
  | a :: l, w :: ws, r, ⟨⟨x, y, z, hw, hx, hy, hz⟩, h⟩, h1, h2, h3, h4, h5, h6 => by
    subst hw
    have ha := h3 a (by simp)
    have hnn : 0 ≤ (l.map (·.cap)).sum := sum_nn fun c hc => by
      obtain ⟨b, hb, rfl⟩ := List.mem_map.1 hc
      exact (h3 b (by simp [hb])).2.2
    rw [List.map_cons, List.sum_cons] at h6
    rw [List.length_cons] at h4
    have hl : r.line [[97], x, y, z] = ({ r with sum := r.sum + a.cap, arcs := r.arcs ++ [a] }, 0) := by
      rw [Rd.line_a]
      unfold Rd.arc
      rw [if_neg (by simp [h1, h2]), show List.drop 1 [[97], x, y, z] = [x, y, z] from rfl, nums3 hx hy hz]
      rw [if_neg (by simp), if_neg (by simp; omega), if_neg (by simp; omega), if_neg (by omega), if_neg (by simp; omega)]
      rfl
    rw [foldW, hl, if_neg (by simp)]
    have ih := fold_arcs l ws { r with sum := r.sum + a.cap, arcs := r.arcs ++ [a] } h h1 h2 (fun b hb => h3 b (by simp [hb])) (by simp only [List.length_append, List.length_cons, List.length_nil]; omega) (by simp only; omega) (by simp only; omega)
    rw [ih]
    simp [Int.add_assoc]
theorem fold_net {N : Net} (hR : N.Right) {W : List Ws} (h : netW N W) : ∃ sm, foldW rd0 W = some ⟨N.nodes, N.src, N.snk, N.arcs, N.arcs.length, sm⟩ := by
  obtain ⟨a, b, c, d, ws, rfl, ha, hb, hc, hd, hw⟩ := h
  have hnn := hR.nodes
  have hs := hR.src
  have ht := hR.snk
  have hln := hR.len
  have hne := hR.diff
  have l1 : rd0.line [[112], [109, 97, 120], a, b] = (⟨N.nodes, 0, 0, [], N.arcs.length, 0⟩, 0) := by
    rw [Rd.line_p]
    unfold Rd.problem
    rw [if_neg (by simp [rd0]), show List.drop 2 [[112], [109, 97, 120], a, b] = [a, b] from rfl, nums2 ha hb, if_neg (by simp), if_neg (by simp; omega)]
    rfl
  have l2 : Rd.line ⟨N.nodes, 0, 0, [], N.arcs.length, 0⟩ [[110], c, [115]] = (⟨N.nodes, N.src, 0, [], N.arcs.length, 0⟩, 0) := by
    rw [Rd.line_n]
    unfold Rd.end_
    rw [if_neg (by simp <;> omega), if_pos (by rfl), if_neg (by simp), show [[110], c, [115]].getD 1 [] = c from rfl, nums1 hc, if_neg (by simp), if_neg (by simp; omega), if_neg (by simp; omega)]
    rfl
  have l3 : Rd.line ⟨N.nodes, N.src, 0, [], N.arcs.length, 0⟩ [[110], d, [116]] = (⟨N.nodes, N.src, N.snk, [], N.arcs.length, 0⟩, 0) := by
    rw [Rd.line_n]
    unfold Rd.end_
    rw [if_neg (by simp <;> omega), if_neg (by simp), if_pos (by rfl), if_neg (by simp), show [[110], d, [116]].getD 1 [] = d from rfl, nums1 hd, if_neg (by simp), if_neg (by simp; omega), if_neg (by simp; omega)]
    rfl
  refine ⟨0 + (N.arcs.map (·.cap)).sum, ?_⟩
  rw [foldW, l1, if_neg (by simp), foldW, l2, if_neg (by simp), foldW, l3, if_neg (by simp)]
  rw [fold_arcs N.arcs ws ⟨N.nodes, N.src, N.snk, [], N.arcs.length, 0⟩ hw (by simp only; omega) (by simp only; omega) hR.arc (by simp) (by simp) (by simpa using hR.sum)]
  simp
/-- Of any text whose loud lines say a network. -/
theorem parse_net {N : Net} (hR : N.Right) {s : List UInt8} (h : netW N (((linesL s).map wordsL).filter fun w => !hushB w)) : parseL s = (N, 0, 0) := by
  obtain ⟨sm, hf⟩ := fold_net hR h
  rw [← fold_loud] at hf
  have hr := read_fold _ _ 0 _ hf
  have hs := hR.src
  have ht := hR.snk
  unfold parseL
  rw [hr, if_neg (by simp), if_neg (by simp; omega), if_neg (by simp)]
end Go.Proofs.YtkiadfpkgpgbiaaGreatDoor
