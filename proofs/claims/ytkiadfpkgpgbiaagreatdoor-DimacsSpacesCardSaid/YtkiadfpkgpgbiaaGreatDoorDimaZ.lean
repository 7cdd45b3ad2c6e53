
/- What a written network says. -/
import Derived.Test.YtkiadfpkgpgbiaaGreatDoorDimaY
set_option linter.unusedVariables false
set_option linter.unusedSimpArgs false
namespace Go.Proofs.YtkiadfpkgpgbiaaGreatDoor
open Lib
theorem wrL_cons (f : List UInt8) (n : Int) (l : List Int) : wrL f (n :: l) = wrL (f ++ 32 :: itoa n) l := by
  rw [wrL_eq, wrL_eq]; simp
theorem words_wr (f : List UInt8) (l : List Int) (h : ∀ n ∈ l, 0 ≤ n) : wordsL (wrL f l) = wordsL f ++ l.map itoa := by
  induction l generalizing f with
  | nil => simp [wrL_eq]
  | cons n l ih =>
    have hn := h n (by simp)
    rw [wrL_cons, ih _ fun x hx => h x (by simp [hx]), words_app rfl, words_one (fun b hb => (itoa_all hn b hb).2) (itoa_ne hn)]
    simp
theorem wr_not {f : List UInt8} {l : List Int} (hf : ∀ b ∈ f, b ≠ 10) (h : ∀ n ∈ l, 0 ≤ n) : ∀ b ∈ wrL f l, b ≠ 10 := by
  intro b hb
  rw [wrL_eq] at hb
  rcases List.mem_append.1 hb with hb | hb
  · exact hf b hb
  · obtain ⟨x, hx, hbx⟩ := List.mem_flatten.1 hb
    obtain ⟨n, hn, rfl⟩ := List.mem_map.1 hx
    rcases List.mem_cons.1 hbx with rfl | hbx
    · decide
    · exact (itoa_all (h n hn) b hbx).1
/-- A network's lines. -/
def netT (N : Net) : List (List UInt8) := wrL [112, 32, 109, 97, 120] [N.nodes, N.arcs.length] :: (wrL [110] [N.src] ++ [32, 115]) :: (wrL [110] [N.snk] ++ [32, 116]) :: N.arcs.map fun a => wrL [97] [a.fr, a.to, a.cap]
theorem netT_not {N : Net} (hR : N.Right) : ∀ x ∈ netT N, ∀ b ∈ x, b ≠ 10 := by
  have hnn := hR.nodes
  have hs := hR.src
  have ht := hR.snk
  intro x hx
  unfold netT at hx
  simp only [List.mem_cons, List.mem_map] at hx
  have h110 : ∀ b ∈ ([110] : List UInt8), b ≠ 10 := by decide
  have h115 : ∀ b ∈ ([32, 115] : List UInt8), b ≠ 10 := by decide
  have h116 : ∀ b ∈ ([32, 116] : List UInt8), b ≠ 10 := by decide
  rcases hx with rfl | rfl | rfl | ⟨a, ha, rfl⟩
  · exact wr_not (by decide) (fun n hn => by simp at hn; omega)
  · intro b hb
    rcases List.mem_append.1 hb with hb | hb
    · exact wr_not h110 (fun n hn => by simp at hn; omega) b hb
    · exact h115 b hb
  · intro b hb
    rcases List.mem_append.1 hb with hb | hb
    · exact wr_not h110 (fun n hn => by simp at hn; omega) b hb
    · exact h116 b hb
  · have := hR.arc a ha
    exact wr_not (by decide) (fun n hn => by simp at hn; omega)
theorem lines_of : ∀ (ls : List (List UInt8)), (∀ x ∈ ls, ∀ b ∈ x, b ≠ 10) → linesL ((ls.map fun x => x ++ [10]).flatten) = ls
  | [], _ => rfl
  | x :: ls, h => by
    rw [List.map_cons, List.flatten_cons, List.append_assoc]
    show linesL (x ++ 10 :: _) = _
    rw [lines_one (h x (by simp))]
    exact congrArg (x :: ·) (lines_of ls fun y hy => h y (by simp [hy]))
theorem printL_eq (N : Net) : printL N = ((netT N).map fun x => x ++ [10]).flatten := by
  unfold printL printH netT
  simp only [List.map_cons, List.flatten_cons, List.map_map, List.append_assoc]
  congr 1
theorem lines_print {N : Net} (hR : N.Right) : linesL (printL N) = netT N := by rw [printL_eq, lines_of _ (netT_not hR)]
theorem mem_sum : ∀ {l : List Int} {x : Int}, (∀ y ∈ l, 0 ≤ y) → x ∈ l → x ≤ l.sum
  | [], _, _, h => absurd h List.not_mem_nil
  | y :: l, x, h, hx => by
    have h1 := sum_nn (l := l) fun z hz => h z (by simp [hz])
    have h2 := h y (by simp)
    rw [List.sum_cons]
    rcases List.mem_cons.1 hx with rfl | hx
    · omega
    · have := mem_sum (fun z hz => h z (by simp [hz])) hx
      omega
theorem cap_le {N : Net} (hR : N.Right) {a : Arc} (ha : a ∈ N.arcs) : a.cap ≤ 4611686018427387903 := by
  have := mem_sum (l := N.arcs.map (·.cap)) (fun y hy => by
    obtain ⟨b, hb, rfl⟩ := List.mem_map.1 hy
    exact (hR.arc b hb).2.2) (List.mem_map.2 ⟨a, ha, rfl⟩)
  have := hR.sum
  omega
theorem num_of {n : Int} (h : 0 ≤ n ∧ n ≤ 4611686018427387903) : numL (itoa n) = (n, 0) := num_itoa n (by omega)
theorem netW_print {N : Net} (hR : N.Right) : netW N ((netT N).map wordsL) := by
  have hnn := hR.nodes
  have hs := hR.src
  have ht := hR.snk
  have hln := hR.len
  refine ⟨itoa N.nodes, itoa N.arcs.length, itoa N.src, itoa N.snk, N.arcs.map fun a => [[97], itoa a.fr, itoa a.to, itoa a.cap], ?_, num_of (by omega), num_of (by omega), num_of (by omega), num_of (by omega), ?_⟩
  · unfold netT
    simp only [List.map_cons, List.map_map]
    rw [words_wr _ _ (fun n hn => by simp at hn; omega), show wrL [110] [N.src] ++ [32, 115] = wrL [110] [N.src] ++ 32 :: [115] from rfl, words_app rfl, words_wr _ _ (fun n hn => by simp at hn; omega), show wrL [110] [N.snk] ++ [32, 116] = wrL [110] [N.snk] ++ 32 :: [116] from rfl, words_app rfl, words_wr _ _ (fun n hn => by simp at hn; omega)]
    congr 1
    congr 1
    congr 1
    refine List.map_congr_left fun a ha => ?_
    have := hR.arc a ha
    show wordsL (wrL [97] [a.fr, a.to, a.cap]) = _
    rw [words_wr _ _ (fun n hn => by simp at hn; omega)]
    rfl
  · have key : ∀ l : List Arc, (∀ a ∈ l, a ∈ N.arcs) → arcsW l (l.map fun a => [[97], itoa a.fr, itoa a.to, itoa a.cap]) := by
      intro l
      induction l with
      | nil => intro _; trivial
      | cons a l ih =>
        intro h
        have := hR.arc a (h a (by simp))
        have := cap_le hR (h a (by simp))
        exact ⟨⟨_, _, _, rfl, num_of (by omega), num_of (by omega), num_of (by omega)⟩, ih fun b hb => h b (by simp [hb])⟩
    exact key N.arcs fun a ha => ha
theorem loud_net {N : Net} {W : List Ws} (h : netW N W) : (W.filter fun w => !hushB w) = W := by
  obtain ⟨a, b, c, d, ws, rfl, _, _, _, _, hw⟩ := h
  have key : ∀ (l : List Arc) (ws : List Ws), arcsW l ws → (ws.filter fun w => !hushB w) = ws := by
    intro l
    induction l with
    | nil => intro ws h; cases ws with
      | nil => rfl
      | cons _ _ => exact h.elim
    | cons a l ih => intro ws h; cases ws with
      | nil => exact h.elim
      | cons w ws =>
        obtain ⟨⟨x, y, z, rfl, _⟩, h2⟩ := h
        rw [List.filter_cons_of_pos (by simp [hushB]), ih ws h2]
  rw [List.filter_cons_of_pos (by simp [hushB]), List.filter_cons_of_pos (by simp [hushB]), List.filter_cons_of_pos (by simp [hushB]), key _ _ hw]
theorem parse_print {N : Net} (hR : N.Right) : parseL (printL N) = (N, 0, 0) := by
  refine parse_net hR ?_
  rw [lines_print hR, loud_net (netW_print hR)]
  exact netW_print hR
end Go.Proofs.YtkiadfpkgpgbiaaGreatDoor
