/- What a text of a network says: line by line. -/
import Derived.Test.YtkiadfpkgpgbiaaGreatDoorTextQ
import Derived.Test.YtkiadfpkgpgbiaaGreatDoorQB
set_option linter.unusedVariables false
set_option linter.unusedSimpArgs false
namespace Go.Proofs.YtkiadfpkgpgbiaaGreatDoor
/-- The numbers of words, or the first thing that is wrong. -/
def numsL : List (List UInt8) → List Int × Int
  | [] => ([], 0)
  | w :: r => if (numL w).2 ≠ 0 then ([], (numL w).2) else if (numsL r).2 ≠ 0 then ([], (numsL r).2) else ((numL w).1 :: (numsL r).1, 0)
theorem numsL_ok : ∀ {ws : List (List UInt8)}, (∀ w ∈ ws, (numL w).2 = 0) → numsL ws = (ws.map fun w => (numL w).1, 0)
  | [], _ => rfl
  | w :: r, h => by
    have ih := numsL_ok (ws := r) fun x hx => h x (by simp [hx])
    unfold numsL
    rw [if_neg (fun k => k (h w (by simp))), ih, if_neg (fun k => k rfl)]
    rfl
theorem numsL_err : ∀ {ws : List (List UInt8)} {k : Nat} {w : List UInt8}, ws[k]? = some w → (∀ j x, j < k → ws[j]? = some x → (numL x).2 = 0) → (numL w).2 ≠ 0 → numsL ws = ([], (numL w).2)
  | [], k, w, h, _, _ => by simp at h
  | x :: r, 0, w, h, _, he => by
    simp only [List.getElem?_cons_zero, Option.some.injEq] at h
    subst h
    unfold numsL
    rw [if_pos he]
  | x :: r, k + 1, w, h, hb, he => by
    have ih := numsL_err (ws := r) (k := k) (w := w) (by simpa using h) (fun j y hj hy => hb (j + 1) y (by omega) (by simpa using hy)) he
    unfold numsL
    rw [if_neg (fun q => q (hb 0 x (by omega) rfl)), ih, if_pos he]
theorem numsL_len {ws : List (List UInt8)} (h : (numsL ws).2 = 0) : (numsL ws).1.length = ws.length ∧ ∀ w ∈ ws, (numL w).2 = 0 := by
  induction ws with
  | nil => exact ⟨rfl, fun w hw => absurd hw List.not_mem_nil⟩
  | cons w r ih =>
    unfold numsL at h ⊢
    by_cases h1 : (numL w).2 ≠ 0
    · rw [if_pos h1] at h; exact absurd h h1
    · rw [if_neg h1] at h ⊢
      by_cases h2 : (numsL r).2 ≠ 0
      · rw [if_pos h2] at h; exact absurd h h2
      · rw [if_neg h2] at h ⊢
        obtain ⟨e, hr⟩ := ih (Classical.not_not.1 h2)
        refine ⟨by simp [e], fun x hx => ?_⟩
        rcases List.mem_cons.1 hx with rfl | hx
        · exact Classical.not_not.1 h1
        · exact hr x hx
theorem num_in (l : List UInt8) : -9223372036854775808 ≤ (numL l).1 ∧ (numL l).1 ≤ 9223372036854775807 := by
  unfold numL
  simp only
  by_cases h1 : l.head? = some 45
  · rw [if_pos h1, if_pos h1]
    split
    · decide
    · split
      · simp only; omega
      · decide
  · rw [if_neg h1, if_neg h1]
    split
    · decide
    · split
      · simp only; omega
      · decide
theorem nums_in {ws : List (List UInt8)} : ∀ n ∈ (numsL ws).1, inB n := by
  induction ws with
  | nil => exact fun n hn => absurd hn List.not_mem_nil
  | cons w r ih =>
    intro n hn
    unfold numsL at hn
    split at hn
    · exact absurd hn List.not_mem_nil
    · split at hn
      · exact absurd hn List.not_mem_nil
      · rcases List.mem_cons.1 hn with rfl | hn
        · exact num_in w
        · exact ih n hn
/-- What was read. -/
structure Rd where
  nodes : Int
  src : Int
  snk : Int
  arcs : List Arc
  most : Int
  sum : Int
abbrev Ws := List (List UInt8)
def Rd.problem (r : Rd) (w : Ws) : Rd × Int :=
  if w.length ≠ 4 ∨ w[1]? ≠ some [109, 97, 120] ∨ r.most ≠ -1 then (r, 2) else
  if (numsL (w.drop 2)).2 ≠ 0 then (r, (numsL (w.drop 2)).2) else
  if (numsL (w.drop 2)).1.getD 0 0 < 2 ∨ 500 < (numsL (w.drop 2)).1.getD 0 0 ∨ (numsL (w.drop 2)).1.getD 1 0 < 0 ∨ 2000 < (numsL (w.drop 2)).1.getD 1 0 then (r, 3) else
  ({ r with nodes := (numsL (w.drop 2)).1.getD 0 0, most := (numsL (w.drop 2)).1.getD 1 0 }, 0)
def Rd.end_ (r : Rd) (w : Ws) : Rd × Int :=
  if w.length ≠ 3 ∨ r.most = -1 ∨ r.arcs ≠ [] then (r, 2) else
  if w[2]? = some [115] then
    (if r.src ≠ 0 then (r, 2) else if (numsL [w.getD 1 []]).2 ≠ 0 then (r, (numsL [w.getD 1 []]).2) else
     if ¬ (1 ≤ (numsL [w.getD 1 []]).1.getD 0 0 ∧ (numsL [w.getD 1 []]).1.getD 0 0 ≤ r.nodes) then (r, 4) else
     if (numsL [w.getD 1 []]).1.getD 0 0 = r.src ∨ (numsL [w.getD 1 []]).1.getD 0 0 = r.snk then (r, 5) else ({ r with src := (numsL [w.getD 1 []]).1.getD 0 0 }, 0))
  else if w[2]? = some [116] then
    (if r.snk ≠ 0 then (r, 2) else if (numsL [w.getD 1 []]).2 ≠ 0 then (r, (numsL [w.getD 1 []]).2) else
     if ¬ (1 ≤ (numsL [w.getD 1 []]).1.getD 0 0 ∧ (numsL [w.getD 1 []]).1.getD 0 0 ≤ r.nodes) then (r, 4) else
     if (numsL [w.getD 1 []]).1.getD 0 0 = r.src ∨ (numsL [w.getD 1 []]).1.getD 0 0 = r.snk then (r, 5) else ({ r with snk := (numsL [w.getD 1 []]).1.getD 0 0 }, 0))
  else (r, 2)
def Rd.arc (r : Rd) (w : Ws) : Rd × Int :=
  if w.length ≠ 4 ∨ r.src = 0 ∨ r.snk = 0 then (r, 2) else
  if (numsL (w.drop 1)).2 ≠ 0 then (r, (numsL (w.drop 1)).2) else
  if ¬ (1 ≤ (numsL (w.drop 1)).1.getD 0 0 ∧ (numsL (w.drop 1)).1.getD 0 0 ≤ r.nodes) ∨ ¬ (1 ≤ (numsL (w.drop 1)).1.getD 1 0 ∧ (numsL (w.drop 1)).1.getD 1 0 ≤ r.nodes) then (r, 4) else
  if (numsL (w.drop 1)).1.getD 2 0 < 0 then (r, 3) else
  if (r.arcs.length : Int) = r.most then (r, 6) else
  if 4611686018427387903 < r.sum + (numsL (w.drop 1)).1.getD 2 0 then (r, 7) else
  ({ r with sum := r.sum + (numsL (w.drop 1)).1.getD 2 0, arcs := r.arcs ++ [⟨(numsL (w.drop 1)).1.getD 0 0, (numsL (w.drop 1)).1.getD 1 0, (numsL (w.drop 1)).1.getD 2 0⟩] }, 0)
/-- What a line does. -/
def Rd.line (r : Rd) (w : Ws) : Rd × Int :=
  match w with
  | [] => (r, 0)
  | x :: _ => if x = [99] then (r, 0) else if x = [112] then r.problem w else if x = [110] then r.end_ w else if x = [97] then r.arc w else (r, 2)
structure Rd.OK (r : Rd) : Prop where
  none : r.most = -1 → r.arcs = [] ∧ r.src = 0 ∧ r.snk = 0 ∧ r.nodes = 0
  some : r.most ≠ -1 → (2 ≤ r.nodes ∧ r.nodes ≤ 500) ∧ 0 ≤ r.most ∧ r.most ≤ 2000 ∧ (r.arcs.length : Int) ≤ r.most
  src : r.src = 0 ∨ (1 ≤ r.src ∧ r.src ≤ r.nodes)
  snk : r.snk = 0 ∨ (1 ≤ r.snk ∧ r.snk ≤ r.nodes)
  diff : r.src = r.snk → r.src = 0
  arc : ∀ a ∈ r.arcs, (1 ≤ a.fr ∧ a.fr ≤ r.nodes) ∧ (1 ≤ a.to ∧ a.to ≤ r.nodes) ∧ 0 ≤ a.cap
  sum : (r.arcs.map (·.cap)).sum = r.sum
  most_le : r.sum ≤ 4611686018427387903
theorem sum_nn : ∀ {l : List Int}, (∀ x ∈ l, 0 ≤ x) → 0 ≤ l.sum
  | [], _ => by simp
  | x :: l, h => by
    have := sum_nn (l := l) fun y hy => h y (by simp [hy])
    have := h x (by simp)
    rw [List.sum_cons]; omega
theorem Rd.OK.sum_ge {r : Rd} (h : r.OK) : 0 ≤ r.sum := by
  rw [← h.sum]
  exact sum_nn fun x hx => by
    obtain ⟨a, ha, rfl⟩ := List.mem_map.1 hx
    exact (h.arc a ha).2.2
theorem Rd.OK.len {r : Rd} (h : r.OK) : r.arcs.length ≤ 2000 := by
  by_cases hm : r.most = -1
  · rw [(h.none hm).1]; simp
  · have := h.some hm; omega
theorem Rd.OK.nodes_le {r : Rd} (h : r.OK) : 0 ≤ r.nodes ∧ r.nodes ≤ 500 := by
  by_cases hm : r.most = -1
  · rw [(h.none hm).2.2.2]; omega
  · have := h.some hm; omega
theorem Rd.OK.most_in {r : Rd} (h : r.OK) : -1 ≤ r.most ∧ r.most ≤ 2000 := by
  by_cases hm : r.most = -1
  · omega
  · have := h.some hm; omega
theorem Rd.OK.problem {r : Rd} (h : r.OK) (w : Ws) : (r.problem w).1.OK := by
  unfold Rd.problem
  split
  · exact h
  · rename_i h1
    split
    · exact h
    · split
      · exact h
      · rename_i h2 h3
        have hm : r.most = -1 := Classical.byContradiction fun k => h1 (.inr (.inr k))
        obtain ⟨e1, e2, e3, e4⟩ := h.none hm
        refine ⟨fun k => ?_, fun _ => ⟨⟨by simp only; omega, by simp only; omega⟩, by simp only; omega, by simp only; omega, ?_⟩, .inl e2, .inl e3, fun _ => e2, fun a ha => ?_, h.sum, h.most_le⟩
        · have k' : (numsL (w.drop 2)).1.getD 1 0 = -1 := k
          omega
        · show (r.arcs.length : Int) ≤ (numsL (w.drop 2)).1.getD 1 0
          rw [e1]
          show (0 : Int) ≤ _
          omega
        · simp only at ha; rw [e1] at ha; exact absurd ha List.not_mem_nil
theorem Rd.OK.end_ {r : Rd} (h : r.OK) (w : Ws) : (r.end_ w).1.OK := by
  unfold Rd.end_
  split
  · exact h
  · rename_i h1
    have hm : r.most ≠ -1 := fun k => h1 (.inr (.inl k))
    split
    · split
      · exact h
      · split
        · exact h
        · split
          · exact h
          · split
            · exact h
            · rename_i h2 h3 h4 h5
              have h4' := Classical.not_not.1 h4
              exact ⟨fun k => absurd k hm, h.some, .inr h4', h.snk, fun k => absurd (.inr k) h5, h.arc, h.sum, h.most_le⟩
    · split
      · split
        · exact h
        · split
          · exact h
          · split
            · exact h
            · split
              · exact h
              · rename_i h2 h3 h4 h5
                have h4' := Classical.not_not.1 h4
                exact ⟨fun k => absurd k hm, h.some, h.src, .inr h4', fun k => absurd (.inl k.symm) h5, h.arc, h.sum, h.most_le⟩
      · exact h
theorem Rd.OK.arc_ {r : Rd} (h : r.OK) (w : Ws) : (r.arc w).1.OK := by
  unfold Rd.arc
  split
  · exact h
  · rename_i h1
    split
    · exact h
    · split
      · exact h
      · split
        · exact h
        · split
          · exact h
          · split
            · exact h
            · rename_i h2 h3 h4 h5 h6
              have hm : r.most ≠ -1 := fun k => h1 (.inr (.inl (h.none k).2.1))
              have h7 := h.some hm
              have h3a := Classical.not_not.1 (fun k => h3 (.inl k))
              have h3b := Classical.not_not.1 (fun k => h3 (.inr k))
              refine ⟨fun k => absurd k hm, fun _ => ⟨h7.1, h7.2.1, h7.2.2.1, ?_⟩, h.src, h.snk, h.diff, fun a ha => ?_, ?_, by simp only; omega⟩
              · simp only [List.length_append, List.length_cons, List.length_nil]; omega
              · rcases List.mem_append.1 ha with ha | ha
                · exact h.arc a ha
                · obtain rfl := List.mem_singleton.1 ha
                  exact ⟨h3a, h3b, by simp only; omega⟩
              · simp only [List.map_append, List.sum_append, h.sum]; simp
theorem Rd.OK.line {r : Rd} (h : r.OK) (w : Ws) : (r.line w).1.OK := by
  unfold Rd.line
  split
  · exact h
  · split
    · exact h
    · split
      · exact h.problem _
      · split
        · exact h.end_ _
        · split
          · exact h.arc_ _
          · exact h
def rd0 : Rd := ⟨0, 0, 0, [], -1, 0⟩
theorem rd0_ok : rd0.OK := ⟨fun _ => ⟨rfl, rfl, rfl, rfl⟩, fun h => absurd rfl h, .inl rfl, .inl rfl, fun _ => rfl, fun a ha => absurd ha List.not_mem_nil, rfl, by decide⟩
/-- Line by line: what was read, the line that is wrong, and why. -/
def readL (r : Rd) (i : Nat) : List (List UInt8) → Rd × Nat × Int
  | [] => (r, 0, 0)
  | x :: ls => if (r.line (wordsL x)).2 ≠ 0 then (r, i + 1, (r.line (wordsL x)).2) else readL (r.line (wordsL x)).1 (i + 1) ls
def net0 : Net := ⟨0, 0, 0, []⟩
/-- A text's network, or the line that is wrong, and why. -/
def parseL (s : List UInt8) : Net × Nat × Int :=
  if (readL rd0 0 (linesL s)).2.2 ≠ 0 then (net0, (readL rd0 0 (linesL s)).2.1, (readL rd0 0 (linesL s)).2.2) else
  if (readL rd0 0 (linesL s)).1.most = -1 ∨ (readL rd0 0 (linesL s)).1.src = 0 ∨ (readL rd0 0 (linesL s)).1.snk = 0 then (net0, (linesL s).length + 1, 2) else
  if ((readL rd0 0 (linesL s)).1.arcs.length : Int) < (readL rd0 0 (linesL s)).1.most then (net0, (linesL s).length + 1, 6) else
  (⟨(readL rd0 0 (linesL s)).1.nodes, (readL rd0 0 (linesL s)).1.src, (readL rd0 0 (linesL s)).1.snk, (readL rd0 0 (linesL s)).1.arcs⟩, 0, 0)
theorem Rd.OK.read {r : Rd} (h : r.OK) (i : Nat) (ls : List (List UInt8)) : (readL r i ls).1.OK := by
  induction ls generalizing r i with
  | nil => exact h
  | cons x ls ih =>
    unfold readL
    split
    · exact h
    · exact ih (h.line _) _
theorem parse_right {s : List UInt8} (h : (parseL s).2.2 = 0) : (parseL s).1.Right ∧ (parseL s).2.1 = 0 := by
  have ok := rd0_ok.read 0 (linesL s)
  unfold parseL at h ⊢
  split
  · rename_i h1
    rw [if_pos h1] at h; exact absurd h h1
  · rename_i h1
    rw [if_neg h1] at h
    split
    · rename_i h2
      rw [if_pos h2] at h; cases h
    · rename_i h2
      rw [if_neg h2] at h
      split
      · rename_i h3
        rw [if_pos h3] at h; cases h
      · rename_i h3
        refine ⟨⟨?_, ?_, ?_, ?_, ok.len, ok.arc, ?_⟩, rfl⟩
        · exact (ok.some fun k => h2 (.inl k)).1
        · exact ok.src.resolve_left fun k => h2 (.inr (.inl k))
        · exact ok.snk.resolve_left fun k => h2 (.inr (.inr k))
        · exact fun k => h2 (.inr (.inl (ok.diff k)))
        · simp only; rw [ok.sum]; exact ok.most_le
end Go.Proofs.YtkiadfpkgpgbiaaGreatDoor
