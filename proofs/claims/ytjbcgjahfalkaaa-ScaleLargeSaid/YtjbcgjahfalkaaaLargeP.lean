
/- Networks whose capacities are as many times greater, in plain terms. -/
import Derived.Test.YtjbcgjahfalkaaaQX6
set_option linter.unusedVariables false
set_option linter.unusedSimpArgs false
namespace Go.Proofs.Ytjbcgjahfalkaaa
open Go.RowKit
def bigA (C : Int) (a : Arc) : Arc := ⟨a.fr, a.to, a.cap * C⟩
def bigN (N : Net) (C : Int) : Net := ⟨N.nodes, N.src, N.snk, N.arcs.map (bigA C)⟩
def bigL (C : Int) (l : List Int) : List Int := l.map (· * C)
section
variable {N : Net} {C : Int}
theorem big_getD (l : List Int) (r : Nat) : (bigL C l).getD r 0 = l.getD r 0 * C := by
  unfold bigL
  rw [List.getD_eq_getElem?_getD, List.getD_eq_getElem?_getD, List.getElem?_map]
  cases l[r]? with
  | none => simp
  | some x => rfl
theorem big_le (hC : 0 < C) {x y : Int} : x * C ≤ y * C ↔ x ≤ y := Int.mul_le_mul_right hC
theorem big_lt (hC : 0 < C) {x y : Int} : x * C < y * C ↔ x < y := by
  have := big_le hC (x := y) (y := x)
  omega
theorem big_ends (r : Nat) : endsZ (bigN N C) r = endsZ N r := by
  unfold endsZ
  simp only [bigN, List.getElem?_map]
  cases N.arcs[r / 2]? with
  | none => rfl
  | some a => show endsOf (bigA C a) r = endsOf a r; unfold endsOf bigA; rfl
theorem big_fr (r : Nat) : frN (bigN N C) r = frN N r := by unfold frN; rw [big_ends]
theorem big_to (r : Nat) : toN (bigN N C) r = toN N r := by unfold toN; rw [big_ends]
theorem big_end (W : List Nat) : endN (bigN N C) W = endN N W := by
  unfold endN
  cases W.getLast? with
  | none => rfl
  | some r => exact big_to r
theorem big_len : (bigN N C).arcs.length = N.arcs.length := by simp [bigN]
theorem big_room : ∀ (l : List Arc) (f : List Int), roomL ((l.map (bigA C)).zip (bigL C f)) = bigL C (roomL (l.zip f))
  | [], _ => rfl
  | _ :: _, [] => rfl
  | a :: l, x :: f => by
    have ih := big_room l f
    unfold roomL bigL at ih ⊢
    simp only [List.map_cons, List.zip_cons_cons, List.flatMap_cons, List.map_append, List.map_nil, bigA]
    rw [ih, Int.sub_mul]
theorem big_ex : ∀ (l : List Arc) (f : List Int) (v : Int), exZ ((l.map (bigA C)).zip (bigL C f)) v = exZ (l.zip f) v * C
  | [], _, _ => by simp [exZ]
  | _ :: _, [], _ => by simp [exZ, bigL]
  | a :: l, x :: f, v => by
    have ih := big_ex l f v
    unfold exZ bigL at ih ⊢
    simp only [List.map_cons, List.zip_cons_cons, List.sum_cons]
    rw [ih, Int.add_mul, Int.sub_mul]
    congr 1
    simp only [bigA]
    by_cases h1 : a.to = v <;> by_cases h2 : a.fr = v <;> simp [h1, h2]
theorem big_flow (hC : 0 < C) {f : List Int} (hf : IsFlow N f) : IsFlow (bigN N C) (bigL C f) := by
  refine ⟨⟨by rw [big_len]; unfold bigL; rw [List.length_map]; exact hf.len, fun p hp => ?_⟩, fun v h1 h2 h3 => ?_⟩
  · obtain ⟨i, hi, hip⟩ := List.mem_iff_getElem.1 hp
    have hz : ((N.arcs.map (bigA C)).zip (bigL C f))[i]? = some p := by
      have : ((bigN N C).arcs.zip (bigL C f))[i]? = some p := by rw [List.getElem?_eq_getElem hi, hip]
      exact this
    obtain ⟨g1, g2⟩ := List.getElem?_zip_eq_some.1 hz
    unfold bigL at g2
    rw [List.getElem?_map] at g1 g2
    cases ha : N.arcs[i]? with
    | none => rw [ha] at g1; simp at g1
    | some a =>
      cases hx : f[i]? with
      | none => rw [hx] at g2; simp at g2
      | some x =>
        rw [ha] at g1
        rw [hx] at g2
        have e1 : bigA C a = p.1 := by simpa using g1
        have e2 : x * C = p.2 := by simpa using g2
        have := hf.all (a, x) (List.mem_of_getElem? (List.getElem?_zip_eq_some.2 ⟨ha, hx⟩))
        rw [← e1, ← e2]
        exact ⟨Int.mul_nonneg this.1 (by omega), (big_le hC).2 this.2⟩
  · show exZ ((N.arcs.map (bigA C)).zip (bigL C f)) v = 0
    rw [big_ex, hf.kept v h1 h2 h3, Int.zero_mul]
theorem big_lev (hC : 0 < C) {rm lv : List Int} {least : Int} : IsLev N rm least lv → IsLev (bigN N C) (bigL C rm) (least * C) lv := by
  intro h
  refine ⟨h.len, h.src, h.nil, h.rng, h.zero, fun r hr hl hf => ?_, fun v hv => ?_⟩
  · rw [big_len] at hr
    rw [big_getD, big_le hC] at hl
    rw [big_fr] at hf ⊢
    rw [big_to]
    exact h.step r hr hl hf
  · obtain ⟨r, h1, h2, h3, h4⟩ := h.back v hv
    exact ⟨r, by rw [big_len]; exact h1, by rw [big_getD, big_le hC]; exact h2, by rw [big_to]; exact h3, by rw [big_fr]; exact h4⟩
theorem small_lev (hC : 0 < C) {rm lv : List Int} {least : Int} (h1 : 1 ≤ least) (h2 : least ≤ C) : IsLev (bigN N C) (bigL C rm) least lv → IsLev (bigN N C) (bigL C rm) (1 * C) lv := by
  have key : ∀ r, least ≤ (bigL C rm).getD r 0 ↔ 1 * C ≤ (bigL C rm).getD r 0 := by
    intro r
    rw [big_getD, big_le hC]
    constructor
    · intro h
      rcases Int.lt_or_le (rm.getD r 0) 1 with h3 | h3
      · have := (big_le hC (x := rm.getD r 0) (y := 0)).2 (by omega)
        omega
      · exact h3
    · intro h
      have := (big_le hC).2 h
      omega
  intro h
  refine ⟨h.len, h.src, h.nil, h.rng, h.zero, fun r hr hl hf => h.step r hr ((key r).2 hl) hf, fun v hv => ?_⟩
  obtain ⟨r, g1, g2, g3, g4⟩ := h.back v hv
  exact ⟨r, g1, (key r).1 g2, g3, g4⟩
theorem big_leads (hC : 0 < C) (rm : List Int) (least : Int) (lv : List Int) (k : Nat) : leadsL (bigN N C) (bigL C rm) (least * C) lv k = leadsL N rm least lv k := by
  unfold leadsL
  refine List.filter_congr fun r _ => ?_
  rw [big_getD, big_fr, big_to]
  simp only [big_le hC]
theorem big_ldAt (ls : List Nat) (v : Nat) : ldAt (bigN N C) ls v = ldAt N ls v := by
  unfold ldAt
  refine List.filter_congr fun r _ => ?_
  rw [big_fr]
theorem big_nx (hC : 0 < C) {L : Nat → List Nat} {least : Int} {rm : List Int} {pos W pos' W' : List Nat} {b : Bool} (h : Nx N L least rm pos W b pos' W') : Nx (bigN N C) L (least * C) (bigL C rm) pos W b pos' W' := by
  induction h with
  | hit h1 => exact .hit (by rw [big_end]; exact h1)
  | go h1 h2 h3 h4 _ ih => exact .go (by rw [big_end]; exact h1) (by rw [big_end]; exact h2) (by rw [big_end]; exact h3) (by rw [big_getD, big_le hC]; exact h4) ih
  | skip h1 h2 h3 h4 _ ih => exact .skip (by rw [big_end]; exact h1) (by rw [big_end]; exact h2) (by rw [big_end]; exact h3) (by rw [big_getD, big_lt hC]; exact h4) (by rw [big_end]; exact ih)
  | back h1 h2 h3 h4 _ ih => exact .back (by rw [big_end]; exact h1) (by rw [big_end]; exact h2) (by rw [big_end]; exact h3) (by rw [big_end]; exact h4) (by rw [big_end]; exact ih)
  | stop h1 h2 h3 => exact .stop h1 h2 h3
theorem big_push1 (a : Int) (r : Nat) (rm : List Int) : push1 (a * C) r (bigL C rm) = bigL C (push1 a r rm) := by
  unfold push1
  rw [big_getD, big_getD]
  unfold bigL
  rw [List.map_set, List.map_set, Int.sub_mul, Int.add_mul]
theorem big_pushR (a : Int) : ∀ (W : List Nat) (rm : List Int), pushR (a * C) W (bigL C rm) = bigL C (pushR a W rm)
  | [], _ => rfl
  | r :: W, rm => by
    show pushR (a * C) W (push1 (a * C) r (bigL C rm)) = bigL C (pushR a W (push1 a r rm))
    rw [big_push1, big_pushR a W]
theorem big_fold (hC : 0 < C) (rm : List Int) : ∀ (W : List Nat) (x : Int), W.foldl (fun m q => if (bigL C rm).getD q 0 < m then (bigL C rm).getD q 0 else m) (x * C) = W.foldl (fun m q => if rm.getD q 0 < m then rm.getD q 0 else m) x * C
  | [], _ => rfl
  | q :: W, x => by
    simp only [List.foldl_cons]
    have e : (if (bigL C rm).getD q 0 < x * C then (bigL C rm).getD q 0 else x * C) = (if rm.getD q 0 < x then rm.getD q 0 else x) * C := by
      rw [big_getD]
      by_cases h : rm.getD q 0 < x
      · rw [if_pos h, if_pos ((big_lt hC).2 h)]
      · rw [if_neg h, if_neg (fun h2 => h ((big_lt hC).1 h2))]
    rw [e, big_fold hC rm W]
theorem big_most (hC : 0 < C) (rm : List Int) (W : List Nat) : mostR (bigL C rm) W = mostR rm W * C := by
  unfold mostR
  rw [big_getD, big_fold hC]
theorem big_cut (hC : 0 < C) (least : Int) (rm : List Int) (W : List Nat) : cutR (least * C) (bigL C rm) W = cutR least rm W := by
  unfold cutR
  congr 1
  funext r
  rw [big_getD]
  simp only [big_lt hC]
def bigW (C : Int) (ws : List (List Nat × Int)) : List (List Nat × Int) := ws.map fun w => (w.1, w.2 * C)
theorem big_bl (hC : 0 < C) {L : Nat → List Nat} {least : Int} {rm rm' : List Int} {pos W : List Nat} {ws : List (List Nat × Int)} (h : Bl N L least rm pos W ws rm') : Bl (bigN N C) L (least * C) (bigL C rm) pos W (bigW C ws) (bigL C rm') := by
  induction h with
  | stop h1 => exact .stop (big_nx hC h1)
  | walk h1 _ ih =>
    rw [← big_pushR, ← big_most hC, ← big_cut hC least, ← big_pushR, ← big_most hC] at ih
    have e := big_nx hC h1
    have := Bl.walk e ih
    rw [big_most hC] at this
    exact this
theorem big_blk (hC : 0 < C) {least : Int} {f f' : List Int} {ws : List (List Nat × Int)} (h : BlkOf N least f ws f') : BlkOf (bigN N C) (least * C) (bigL C f) (bigW C ws) (bigL C f') := by
  obtain ⟨lv, h1, h2, h3⟩ := h
  have e1 : roomL ((bigN N C).arcs.zip (bigL C f)) = bigL C (roomL (N.arcs.zip f)) := big_room _ _
  have e2 : roomL ((bigN N C).arcs.zip (bigL C f')) = bigL C (roomL (N.arcs.zip f')) := big_room _ _
  refine ⟨lv, by rw [e1]; exact big_lev hC h1, big_flow hC h2, ?_⟩
  rw [e1, e2, big_leads hC, big_len]
  have hL : ldAt (bigN N C) (leadsL N (roomL (N.arcs.zip f)) least lv (2 * N.arcs.length)) = ldAt N (leadsL N (roomL (N.arcs.zip f)) least lv (2 * N.arcs.length)) := by
    funext v
    exact big_ldAt _ v
  rw [hL]
  exact big_bl hC h3
theorem big_dn (hC : 0 < C) {least : Int} {f f' : List Int} {p k : Nat} (h : Dn N least f p k f') : Dn (bigN N C) (least * C) (bigL C f) p k (bigL C f') := by
  have e1 : ∀ f, roomL ((bigN N C).arcs.zip (bigL C f)) = bigL C (roomL (N.arcs.zip f)) := fun f => big_room _ _
  induction h with
  | stop h1 h2 => exact .stop (by rw [e1]; exact big_lev hC h1) h2
  | @step f f1 f' lv ws p k h1 h2 h3 _ ih =>
    have hl : (bigW C ws).length = ws.length := by unfold bigW; rw [List.length_map]
    rw [← hl]
    exact .step (by rw [e1]; exact big_lev hC h1) h2 (big_blk hC h3) ih
end
end Go.Proofs.Ytjbcgjahfalkaaa
