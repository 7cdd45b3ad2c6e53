
/- A changed text says the same network. -/
import Derived.Test.YtkiadfpkgpgbiaaGreatDoorDimaD
set_option linter.unusedVariables false
set_option linter.unusedSimpArgs false
namespace Go.Proofs.YtkiadfpkgpgbiaaGreatDoor
open Lib
def loudW (m : List UInt8) : List Ws := ((linesL m).map wordsL).filter fun w => !hushB w
theorem loud_rem {rm : List UInt8} (h : rm = [] ∨ rm = remk) (m : List UInt8) : loudW (rm ++ m) = loudW m := by
  rcases h with rfl | rfl
  · rfl
  · unfold loudW
    rw [show remk ++ m = [99, 32, 112, 32, 109, 97, 120, 32, 57, 32, 57] ++ 10 :: ([9] ++ 10 :: m) from rfl, lines_one (by decide), lines_one (by decide)]
    rfl
theorem gen_line {t0 : List UInt8} {ts : List (List UInt8)} {a m : List UInt8} (h0 : tokB t0) (h99 : t0 ≠ [99]) (ht : ∀ t ∈ ts, tokB t) (h : Gen ((t0 ++ toks ts) ++ 10 :: a) m) : ∃ us m1, loudW m = (t0 :: us) :: loudW m1 ∧ wqs ts us ∧ Gen a m1 := by
  rw [List.append_assoc] at h
  obtain ⟨m2, rfl, h2⟩ := gen_tok t0 _ _ h0.2 h
  obtain ⟨y, rm, m1, us, rfl, k1, k2, k3, k4, k5⟩ := gen_toks ts a m2 ht h2
  refine ⟨us, m1, ?_, k4, k2⟩
  have hno : ∀ b ∈ t0 ++ y, b ≠ 10 := fun b hb => (List.mem_append.1 hb).elim (fun h => (h0.2 b h).1) (k3 b)
  rw [← loud_rem k1 m1]
  unfold loudW
  rw [← List.append_assoc, lines_one hno, List.map_cons, k5 t0 h0, List.filter_cons_of_pos (by simp [hushB, h99])]
theorem itoa_tok {n : Int} (h : 0 ≤ n) : tokB (itoa n) := ⟨itoa_ne h, itoa_all h⟩
theorem wq_num {n : Int} (h : 0 ≤ n ∧ n ≤ 4611686018427387903) {u : List UInt8} (hu : wq (itoa n) u) : numL u = (n, 0) := by
  have hd : (itoa n).all digB = true := by rw [itoa_pos h.1]; exact dd_all _
  have hne := itoa_ne h.1
  rcases hu with rfl | ⟨_, rfl | rfl⟩
  · exact num_of h
  · rw [num_zero hne hd]; exact num_of h
  · rw [num_zero (by simp) (by rw [List.all_cons, hd]; rfl), num_zero hne hd]; exact num_of h
theorem wq_let {b : UInt8} {r u : List UInt8} (hb : digB b = false) (hu : wq (b :: r) u) : u = b :: r := by
  rcases hu with rfl | ⟨h, _⟩
  · rfl
  · simp [hb] at h
theorem wqs1 {t : List UInt8} {us : List (List UInt8)} (h : wqs [t] us) : ∃ u, us = [u] ∧ wq t u := by
  match us, h with
  | [u], ⟨h, _⟩ => exact ⟨u, rfl, h⟩
theorem wqs2 {t s : List UInt8} {us : List (List UInt8)} (h : wqs [t, s] us) : ∃ u v, us = [u, v] ∧ wq t u ∧ wq s v := by
  match us, h with
  | [u, v], ⟨h, k, _⟩ => exact ⟨u, v, rfl, h, k⟩
theorem wqs3 {t s r : List UInt8} {us : List (List UInt8)} (h : wqs [t, s, r] us) : ∃ u v w, us = [u, v, w] ∧ wq t u ∧ wq s v ∧ wq r w := by
  match us, h with
  | [u, v, w], ⟨h, k, j, _⟩ => exact ⟨u, v, w, rfl, h, k, j⟩
theorem tokL {t : List UInt8} (h : t = [112] ∨ t = [110] ∨ t = [97] ∨ t = [115] ∨ t = [116] ∨ t = [109, 97, 120]) : tokB t := by
  rcases h with rfl | rfl | rfl | rfl | rfl | rfl <;> exact ⟨by simp, by decide⟩
theorem gen_arcs : ∀ (l : List Arc) (m : List UInt8), (∀ a ∈ l, (0 ≤ a.fr ∧ a.fr ≤ 500) ∧ (0 ≤ a.to ∧ a.to ≤ 500) ∧ 0 ≤ a.cap ∧ a.cap ≤ 4611686018427387903) → Gen ((l.map arcT).flatten) m → arcsW l (loudW m)
  | [], m, _, h => by
    cases h with
    | nil => trivial
  | a :: l, m, hl, h => by
    have ha := hl a (by simp)
    have e : (List.map arcT (a :: l)).flatten = ([97] ++ toks [itoa a.fr, itoa a.to, itoa a.cap]) ++ 10 :: (l.map arcT).flatten := by simp [arcT, wrL_eq, toks]
    rw [e] at h
    obtain ⟨us, m1, e1, hq, hg⟩ := gen_line (tokL (by simp)) (by decide) (fun t ht => by
      simp only [List.mem_cons, List.not_mem_nil, or_false] at ht
      rcases ht with rfl | rfl | rfl
      · exact itoa_tok ha.1.1
      · exact itoa_tok ha.2.1.1
      · exact itoa_tok ha.2.2.1) h
    obtain ⟨u, v, w, rfl, q1, q2, q3⟩ := wqs3 hq
    rw [e1]
    exact ⟨⟨u, v, w, rfl, wq_num (by omega) q1, wq_num (by omega) q2, wq_num (by omega) q3⟩, gen_arcs l m1 (fun b hb => hl b (by simp [hb])) hg⟩
theorem gen_net {N : Net} (hR : N.Right) {m : List UInt8} (h : Gen (printL N) m) : netW N (loudW m) := by
  have hnn := hR.nodes
  have hs := hR.src
  have ht := hR.snk
  have hln := hR.len
  have e : printL N = ([112] ++ toks [[109, 97, 120], itoa N.nodes, itoa N.arcs.length]) ++ 10 :: (([110] ++ toks [itoa N.src, [115]]) ++ 10 :: (([110] ++ toks [itoa N.snk, [116]]) ++ 10 :: (N.arcs.map arcT).flatten)) := by simp [printL, printH, wrL_eq, toks]
  rw [e] at h
  obtain ⟨us, m1, e1, q1, h1⟩ := gen_line (tokL (by simp)) (by decide) (fun t ht => by
    simp only [List.mem_cons, List.not_mem_nil, or_false] at ht
    rcases ht with rfl | rfl | rfl
    · exact tokL (by simp)
    · exact itoa_tok (by omega)
    · exact itoa_tok (by omega)) h
  obtain ⟨us2, m2, e2, q2, h2⟩ := gen_line (tokL (by simp)) (by decide) (fun t ht => by
    simp only [List.mem_cons, List.not_mem_nil, or_false] at ht
    rcases ht with rfl | rfl
    · exact itoa_tok (by omega)
    · exact tokL (by simp)) h1
  obtain ⟨us3, m3, e3, q3, h3⟩ := gen_line (tokL (by simp)) (by decide) (fun t ht => by
    simp only [List.mem_cons, List.not_mem_nil, or_false] at ht
    rcases ht with rfl | rfl
    · exact itoa_tok (by omega)
    · exact tokL (by simp)) h2
  obtain ⟨u0, a, b, rfl, w0, w1, w2⟩ := wqs3 q1
  obtain ⟨c, u1, rfl, w3, w4⟩ := wqs2 q2
  obtain ⟨d, u2, rfl, w5, w6⟩ := wqs2 q3
  obtain rfl := wq_let (by decide) w0
  obtain rfl := wq_let (by decide) w4
  obtain rfl := wq_let (by decide) w6
  rw [e1, e2, e3]
  exact ⟨a, b, c, d, _, rfl, wq_num (by omega) w1, wq_num (by omega) w2, wq_num (by omega) w3, wq_num (by omega) w5, gen_arcs N.arcs m3 (fun a ha => by
    have h5 := hR.arc a ha
    have h6 := cap_le hR ha
    omega) h3⟩
theorem parse_gen {N : Net} (hR : N.Right) {m : List UInt8} (h : Gen (printL N) m) : parseL m = (N, 0, 0) := parse_net hR (gen_net hR h)
end Go.Proofs.YtkiadfpkgpgbiaaGreatDoor
