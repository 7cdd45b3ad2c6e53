
/- Chapter 16's example. -/
import Derived.Test.YtcgcimnjknadjaaMatchP
set_option linter.unusedVariables false
set_option linter.unusedSimpArgs false
namespace Go.Proofs.Ytcgcimnjknadjaa
def ex16 : Gr := ⟨2, 2, [⟨1, 1⟩, ⟨1, 2⟩, ⟨2, 1⟩]⟩
theorem ex16_right : ex16.Right := ⟨by decide, by decide, by decide, fun e he => (by
  simp only [ex16, List.mem_cons, List.not_mem_nil, or_false] at he
  rcases he with rfl | rfl | rfl <;> decide)⟩
theorem ex16_match : IsMatch ex16 [1, 2] := by
  refine ⟨by decide, fun x hx => ?_, ?_⟩
  · simp only [List.mem_cons, List.not_mem_nil, or_false] at hx
    rcases hx with rfl | rfl <;> decide
  · rw [List.pairwise_cons]
    refine ⟨fun y hy a b ha hb => ?_, List.pairwise_singleton _ _⟩
    rw [List.mem_singleton.1 hy] at hb
    have e1 : (⟨1, 2⟩ : Edg) = a := Option.some.inj ha
    have e2 : (⟨2, 1⟩ : Edg) = b := Option.some.inj hb
    rw [← e1, ← e2]
    decide
theorem ex16_only {l : List Int} (h : IsMatch ex16 l) (h2 : 2 ≤ l.length) : l = [1, 2] := by
  have hr : ∀ x ∈ l, 0 ≤ x ∧ x < 3 := h.rng
  have g0 : ex16.edges[(0 : Int).toNat]? = some ⟨1, 1⟩ := rfl
  have g1 : ex16.edges[(1 : Int).toNat]? = some ⟨1, 2⟩ := rfl
  have g2 : ex16.edges[(2 : Int).toNat]? = some ⟨2, 1⟩ := rfl
  match l, h, h2, hr with
  | a :: b :: r, h, _, hr =>
    have hab := (List.pairwise_cons.1 h.rise).1
    have hap := (List.pairwise_cons.1 h.apart).1
    have a1 := hr a (by simp)
    have a0 : a ≠ 0 := by
      rintro rfl
      have b1 := hab b (by simp)
      have b2 := hr b (by simp)
      have hb : b = 1 ∨ b = 2 := by omega
      rcases hb with rfl | rfl
      · exact absurd (hap 1 (by simp) _ _ g0 g1) (by decide)
      · exact absurd (hap 2 (by simp) _ _ g0 g2) (by decide)
    have b1 := hab b (by simp)
    have b2 := hr b (by simp)
    obtain rfl : a = 1 := by omega
    obtain rfl : b = 2 := by omega
    match r, h, hr with
    | [], _, _ => rfl
    | c :: r, h, hr =>
      have c1 := (List.pairwise_cons.1 (List.pairwise_cons.1 h.rise).2).1 c (by simp)
      have c2 := hr c (by simp)
      omega
end Go.Proofs.Ytcgcimnjknadjaa
