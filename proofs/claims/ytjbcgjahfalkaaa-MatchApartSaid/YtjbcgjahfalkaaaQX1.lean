/- The engine and the words that all chapters share: several texts in one. -/
import Derived.Test.YtjbcgjahfalkaaaMatchP
import Derived.Test.YtjbcgjahfalkaaaQB

/- Chapter 16's example. -/
set_option linter.unusedVariables false
set_option linter.unusedSimpArgs false
namespace Go.Proofs.Ytjbcgjahfalkaaa
def ex16 : Gr := ⟨2, 2, [⟨1, 1⟩, ⟨1, 2⟩, ⟨2, 1⟩]⟩
theorem ex16_right : ex16.Right := ⟨by decide, by decide, by decide, fun e he => (by
  simp only [ex16, List.mem_cons, List.not_mem_nil, or_false] at he
  rcases he with rfl | rfl | rfl <;> decide)⟩
theorem ex16_match : IsMatch ex16 [1, 2] := by
  refine ⟨by decide, fun x hx => ?_, ?_⟩
  · simp only [List.mem_cons, List.not_mem_nil, or_false] at hx
    rcases hx with rfl | rfl <;> decide
  · rw [List.pairwise_cons]
    refine ⟨fun y hy a b ha hb => ?_, List.pairwise_singleton _ _⟩
    rw [List.mem_singleton.1 hy] at hb
    have e1 : (⟨1, 2⟩ : Edg) = a := Option.some.inj ha
    have e2 : (⟨2, 1⟩ : Edg) = b := Option.some.inj hb
    rw [← e1, ← e2]
    decide
theorem ex16_only {l : List Int} (h : IsMatch ex16 l) (h2 : 2 ≤ l.length) : l = [1, 2] := by
  have hr : ∀ x ∈ l, 0 ≤ x ∧ x < 3 := h.rng
  have g0 : ex16.edges[(0 : Int).toNat]? = some ⟨1, 1⟩ := rfl
  have g1 : ex16.edges[(1 : Int).toNat]? = some ⟨1, 2⟩ := rfl
  have g2 : ex16.edges[(2 : Int).toNat]? = some ⟨2, 1⟩ := rfl
  match l, h, h2, hr with
  | a :: b :: r, h, _, hr =>
    have hab := (List.pairwise_cons.1 h.rise).1
    have hap := (List.pairwise_cons.1 h.apart).1
    have a1 := hr a (by simp)
    have a0 : a ≠ 0 := by
      rintro rfl
      have b1 := hab b (by simp)
      have b2 := hr b (by simp)
      have hb : b = 1 ∨ b = 2 := by omega
      rcases hb with rfl | rfl
      · exact absurd (hap 1 (by simp) _ _ g0 g1) (by decide)
      · exact absurd (hap 2 (by simp) _ _ g0 g2) (by decide)
    have b1 := hab b (by simp)
    have b2 := hr b (by simp)
    obtain rfl : a = 1 := by omega
    obtain rfl : b = 2 := by omega
    match r, h, hr with
    | [], _, _ => rfl
    | c :: r, h, hr =>
      have c1 := (List.pairwise_cons.1 (List.pairwise_cons.1 h.rise).2).1 c (by simp)
      have c2 := hr c (by simp)
      omega
end Go.Proofs.Ytjbcgjahfalkaaa


/- Chapter 16's words: a number of raw numbers, and rows that are the same. -/
set_option linter.unusedVariables false
set_option linter.unusedSimpArgs false
namespace Go.Proofs.Ytjbcgjahfalkaaa
open Go.RowKit
theorem pick16_fn {c n : Int} (hc : inB c) (hn : 0 < n) : Fn 43 [.int .i64 c, .int .i64 n] [] [] fun v H' => v = .int .i64 (pickZ c n) ∧ H' = [] := by
  unfold inB at hc
  refine Fn_of Try.func43 rfl rfl fun w0 => ?_
  (repeat' (first | refine J_seq ?_ | refine J_skip ?_ | refine J_yes rfl ?_ | refine J_no rfl ?_))
  refine J_region ?_
  refine JL_all [] rfl ?_
  refine J_cut [(0, .int .i64 (if c < 0 then - (c + 1) else c)), (1, .int .i64 n)] [] ?_ ?_
  · (repeat' (first | refine J_seq ?_ | refine J_skip ?_ | refine J_yes rfl ?_ | refine J_no rfl ?_))
    refine J_region ?_
    refine JL_all [] rfl ?_
    refine J_dec rfl (fun h => ?_) (fun h => J_skip ?_)
    · refine J_region (JL_all [] rfl ?_)
      refine ⟨[], ⟨?_, rfl, trivial⟩, by decide, rfl⟩
      show some (Value.int .i64 (IntKind.i64.wrap (0 - IntKind.i64.wrap (c + 1)))) = _
      rw [if_pos h, w64 (n := c + 1) (by omega), w64 (by omega), Int.zero_sub]
    · exact ⟨[], ⟨by rw [if_neg h]; rfl, rfl, trivial⟩, by decide, rfl⟩
  (repeat' (first | refine J_seq ?_ | refine J_skip ?_ | refine J_yes rfl ?_ | refine J_no rfl ?_))
  refine J_region ?_
  refine JL_run [] rfl ?_
  refine JL_val [] (OpV_rem rfl rfl rfl (by omega)) rfl ?_
  refine JL_all [] rfl ?_
  refine J_ret ⟨_, rfl, congrArg (Value.int .i64) ?_, rfl⟩
  unfold pickZ
  rw [Int.tmod_eq_emod_of_nonneg (by split <;> omega)]
theorem same16_fn (A : Option Addr) (c b o : Nat) (l : List Int) (hA : l ≠ [] → A = some ⟨b, o, none⟩) (hl : l.length ≤ 100000) (A2 : Option Addr) (c2 b2 o2 : Nat) (l2 : List Int) (hA2 : l2 ≠ [] → A2 = some ⟨b2, o2, none⟩) :
    Fn 48 [.slice A l.length c, .slice A2 l2.length c2] [] [.seg b o (ints l), .seg b2 o2 (ints l2)] fun u H' => u = .bool (cdec (l = l2)) ∧ H' = [] := by
  refine Fn_of Try.func48 rfl rfl fun w0 => ?_
  (repeat' (first | refine J_seq ?_ | refine J_skip ?_ | refine J_yes rfl ?_ | refine J_no rfl ?_))
  refine J_region ?_
  refine JL_all [] rfl ?_
  (repeat' (first | refine J_seq ?_ | refine J_skip ?_ | refine J_yes rfl ?_ | refine J_no rfl ?_))
  refine J_region ?_
  refine JL_all [] rfl ?_
  refine J_dec rfl (fun h => ?_) (fun h => J_skip ?_)
  · (repeat' (first | refine J_seq ?_ | refine J_skip ?_ | refine J_yes rfl ?_ | refine J_no rfl ?_))
    refine J_region ?_
    refine JL_all [] rfl ?_
    refine J_drop [] (by decide) rfl (J_ret ⟨_, rfl, congrArg Value.bool (cdec_no (fun e => h (by rw [e]))).symm, rfl⟩)
  have hlen : l.length = l2.length := by omega
  (repeat' (first | refine J_seq ?_ | refine J_skip ?_ | refine J_yes rfl ?_ | refine J_no rfl ?_))
  refine J_region ?_
  refine JL_all [] rfl ?_
  refine J_block ?_
  refine J_loop (σ := Nat) (fun k => [(5, .int .i64 k), (0, .slice A l.length c), (1, .slice A2 l2.length c2)]) (fun k => [.seg b o (ints l), .seg b2 o2 (ints l2)]) (fun k => k ≤ l.length ∧ ∀ j, j < k → l[j]? = l2[j]?) (fun k => l.length - k)
    0 [0, 1] ⟨rfl, rfl, rfl, trivial⟩ (by decide) rfl ⟨Nat.zero_le _, fun x hx => by omega⟩ ?_
  rintro k ⟨hk, hall⟩
  (repeat' (first | refine J_seq ?_ | refine J_skip ?_ | refine J_yes rfl ?_ | refine J_no rfl ?_))
  refine J_region ?_
  refine JL_all [] rfl ?_
  refine J_dec rfl (fun hlt => J_skip ?_) (fun hge => J_exit ?_)
  · have hlt : k < l.length := by omega
    obtain rfl := hA (by rintro rfl; simp at hlt)
    obtain rfl := hA2 (by intro h0; have h1 : l2.length = 0 := by rw [h0]; rfl
                          omega)
    obtain ⟨x, hx⟩ : ∃ x, l[k]? = some x := ⟨l[k], List.getElem?_eq_getElem hlt⟩
    obtain ⟨y, hy⟩ : ∃ y, l2[k]? = some y := ⟨l2[k]'(by omega), List.getElem?_eq_getElem (by omega)⟩
    refine J_seq (J_block ?_)
    (repeat' (first | refine J_seq ?_ | refine J_skip ?_ | refine J_yes rfl ?_ | refine J_no rfl ?_))
    refine J_walk 9 [(0, true), (1, true), (2, true), (3, true), (4, true), (5, true), (6, true), (7, true), (8, true)] [0, 1] (by kernel_rfl) (by decide) rfl ?_
    refine JW_run [] rfl ?_
    refine JW_still [] rfl (idx1 rfl rfl rfl rfl rfl hlt) rfl ?_
    refine JW_still [] rfl (ldseg 0 rfl rfl rfl rfl (readT_int' hx)) rfl ?_
    refine JW_run [] rfl ?_
    refine JW_still [] rfl (idx1 rfl rfl rfl rfl rfl (by omega)) rfl ?_
    refine JW_still [] rfl (ldseg 1 rfl rfl rfl rfl (readT_int' hy)) rfl ?_
    refine JW_all [] rfl ?_
    refine JL_nil ?_
    refine J_dec rfl (fun h => ?_) (fun h => J_skip ?_)
    · (repeat' (first | refine J_seq ?_ | refine J_skip ?_ | refine J_yes rfl ?_ | refine J_no rfl ?_))
      refine J_region ?_
      refine JL_all [] rfl ?_
      refine J_drop [] (by decide) rfl (J_ret ⟨_, rfl, congrArg Value.bool (cdec_no (fun e => ?_)).symm, rfl⟩)
      rw [e, hy] at hx
      exact h (Option.some.inj hx).symm
    · (repeat' (first | refine J_seq ?_ | refine J_skip ?_ | refine J_yes rfl ?_ | refine J_no rfl ?_))
      refine J_region ?_
      refine JL_all [] rfl ?_
      refine ⟨k + 1, [0, 1], ⟨?_, rfl, rfl, trivial⟩, by decide, rfl, ⟨by omega, fun j hj => ?_⟩, by omega⟩
      · show some (Value.int .i64 (IntKind.i64.wrap ((k : Int) + 1))) = _
        rw [w64 (by omega)]; rfl
      · by_cases e : j = k
        · subst e; rw [hx, hy]; exact congrArg some (Classical.not_not.1 h)
        · exact hall j (by omega)
  · (repeat' (first | refine J_seq ?_ | refine J_skip ?_ | refine J_yes rfl ?_ | refine J_no rfl ?_))
    refine J_region ?_
    refine JL_all [] rfl ?_
    refine J_drop [] (by decide) rfl (J_ret ⟨_, rfl, congrArg Value.bool (cdec_yes (List.ext_getElem? fun j => ?_)).symm, rfl⟩)
    by_cases hj : j < l.length
    · exact hall j (by omega)
    · rw [List.getElem?_eq_none (by omega), List.getElem?_eq_none (by omega)]
end Go.Proofs.Ytjbcgjahfalkaaa


/- Chapter 16's example, step by step. -/
set_option linter.unusedVariables false
set_option linter.unusedSimpArgs false
namespace Go.Proofs.Ytjbcgjahfalkaaa
open Go.RowKit
theorem shown16_fn : Fn 38 [] [] [] fun v H' => v = .bool true ∧ H' = [] := by
  refine Fn_of Try.func38 rfl rfl fun w0 => ?_
  (repeat' (first | refine J_seq ?_ | refine J_skip ?_ | refine J_yes rfl ?_ | refine J_no rfl ?_))
  refine J_region ?_
  refine JL_all [] rfl ?_
  (repeat' (first | refine J_seq ?_ | refine J_skip ?_ | refine J_yes rfl ?_ | refine J_no rfl ?_))
  refine J_region ?_
  refine JL_val [] (OpV_build rfl rfl rfl rfl rfl rfl) rfl ?_
  refine JL_val [] (OpV_build rfl rfl rfl rfl rfl rfl) rfl ?_
  refine JL_val [] (OpV_build rfl rfl rfl rfl rfl rfl) rfl ?_
  refine JL_lit rfl rfl rfl rfl rfl rfl rfl (fun _ => rfl) fun g => ?_
  refine JL_val [] (OpV_build rfl rfl rfl rfl rfl rfl) rfl ?_
  refine JL_callR [] (pairs_fn ex16 ex16_right (some ⟨g, 0, none⟩) 3 g 0 (fun _ => rfl) 2 rfl) rfl rfl rfl rfl (by kernel_rfl) ⟨⟨0, _, by simp, rfl, shows_blk _ _ _ (0, 0), .inr rfl⟩, trivial⟩ (fun _ => rfl) ?_
  rintro v H' ⟨f, A', c', hf, rfl, rfl⟩
  refine ⟨rfl, ?_⟩
  have hb := pairs_best ex16_right hf (nl := 2) (nr := 2) rfl rfl
  have hlist := ex16_only hb.1 (hb.2 _ ex16_match)
  rw [hlist]
  refine JL_know (own_is 0 rfl) fun ⟨_, _, hA, hl1⟩ => ?_
  obtain ⟨g3, hA⟩ := own_at hA hl1
  refine JL_all [] rfl ?_
  (repeat' (first | refine J_seq ?_ | refine J_skip ?_ | refine J_yes rfl ?_ | refine J_no rfl ?_))
  refine J_region ?_
  refine JL_run [] rfl ?_
  refine JL_set 14 (v' := .bool true) rfl (congrArg Value.bool (cdec_yes rfl)) ?_
  refine JL_run [2] rfl ?_
  refine JL_litG [2] rfl rfl rfl rfl rfl rfl rfl (fun _ => rfl) fun g4 => ?_
  refine JL_callR [2] (same16_fn A' c' g3 0 [1, 2] (fun _ => hA (by decide)) (by decide) (some ⟨g4, 0, none⟩) 2 g4 0 [1, 2] (fun _ => rfl)) rfl rfl rfl rfl (by kernel_rfl) ⟨⟨1, _, by simp, rfl, shows_ownS hA, seen_ownS hA⟩, ⟨0, _, by simp, rfl, shows_blk _ _ _ (0, 0), .inr rfl⟩, trivial⟩ (fun _ => rfl) ?_
  rintro v H' ⟨rfl, rfl⟩
  refine ⟨rfl, ?_⟩
  refine JL_all [2] rfl ?_
  refine J_drop [] (by decide) rfl (J_ret ⟨_, rfl, congrArg Value.bool (cdec_yes rfl), rfl⟩)
/-! ### A path -/
end Go.Proofs.Ytjbcgjahfalkaaa
