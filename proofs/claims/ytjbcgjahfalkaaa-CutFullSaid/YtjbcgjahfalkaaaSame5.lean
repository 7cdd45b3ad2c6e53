
/- Two rows that are the same. -/
import Derived.Test.YtjbcgjahfalkaaaQF
set_option linter.unusedVariables false
set_option linter.unusedSimpArgs false
namespace Go.Proofs.Ytjbcgjahfalkaaa
open Go.RowKit
theorem same5_fn (A : Option Addr) (c b o : Nat) (l : List Int) (hA : l ≠ [] → A = some ⟨b, o, none⟩) (hl : l.length ≤ 100000) (A2 : Option Addr) (c2 b2 o2 : Nat) (l2 : List Int) (hA2 : l2 ≠ [] → A2 = some ⟨b2, o2, none⟩) :
    Fn 35 [.slice A l.length c, .slice A2 l2.length c2] [] [.seg b o (ints l), .seg b2 o2 (ints l2)] fun u H' => u = .bool (cdec (l = l2)) ∧ H' = [] := by
  refine Fn_of Try.func35 rfl rfl fun w0 => ?_
  (repeat' (first | refine J_seq ?_ | refine J_skip ?_ | refine J_yes rfl ?_ | refine J_no rfl ?_))
  refine J_region ?_
  refine JL_all [] rfl ?_
  (repeat' (first | refine J_seq ?_ | refine J_skip ?_ | refine J_yes rfl ?_ | refine J_no rfl ?_))
  refine J_region ?_
  refine JL_all [] rfl ?_
  refine J_dec rfl (fun h => ?_) (fun h => J_skip ?_)
  · (repeat' (first | refine J_seq ?_ | refine J_skip ?_ | refine J_yes rfl ?_ | refine J_no rfl ?_))
    refine J_region ?_
    refine JL_all [] rfl ?_
    refine J_drop [] (by decide) rfl (J_ret ⟨_, rfl, congrArg Value.bool (cdec_no (fun e => h (by rw [e]))).symm, rfl⟩)
  have hlen : l.length = l2.length := by omega
  (repeat' (first | refine J_seq ?_ | refine J_skip ?_ | refine J_yes rfl ?_ | refine J_no rfl ?_))
  refine J_region ?_
  refine JL_all [] rfl ?_
  refine J_block ?_
  refine J_loop (σ := Nat) (fun k => [(5, .int .i64 k), (0, .slice A l.length c), (1, .slice A2 l2.length c2)]) (fun k => [.seg b o (ints l), .seg b2 o2 (ints l2)]) (fun k => k ≤ l.length ∧ ∀ j, j < k → l[j]? = l2[j]?) (fun k => l.length - k)
    0 [0, 1] ⟨rfl, rfl, rfl, trivial⟩ (by decide) rfl ⟨Nat.zero_le _, fun x hx => by omega⟩ ?_
  rintro k ⟨hk, hall⟩
  (repeat' (first | refine J_seq ?_ | refine J_skip ?_ | refine J_yes rfl ?_ | refine J_no rfl ?_))
  refine J_region ?_
  refine JL_all [] rfl ?_
  refine J_dec rfl (fun hlt => J_skip ?_) (fun hge => J_exit ?_)
  · have hlt : k < l.length := by omega
    obtain rfl := hA (by rintro rfl; simp at hlt)
    obtain rfl := hA2 (by intro h0; have h1 : l2.length = 0 := by rw [h0]; rfl
                          omega)
    obtain ⟨x, hx⟩ : ∃ x, l[k]? = some x := ⟨l[k], List.getElem?_eq_getElem hlt⟩
    obtain ⟨y, hy⟩ : ∃ y, l2[k]? = some y := ⟨l2[k]'(by omega), List.getElem?_eq_getElem (by omega)⟩
    refine J_seq (J_block ?_)
    (repeat' (first | refine J_seq ?_ | refine J_skip ?_ | refine J_yes rfl ?_ | refine J_no rfl ?_))
    refine J_walk 9 [(0, true), (1, true), (2, true), (3, true), (4, true), (5, true), (6, true), (7, true), (8, true)] [0, 1] (by kernel_rfl) (by decide) rfl ?_
    refine JW_run [] rfl ?_
    refine JW_still [] rfl (idx1 rfl rfl rfl rfl rfl hlt) rfl ?_
    refine JW_still [] rfl (ldseg 0 rfl rfl rfl rfl (readT_int' hx)) rfl ?_
    refine JW_run [] rfl ?_
    refine JW_still [] rfl (idx1 rfl rfl rfl rfl rfl (by omega)) rfl ?_
    refine JW_still [] rfl (ldseg 1 rfl rfl rfl rfl (readT_int' hy)) rfl ?_
    refine JW_all [] rfl ?_
    refine JL_nil ?_
    refine J_dec rfl (fun h => ?_) (fun h => J_skip ?_)
    · (repeat' (first | refine J_seq ?_ | refine J_skip ?_ | refine J_yes rfl ?_ | refine J_no rfl ?_))
      refine J_region ?_
      refine JL_all [] rfl ?_
      refine J_drop [] (by decide) rfl (J_ret ⟨_, rfl, congrArg Value.bool (cdec_no (fun e => ?_)).symm, rfl⟩)
      rw [e, hy] at hx
      exact h (Option.some.inj hx).symm
    · (repeat' (first | refine J_seq ?_ | refine J_skip ?_ | refine J_yes rfl ?_ | refine J_no rfl ?_))
      refine J_region ?_
      refine JL_all [] rfl ?_
      refine ⟨k + 1, [0, 1], ⟨?_, rfl, rfl, trivial⟩, by decide, rfl, ⟨by omega, fun j hj => ?_⟩, by omega⟩
      · show some (Value.int .i64 (IntKind.i64.wrap ((k : Int) + 1))) = _
        rw [w64 (by omega)]; rfl
      · by_cases e : j = k
        · subst e; rw [hx, hy]; exact congrArg some (Classical.not_not.1 h)
        · exact hall j (by omega)
  · (repeat' (first | refine J_seq ?_ | refine J_skip ?_ | refine J_yes rfl ?_ | refine J_no rfl ?_))
    refine J_region ?_
    refine JL_all [] rfl ?_
    refine J_drop [] (by decide) rfl (J_ret ⟨_, rfl, congrArg Value.bool (cdec_yes (List.ext_getElem? fun j => ?_)).symm, rfl⟩)
    by_cases hj : j < l.length
    · exact hall j (by omega)
    · rw [List.getElem?_eq_none (by omega), List.getElem?_eq_none (by omega)]
theorem Net.Right.fits2 {N : Net} (h : N.Right) : N.Fits := by
  have h1 := h.nodes
  have h2 := h.src
  have h3 := h.snk
  have h4 := h.len
  refine ⟨by unfold inB; omega, by unfold inB; omega, by unfold inB; omega, by omega, fun a ha => ?_⟩
  have := h.arc a ha
  have := h.cap ha
  unfold inB
  omega
end Go.Proofs.Ytjbcgjahfalkaaa
