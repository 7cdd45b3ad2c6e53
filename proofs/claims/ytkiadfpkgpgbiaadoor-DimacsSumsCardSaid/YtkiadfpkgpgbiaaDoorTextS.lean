
/- The laws of chapter 2: what stands at their heads, and rows of texts compared. -/
import Derived.Test.YtkiadfpkgpgbiaaDoorTextN
import Derived.Test.YtkiadfpkgpgbiaaDoorQB
set_option linter.unusedVariables false
set_option linter.unusedSimpArgs false
namespace Go.Proofs.YtkiadfpkgpgbiaaDoor
open Go.RowKit
theorem readT_str {l : List (List UInt8)} {i : Nat} {x : List UInt8} (h : l[i]? = some x) : readT 9 (strs l) i = some (str x) := strs_get h
theorem strs_nat {g : Nat} {A : Option Addr} {l : List (List UInt8)} (h : strs l ≠ [] → A = some ⟨g, 0, none⟩) : l ≠ [] → A = some ⟨g, 0, none⟩ := fun hne => h (by simpa [strs] using hne)
theorem same2_fn (l : List (List UInt8)) (hl : l.length ≤ 100000) (A : Option Addr) (n c b o : Nat) (hA : l ≠ [] → A = some ⟨b, o, none⟩) (hn : n = l.length) (A2 : Option Addr) (n2 c2 b2 o2 : Nat) (hA2 : l ≠ [] → A2 = some ⟨b2, o2, none⟩) (hn2 : n2 = l.length) :
    Fn 14 [.slice A n c, .slice A2 n2 c2] [] [.seg b o (strs l), .seg b2 o2 (strs l)] fun u H' => u = .bool true ∧ H' = [] := by
  subst hn hn2
  refine Fn_of Tryd.func14 rfl rfl fun w0 => ?_
  (repeat' (first | refine J_seq ?_ | refine J_skip ?_ | refine J_yes rfl ?_ | refine J_no rfl ?_))
  refine J_region ?_
  refine JL_all [] rfl ?_
  (repeat' (first | refine J_seq ?_ | refine J_skip ?_ | refine J_yes rfl ?_ | refine J_no rfl ?_))
  refine J_region ?_
  refine JL_all [] rfl ?_
  refine J_dec rfl (fun h => absurd rfl h) (fun h => J_skip ?_)
  (repeat' (first | refine J_seq ?_ | refine J_skip ?_ | refine J_yes rfl ?_ | refine J_no rfl ?_))
  refine J_region ?_
  refine JL_all [] rfl ?_
  refine J_block ?_
  refine J_loop (σ := Nat) (fun k => [(5, .int .i64 k), (0, .slice A l.length c), (1, .slice A2 l.length c2)]) (fun k => [.seg b o (strs l), .seg b2 o2 (strs l)]) (fun k => k ≤ l.length) (fun k => l.length - k)
    0 [0, 1] ⟨rfl, rfl, rfl, trivial⟩ (by decide) rfl (Nat.zero_le _) ?_
  intro k hk
  (repeat' (first | refine J_seq ?_ | refine J_skip ?_ | refine J_yes rfl ?_ | refine J_no rfl ?_))
  refine J_region ?_
  refine JL_all [] rfl ?_
  refine J_dec rfl (fun hlt => J_skip ?_) (fun hge => J_exit ?_)
  · have hlt : k < l.length := by omega
    obtain rfl := hA (by rintro rfl; simp at hlt)
    obtain rfl := hA2 (by rintro rfl; simp at hlt)
    obtain ⟨x, hx⟩ : ∃ x, l[k]? = some x := ⟨l[k], List.getElem?_eq_getElem hlt⟩
    refine J_seq (J_block ?_)
    (repeat' (first | refine J_seq ?_ | refine J_skip ?_ | refine J_yes rfl ?_ | refine J_no rfl ?_))
    refine J_walk 9 [(0, true), (1, true), (2, true), (3, true), (4, true), (5, true), (6, true), (7, true), (8, true)] [0, 1] (by kernel_rfl) (by decide) rfl ?_
    refine JW_run [] rfl ?_
    refine JW_still [] rfl (idx1 rfl rfl rfl rfl rfl hlt) rfl ?_
    refine JW_still [] rfl (ldseg 0 rfl rfl rfl rfl (readT_str hx)) rfl ?_
    refine JW_run [] rfl ?_
    refine JW_still [] rfl (idx1 rfl rfl rfl rfl rfl hlt) rfl ?_
    refine JW_still [] rfl (ldseg 1 rfl rfl rfl rfl (readT_str hx)) rfl ?_
    refine JW_still [] rfl (OpV_nes rfl rfl rfl) rfl ?_
    refine JW_all [] rfl ?_
    refine JL_nil ?_
    refine J_dec rfl (fun h => absurd rfl h) (fun h => J_skip ?_)
    (repeat' (first | refine J_seq ?_ | refine J_skip ?_ | refine J_yes rfl ?_ | refine J_no rfl ?_))
    refine J_region ?_
    refine JL_all [] rfl ?_
    refine ⟨k + 1, [0, 1], ⟨?_, rfl, rfl, trivial⟩, by decide, rfl, by omega, by omega⟩
    show some (Value.int .i64 (IntKind.i64.wrap ((k : Int) + 1))) = _
    rw [w64 (by omega)]; rfl
  · (repeat' (first | refine J_seq ?_ | refine J_skip ?_ | refine J_yes rfl ?_ | refine J_no rfl ?_))
    refine J_region ?_
    refine JL_all [] rfl ?_
    exact J_drop [] (by decide) rfl (J_ret ⟨_, rfl, rfl, rfl⟩)
theorem lines_le (l : List UInt8) : (linesL l).length ≤ l.length + 1 := by
  rw [lines_len]
  have := List.count_le_length (a := (10 : UInt8)) (l := l)
  split <;> omega
theorem wordsGo_le : ∀ l cur : List UInt8, (wordsGo cur l).length ≤ l.length + (if cur = [] then 0 else 1)
  | [], cur => by unfold wordsGo; split <;> simp
  | b :: l, cur => by
    unfold wordsGo
    split
    · split
      · have := wordsGo_le l []
        simp at this ⊢; omega
      · have := wordsGo_le l []
        simp at this ⊢; omega
    · have := wordsGo_le l (cur ++ [b])
      simp at this
      simp only [List.length_cons]
      split <;> omega
theorem words_le (l : List UInt8) : (wordsL l).length ≤ l.length := by
  have := wordsGo_le l []
  simpa [wordsL] using this
theorem strs_one : ∀ l : List (List UInt8), one (strs l) = true
  | [] => rfl
  | _ :: l => strs_one l
theorem num7 : numL [45, 48, 48, 55] = (-7, 0) := by decide
theorem shown2_fn (V : LibV) : Fn 8 [] [] V.heap fun u H' => u = .bool true ∧ H' = [] := by
  have T := number_fn V [45, 48, 48, 55] (by decide)
  rw [num7] at T
  refine Fn_of Tryd.func8 rfl rfl fun w0 => ?_
  (repeat' (first | refine J_seq ?_ | refine J_skip ?_ | refine J_yes rfl ?_ | refine J_no rfl ?_))
  refine J_region ?_
  refine JL_all [] rfl ?_
  (repeat' (first | refine J_seq ?_ | refine J_skip ?_ | refine J_yes rfl ?_ | refine J_no rfl ?_))
  refine J_region ?_
  refine JL_callR [] T rfl rfl rfl rfl (by kernel_rfl) ⟨⟨0, by simp, rfl⟩, ⟨1, by simp, rfl⟩, ⟨2, by simp, rfl⟩, trivial⟩ (fun _ => rfl) ?_
  rintro v H' ⟨rfl, rfl⟩
  refine ⟨rfl, ?_⟩
  refine JL_all [] rfl ?_
  (repeat' (first | refine J_seq ?_ | refine J_skip ?_ | refine J_yes rfl ?_ | refine J_no rfl ?_))
  refine J_region ?_
  refine JL_run [] rfl ?_
  refine JL_set 9 (v' := .bool true) rfl (congrArg Value.bool (cdec_yes rfl)) ?_
  refine JL_all [2] rfl ?_
  exact J_drop [] (by decide) rfl (J_ret ⟨_, rfl, congrArg Value.bool (cdec_yes rfl), rfl⟩)
end Go.Proofs.YtkiadfpkgpgbiaaDoor
