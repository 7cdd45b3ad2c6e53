
/- TextJoins: the lines of two texts, with an end between, are those of both, and the words of two, with a blank between; a sign of another alphabet is none of a number: of any two texts. No condition but what the row lists. -/
import Derived.Test.YtkiadfpkgpgbiaaDoorTextS
set_option linter.unusedVariables false
set_option linter.unusedSimpArgs false
namespace Go.Proofs.YtkiadfpkgpgbiaaDoor
open Go.RowKit
theorem lines_le (l : List UInt8) : (linesL l).length ≤ l.length + 1 := by
  rw [lines_len]
  have := List.count_le_length (a := (10 : UInt8)) (l := l)
  split <;> omega
theorem wordsGo_le : ∀ l cur : List UInt8, (wordsGo cur l).length ≤ l.length + (if cur = [] then 0 else 1)
  | [], cur => by unfold wordsGo; split <;> simp
  | b :: l, cur => by
    unfold wordsGo
    split
    · split
      · have := wordsGo_le l []
        simp at this ⊢; omega
      · have := wordsGo_le l []
        simp at this ⊢; omega
    · have := wordsGo_le l (cur ++ [b])
      simp at this
      simp only [List.length_cons]
      split <;> omega
theorem words_le (l : List UInt8) : (wordsL l).length ≤ l.length := by
  have := wordsGo_le l []
  simpa [wordsL] using this
theorem strs_one : ∀ l : List (List UInt8), one (strs l) = true
  | [] => rfl
  | _ :: l => strs_one l
set_option maxHeartbeats 4000000 in
theorem textJoinsL_fn (V : LibV) (s t : List UInt8) (hs : s.length ≤ 140737488351232) (ht : t.length ≤ 140737488351232) : Fn 6 [str s, str t] [] V.heap fun v _ => v = .bool true := by
  refine Fn_of Tryd.func6 rfl rfl fun w0 => ?_
  (repeat' (first | refine J_seq ?_ | refine J_skip ?_ | refine J_yes rfl ?_ | refine J_no rfl ?_))
  refine J_region ?_
  refine JL_all [] rfl ?_
  (repeat' (first | refine J_seq ?_ | refine J_skip ?_ | refine J_yes rfl ?_ | refine J_no rfl ?_))
  refine J_region ?_
  refine JL_callR [] (shown2_fn V) rfl rfl rfl rfl (by kernel_rfl) ⟨⟨0, by simp, rfl⟩, ⟨1, by simp, rfl⟩, ⟨2, by simp, rfl⟩, trivial⟩ (fun _ => rfl) ?_
  rintro v H' ⟨rfl, rfl⟩
  refine ⟨rfl, ?_⟩
  refine JL_all [] rfl ?_
  (repeat' (first | refine J_seq ?_ | refine J_skip ?_ | refine J_yes rfl ?_ | refine J_no rfl ?_))
  refine J_region ?_
  refine JL_evO (gs := [999]) rfl ?_
  refine JL_evO (gs := [999]) rfl ?_
  refine JL_evO (gs := [999]) rfl ?_
  refine JL_set 17 (v' := .bool false) rfl rfl ?_
  refine JL_evO (gs := [2]) rfl ?_
  refine JL_evO (gs := [2]) rfl ?_
  refine JL_evO (gs := [2]) rfl ?_
  refine JL_evO (gs := [2]) rfl ?_
  refine JL_evO (gs := [2]) rfl ?_
  refine JL_set 22 (v' := .int .i64 ((s.length + t.length : Nat) : Int)) rfl (congrArg (Value.int .i64) ((w64 (n := (s.length : Int) + t.length) (by omega)).trans (by omega))) ?_
  refine JL_all [2] rfl ?_
  refine J_dec rfl (fun _ => ?_) (fun h25 => J_skip ?_)
  · (repeat' (first | refine J_seq ?_ | refine J_skip ?_ | refine J_yes rfl ?_ | refine J_no rfl ?_))
    refine J_region ?_
    refine JL_all [] rfl ?_
    exact J_ret ⟨_, rfl, rfl⟩
  have L1 := lines_le (s ++ [10])
  have L2 := lines_le t
  have L3 := words_le s
  have L4 := words_le t
  simp only [List.length_append, List.length_cons, List.length_nil] at L1
  (repeat' (first | refine J_seq ?_ | refine J_skip ?_ | refine J_yes rfl ?_ | refine J_no rfl ?_))
  refine J_region ?_
  refine JL_evO (gs := [999]) rfl ?_
  refine JL_val [] (OpV_cat (m := [10]) rfl rfl rfl (by simp; omega)) rfl ?_
  refine JL_evO (gs := [999]) rfl ?_
  refine JL_val [] (OpV_cat rfl rfl rfl (by simp; omega)) rfl ?_
  refine JL_callR [] (lines_fn V (s ++ [10] ++ t) (by simp; omega)) rfl rfl rfl rfl (by kernel_rfl) ⟨⟨0, by simp, rfl⟩, ⟨1, by simp, rfl⟩, ⟨2, by simp, rfl⟩, trivial⟩ (fun _ => rfl) ?_
  rintro v H' ⟨Aa, na, hna, rfl, rfl⟩
  refine ⟨rfl, ?_⟩
  refine JL_all [] rfl ?_
  (repeat' (first | refine J_seq ?_ | refine J_skip ?_ | refine J_yes rfl ?_ | refine J_no rfl ?_))
  refine J_region ?_
  refine JL_lit rfl rfl rfl rfl rfl rfl rfl (fun _ => rfl) fun gx => ?_
  refine JL_fit (fun w h => h.blkOwn (sz := 1) (n := 0) rfl (by decide)) ?_
  refine JL_evO (gs := [999]) rfl ?_
  refine JL_val [] (OpV_cat (m := [10]) rfl rfl rfl (by simp; omega)) rfl ?_
  refine JL_callR [] (lines_fn V (s ++ [10]) (by simp; omega)) rfl rfl rfl rfl (by kernel_rfl) ⟨⟨2, by simp, rfl⟩, ⟨3, by simp, rfl⟩, ⟨4, by simp, rfl⟩, trivial⟩ (fun _ => rfl) ?_
  rintro v H' ⟨A1, n1, hn1, rfl, rfl⟩
  refine ⟨rfl, ?_⟩
  refine JL_know (own_is 0 rfl) fun ⟨_, _, hA1, hl1⟩ => ?_
  obtain ⟨g1, hA1⟩ := own_at hA1 hl1
  refine JL_appendS (n := 0) (m := n1) (off := 0) (news := strs (linesL (s ++ [10]))) 1 0 rfl rfl rfl rfl rfl rfl (by decide) rfl rfl (shows_ownS hA1) hA1 (by rw [strs_length, hn1, Nat.mul_one]) (strs_one _) (by omega) (by omega) (fun _ _ => rfl) fun Ab cb => ?_
  refine JL_all [] rfl ?_
  refine J_drop [1, 2, 3, 4, 5] (by decide) rfl ?_
  (repeat' (first | refine J_seq ?_ | refine J_skip ?_ | refine J_yes rfl ?_ | refine J_no rfl ?_))
  refine J_region ?_
  refine JL_evO (gs := [999]) rfl ?_
  refine JL_evO (gs := [999]) rfl ?_
  refine JL_callR [] (lines_fn V t (by omega)) rfl rfl rfl rfl (by kernel_rfl) ⟨⟨2, by simp, rfl⟩, ⟨3, by simp, rfl⟩, ⟨4, by simp, rfl⟩, trivial⟩ (fun _ => rfl) ?_
  rintro v H' ⟨A2, n2, hn2, rfl, rfl⟩
  refine ⟨rfl, ?_⟩
  refine JL_know (own_is 0 rfl) fun ⟨_, _, hA2, hl2⟩ => ?_
  obtain ⟨g2, hA2⟩ := own_at hA2 hl2
  refine JL_appendS (n := 0 + n1) (m := n2) (off := 0) (news := strs (linesL t)) 1 0 rfl rfl rfl rfl rfl rfl (by decide) rfl rfl (shows_ownS hA2) hA2 (by rw [strs_length, hn2, Nat.mul_one]) (strs_one _) (by omega) (by omega) (fun _ _ => rfl) fun Ab2 cb2 => ?_
  refine JL_all [] rfl ?_
  refine J_drop [1, 2, 3, 4, 5] (by decide) rfl ?_
  have hL : linesL (s ++ [10] ++ t) = linesL (s ++ [10]) ++ linesL t := by rw [List.append_assoc]; exact lines_app s t
  have e1 : ([] ++ strs (linesL (s ++ [10]))) ++ strs (linesL t) = strs (linesL (s ++ [10] ++ t)) := by
    rw [List.nil_append, ← strs_app, hL]
  have e2 : 0 + n1 + n2 = na := by
    rw [hna, hn1, hn2, hL, List.length_append]; omega
  rw [e1, e2]
  (repeat' (first | refine J_seq ?_ | refine J_skip ?_ | refine J_yes rfl ?_ | refine J_no rfl ?_))
  refine J_region ?_
  refine JL_evO (gs := [999]) rfl ?_
  refine JL_val [] (OpV_cat (m := [32, 9]) rfl rfl rfl (by simp; omega)) rfl ?_
  refine JL_evO (gs := [999]) rfl ?_
  refine JL_val [] (OpV_cat rfl rfl rfl (by simp; omega)) rfl ?_
  refine JL_callR [] (words_fn (s ++ [32, 9] ++ t) (by simp; omega)) rfl rfl rfl rfl (by kernel_rfl) trivial (fun _ => rfl) ?_
  rintro v H' ⟨Ac, nc, hnc, rfl, rfl⟩
  refine ⟨rfl, ?_⟩
  refine JL_all [] rfl ?_
  (repeat' (first | refine J_seq ?_ | refine J_skip ?_ | refine J_yes rfl ?_ | refine J_no rfl ?_))
  refine J_region ?_
  refine JL_lit rfl rfl rfl rfl rfl rfl rfl (fun _ => rfl) fun gy => ?_
  refine JL_fit (fun w h => h.blkOwn (sz := 1) (n := 0) rfl (by decide)) ?_
  refine JL_evO (gs := [999]) rfl ?_
  refine JL_callR [] (words_fn s (by omega)) rfl rfl rfl rfl (by kernel_rfl) trivial (fun _ => rfl) ?_
  rintro v H' ⟨A3, n3, hn3, rfl, rfl⟩
  refine ⟨rfl, ?_⟩
  refine JL_know (own_is 0 rfl) fun ⟨_, _, hA3, hl3⟩ => ?_
  obtain ⟨g3, hA3⟩ := own_at hA3 hl3
  refine JL_appendS (n := 0) (m := n3) (off := 0) (news := strs (wordsL s)) 1 0 rfl rfl rfl rfl rfl rfl (by decide) rfl rfl (shows_ownS hA3) hA3 (by rw [strs_length, hn3, Nat.mul_one]) (strs_one _) (by omega) (by omega) (fun _ _ => rfl) fun Ad cd => ?_
  refine JL_all [] rfl ?_
  refine J_drop [1, 2, 3, 4, 5, 6, 7] (by decide) rfl ?_
  (repeat' (first | refine J_seq ?_ | refine J_skip ?_ | refine J_yes rfl ?_ | refine J_no rfl ?_))
  refine J_region ?_
  refine JL_evO (gs := [999]) rfl ?_
  refine JL_evO (gs := [999]) rfl ?_
  refine JL_callR [] (words_fn t (by omega)) rfl rfl rfl rfl (by kernel_rfl) trivial (fun _ => rfl) ?_
  rintro v H' ⟨A4, n4, hn4, rfl, rfl⟩
  refine ⟨rfl, ?_⟩
  refine JL_know (own_is 0 rfl) fun ⟨_, _, hA4, hl4⟩ => ?_
  obtain ⟨g4, hA4⟩ := own_at hA4 hl4
  refine JL_appendS (n := 0 + n3) (m := n4) (off := 0) (news := strs (wordsL t)) 1 0 rfl rfl rfl rfl rfl rfl (by decide) rfl rfl (shows_ownS hA4) hA4 (by rw [strs_length, hn4, Nat.mul_one]) (strs_one _) (by omega) (by omega) (fun _ _ => rfl) fun Ad2 cd2 => ?_
  refine JL_all [] rfl ?_
  refine J_drop [1, 2, 3, 4, 5, 6, 7] (by decide) rfl ?_
  have hw : wordsL (s ++ [32, 9] ++ t) = wordsL s ++ wordsL t := by
    rw [List.append_assoc]
    show wordsL (s ++ 32 :: (9 :: t)) = _
    rw [words_app (by decide), words_sep (by decide)]
  have e3 : ([] ++ strs (wordsL s)) ++ strs (wordsL t) = strs (wordsL (s ++ [32, 9] ++ t)) := by
    rw [List.nil_append, ← strs_app, hw]
  have e4 : 0 + n3 + n4 = nc := by
    rw [hnc, hn3, hn4, hw, List.length_append]; omega
  rw [e3, e4]
  have b1 : numL (s ++ [120] ++ t) = (0, 2) := by
    cases s with
    | nil => exact num_bad0 (by decide) (by decide)
    | cons x s => exact num_bad (b := 120) (by simp) (by decide)
  have b2 : numL (s ++ [195, 169] ++ t) = (0, 2) := by
    cases s with
    | nil => exact num_bad0 (by decide) (by decide)
    | cons x s => exact num_bad (b := 195) (by simp) (by decide)
  (repeat' (first | refine J_seq ?_ | refine J_skip ?_ | refine J_yes rfl ?_ | refine J_no rfl ?_))
  refine J_region ?_
  refine JL_evO (gs := [999]) rfl ?_
  refine JL_val [] (OpV_cat (m := [120]) rfl rfl rfl (by simp; omega)) rfl ?_
  refine JL_evO (gs := [999]) rfl ?_
  refine JL_val [] (OpV_cat rfl rfl rfl (by simp; omega)) rfl ?_
  refine JL_callR [] (number_fn V (s ++ [120] ++ t) (by simp; omega)) rfl rfl rfl rfl (by kernel_rfl) ⟨⟨4, by simp, rfl⟩, ⟨5, by simp, rfl⟩, ⟨6, by simp, rfl⟩, trivial⟩ (fun _ => rfl) ?_
  rintro v H' ⟨rfl, rfl⟩
  refine ⟨rfl, ?_⟩
  rw [b1]
  refine JL_all [] rfl ?_
  (repeat' (first | refine J_seq ?_ | refine J_skip ?_ | refine J_yes rfl ?_ | refine J_no rfl ?_))
  refine J_region ?_
  refine JL_evO (gs := [999]) rfl ?_
  refine JL_val [] (OpV_cat (m := [195, 169]) rfl rfl rfl (by simp; omega)) rfl ?_
  refine JL_evO (gs := [999]) rfl ?_
  refine JL_val [] (OpV_cat rfl rfl rfl (by simp; omega)) rfl ?_
  refine JL_callR [] (number_fn V (s ++ [195, 169] ++ t) (by simp; omega)) rfl rfl rfl rfl (by kernel_rfl) ⟨⟨4, by simp, rfl⟩, ⟨5, by simp, rfl⟩, ⟨6, by simp, rfl⟩, trivial⟩ (fun _ => rfl) ?_
  rintro v H' ⟨rfl, rfl⟩
  refine ⟨rfl, ?_⟩
  rw [b2]
  refine JL_all [] rfl ?_
  refine J_know (own_is 0 rfl) fun ⟨_, _, hAd, hld⟩ => ?_
  obtain ⟨gd, hAd⟩ := own_at hAd hld
  refine J_know (own_is 1 rfl) fun ⟨_, _, hAc, hlc⟩ => ?_
  obtain ⟨gc, hAc⟩ := own_at hAc hlc
  refine J_know (own_is 2 rfl) fun ⟨_, _, hAb, hlb⟩ => ?_
  obtain ⟨gb, hAb⟩ := own_at hAb hlb
  refine J_know (own_is 3 rfl) fun ⟨_, _, hAa, hla⟩ => ?_
  obtain ⟨ga, hAa⟩ := own_at hAa hla
  have L5 := lines_le (s ++ [10] ++ t)
  have L6 := words_le (s ++ [32, 9] ++ t)
  simp only [List.length_append, List.length_cons, List.length_nil] at L5 L6
  (repeat' (first | refine J_seq ?_ | refine J_skip ?_ | refine J_yes rfl ?_ | refine J_no rfl ?_))
  refine J_region ?_
  refine JL_evO (gs := [999]) rfl ?_
  refine JL_evO (gs := [999]) rfl ?_
  refine JL_callR [] (same2_fn (linesL (s ++ [10] ++ t)) (by omega) Aa na na ga 0 (strs_nat hAa) hna Ab2 na cb2 gb 0 (strs_nat hAb) hna) rfl rfl rfl rfl (by kernel_rfl) ⟨⟨3, _, by simp, rfl, shows_ownS hAa, seen_ownS hAa⟩, ⟨2, _, by simp, rfl, shows_ownS hAb, seen_ownS hAb⟩, trivial⟩ (fun _ => rfl) ?_
  rintro v H' ⟨rfl, rfl⟩
  refine ⟨rfl, ?_⟩
  refine JL_run [3] rfl ?_
  refine JL_callR [3] (same2_fn (wordsL (s ++ [32, 9] ++ t)) (by omega) Ac nc nc gc 0 (strs_nat hAc) hnc Ad2 nc cd2 gd 0 (strs_nat hAd) hnc) rfl rfl rfl rfl (by kernel_rfl) ⟨⟨1, _, by simp, rfl, shows_ownS hAc, seen_ownS hAc⟩, ⟨0, _, by simp, rfl, shows_ownS hAd, seen_ownS hAd⟩, trivial⟩ (fun _ => rfl) ?_
  rintro v H' ⟨rfl, rfl⟩
  refine ⟨rfl, ?_⟩
  refine JL_run [3, 8] rfl ?_
  refine JL_set 81 (v' := .bool true) rfl (congrArg Value.bool (cdec_yes rfl)) ?_
  refine JL_all [3, 8, 12] rfl ?_
  exact J_ret ⟨_, rfl, congrArg Value.bool (cdec_yes rfl)⟩
theorem textJoins_fn (V : LibV) (a : ByteArray) (wa : a.size ≤ 140737488351232) (b : ByteArray) (wb : b.size ≤ 140737488351232) : Fn 6 [.string a, .string b] [] V.heap fun v _ => v = .bool true := by
  rw [← str_data a, ← str_data b]
  exact textJoinsL_fn V _ _ (by rw [← Lib.size_eq]; exact wa) (by rw [← Lib.size_eq]; exact wb)
end Go.Proofs.YtkiadfpkgpgbiaaDoor
