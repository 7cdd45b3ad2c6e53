/- NumRows: a row's sum is that of its parts, and one that errs errs with more behind it: every two rows, no condition. -/
import Derived.Test.YtopcgkbjijdabaaNumS
import Derived.Test.YtopcgkbjijdabaaEngH
namespace Go.Proofs.Ytopcgkbjijdabaa
open Go.RowKit
theorem sumL_two : ∀ (l : List Int) (n : Int), inB n → (∃ x, sumL n l = (x, 0) ∧ inB x) ∨ sumL n l = (0, 3)
  | [], n, h => .inl ⟨n, rfl, h⟩
  | x :: l, n, h => by
    unfold sumL
    split
    · rename_i hi; exact sumL_two l _ hi
    · exact .inr rfl
theorem sumL_app_ok : ∀ (l r : List Int) (n x : Int), sumL n l = (x, 0) → sumL n (l ++ r) = sumL x r
  | [], r, n, x, h => by simp only [sumL, Prod.mk.injEq, and_true] at h; rw [h]; rfl
  | y :: l, r, n, x, h => by
    simp only [sumL, List.cons_append] at h ⊢
    by_cases hi : inB (n + y)
    · rw [if_pos hi] at h ⊢; exact sumL_app_ok l r _ _ h
    · rw [if_neg hi] at h; simp at h
theorem sumL_app_bad : ∀ (l r : List Int) (n : Int), sumL n l = (0, 3) → sumL n (l ++ r) = (0, 3)
  | [], r, n, h => by simp [sumL] at h
  | y :: l, r, n, h => by
    simp only [sumL, List.cons_append] at h ⊢
    by_cases hi : inB (n + y)
    · rw [if_pos hi] at h ⊢; exact sumL_app_bad l r _ h
    · rw [if_neg hi]
theorem one_ints (l : List Int) : one (ints l) = true := by
  induction l with
  | nil => rfl
  | cons x l ih => exact ih
theorem ints_app (l r : List Int) : ints (l ++ r) = ints l ++ ints r := by simp [ints]
theorem ints_ne {l : List Int} (h : ints l ≠ []) : l ≠ [] := fun e => h (by rw [e]; rfl)
theorem ne_ints {l : List Int} (h : l ≠ []) : ints l ≠ [] := by simpa [ints] using h
theorem rows_fn (A : Option Addr) (c b o : Nat) (l : List Int) (hA : l ≠ [] → A = some ⟨b, o, none⟩) (hl : ∀ x ∈ l, inB x) (hs : l.length * 8 ≤ 140737488351232)
    (A2 : Option Addr) (c2 b2 o2 : Nat) (l2 : List Int) (hA2 : l2 ≠ [] → A2 = some ⟨b2, o2, none⟩) (hl2 : ∀ x ∈ l2, inB x) (hs2 : l2.length * 8 ≤ 140737488351232) :
    Fn 6 [.slice A l.length c, .slice A2 l2.length c2] [] [.seg b o (ints l), .seg b2 o2 (ints l2)] fun v _ => v = .bool true := by
  have T1 := sum_fn A c b o l hA hl (by omega)
  refine Fn_of Try.func6 rfl rfl fun w0 => ?_
  (repeat' (first | refine J_seq ?_ | refine J_skip ?_ | refine J_yes rfl ?_ | refine J_no rfl ?_))
  refine J_region ?_
  refine JL_all [] rfl ?_
  (repeat' (first | refine J_seq ?_ | refine J_skip ?_ | refine J_yes rfl ?_ | refine J_no rfl ?_))
  refine J_region ?_
  refine JL_callR [] (shown_fn) rfl rfl rfl rfl (by kernel_rfl) trivial (fun _ => rfl) ?_
  rintro v H' ⟨rfl, rfl⟩
  refine ⟨rfl, ?_⟩
  refine JL_all [] rfl ?_
  (repeat' (first | refine J_seq ?_ | refine J_skip ?_ | refine J_yes rfl ?_ | refine J_no rfl ?_))
  refine J_region ?_
  refine JL_run [] rfl ?_
  refine JL_set 15 (v' := .bool false) rfl rfl ?_
  refine JL_run [2] rfl ?_
  by_cases hlen : l.length + l2.length ≤ 1000
  case neg =>
    refine JL_set 22 (v' := .bool true) rfl (congrArg Value.bool (cdec_yes (by rw [w64 (by omega)]; omega))) ?_
    refine JL_all [2] rfl ?_
    refine J_yes rfl ?_
    (repeat' (first | refine J_seq ?_ | refine J_skip ?_ | refine J_yes rfl ?_ | refine J_no rfl ?_))
    refine J_region ?_
    refine JL_all [] rfl ?_
    exact J_ret ⟨_, rfl, rfl⟩
  refine JL_set 22 (v' := .bool false) rfl (congrArg Value.bool (cdec_no (by rw [w64 (by omega)]; omega))) ?_
  refine JL_all [2] rfl ?_
  (repeat' (first | refine J_seq ?_ | refine J_skip ?_ | refine J_yes rfl ?_ | refine J_no rfl ?_))
  refine J_region ?_
  refine JL_run [] rfl ?_
  refine JL_callR [] T1 rfl rfl rfl rfl (by kernel_rfl) ⟨⟨0, _, by simp, rfl, shows_seg _ _ _, seen_seg⟩, trivial⟩ (fun _ => rfl) ?_
  rintro v H' ⟨rfl, rfl⟩
  refine ⟨rfl, ?_⟩
  refine JL_all [] rfl ?_
  (repeat' (first | refine J_seq ?_ | refine J_skip ?_ | refine J_yes rfl ?_ | refine J_no rfl ?_))
  refine J_region ?_
  refine JL_lit rfl rfl rfl rfl rfl rfl rfl (fun _ => rfl) fun g => ?_
  refine JL_own 1 0 rfl (by decide) ?_
  refine JL_run [] rfl ?_
  refine JL_appendS (n := 0) 0 1 rfl rfl rfl rfl rfl rfl (by decide) rfl rfl (shows_seg _ _ _) (fun h => hA (ints_ne h)) (by simp [ints_length]) (one_ints l) (by omega) (by omega) (fun _ _ => rfl) fun A3 c3 => ?_
  refine JL_run [] rfl ?_
  refine JL_appendS 0 2 rfl rfl rfl rfl rfl rfl (by decide) rfl rfl (shows_seg _ _ _) (fun h => hA2 (ints_ne h)) (by simp [ints_length]) (one_ints l2) (by omega) (by omega) (fun _ _ => rfl) fun A4 c4 => ?_
  refine JL_run [] rfl ?_
  rw [show ([] : List Value) ++ ints l ++ ints l2 = ints (l ++ l2) by simp [ints]]
  refine JL_know (own_is 0 rfl) fun ⟨_, _, hA4, hl4⟩ => ?_
  obtain ⟨g4, hA4⟩ := own_at hA4 hl4
  have hll : ∀ x ∈ l ++ l2, inB x := fun x hx => (List.mem_append.1 hx).elim (hl x) (hl2 x)
  refine JL_callR [] (sum_fn A4 c4 g4 0 (l ++ l2) (fun h => hA4 (ne_ints h)) hll (by simp; omega)) rfl rfl rfl (by simp) (by kernel_rfl) ⟨⟨0, _, by simp, rfl, shows_ownS hA4, seen_ownS hA4⟩, trivial⟩ (fun _ => rfl) ?_
  rintro v H' ⟨rfl, rfl⟩
  refine ⟨rfl, ?_⟩
  refine JL_all [] rfl ?_
  rcases sumL_two l 0 (by decide) with ⟨x, hx, hxB⟩ | hx
  · rw [hx, sumL_app_ok l l2 0 x hx]
    (repeat' (first | refine J_seq ?_ | refine J_skip ?_ | refine J_yes rfl ?_ | refine J_no rfl ?_))
    refine J_region ?_
    refine JL_all [] rfl ?_
    refine J_dec rfl (fun h => absurd h (by simp)) (fun _ => J_skip ?_)
    (repeat' (first | refine J_seq ?_ | refine J_skip ?_ | refine J_yes rfl ?_ | refine J_no rfl ?_))
    refine J_region ?_
    refine JL_run [] rfl ?_
    refine JL_lit rfl rfl rfl rfl rfl rfl rfl (fun _ => rfl) fun g => ?_
    refine JL_own 1 1 rfl (by decide) ?_
    refine JL_run [] rfl ?_
    refine JL_appendS (n := 1) 0 3 rfl rfl rfl rfl rfl rfl (by decide) rfl rfl (shows_seg _ _ _) (fun h => hA2 (ints_ne h)) (by simp [ints_length]) (one_ints l2) (by omega) (by omega) (fun _ _ => rfl) fun A5 c5 => ?_
    refine JL_run [] rfl ?_
    refine JL_know (own_is 0 rfl) fun ⟨_, _, hA5, hl5⟩ => ?_
    obtain ⟨g5, hA5⟩ := own_at (xs := ints (x :: l2)) hA5 hl5
    have hx2 : ∀ y ∈ x :: l2, inB y := fun y hy => (List.mem_cons.1 hy).elim (fun e => e ▸ hxB) (hl2 y)
    refine JL_callR [] (sum_fn A5 c5 g5 0 (x :: l2) (fun h => hA5 (ne_ints h)) hx2 (by simp; omega)) rfl rfl rfl (by simp [Nat.add_comm]) (by kernel_rfl) ⟨⟨0, _, by simp, rfl, shows_ownS hA5, seen_ownS hA5⟩, trivial⟩ (fun _ => rfl) ?_
    rintro v H' ⟨rfl, rfl⟩
    refine ⟨rfl, ?_⟩
    refine JL_all [] rfl ?_
    rw [show sumL 0 (x :: l2) = sumL x l2 by rw [sumL, Int.zero_add, if_pos hxB]]
    (repeat' (first | refine J_seq ?_ | refine J_skip ?_ | refine J_yes rfl ?_ | refine J_no rfl ?_))
    refine J_region ?_
    refine JL_run [] rfl ?_
    refine JL_set 62 (v' := .bool true) rfl (congrArg Value.bool (cdec_yes rfl)) ?_
    refine JL_all [3] rfl ?_
    exact J_ret ⟨_, rfl, congrArg Value.bool (cdec_yes rfl)⟩
  · rw [hx, sumL_app_bad l l2 0 hx]
    (repeat' (first | refine J_seq ?_ | refine J_skip ?_ | refine J_yes rfl ?_ | refine J_no rfl ?_))
    refine J_region ?_
    refine JL_all [] rfl ?_
    refine J_dec rfl (fun _ => ?_) (fun h => absurd (show ((0 : Int), (3 : Int)).2 ≠ 0 by simp) h)
    (repeat' (first | refine J_seq ?_ | refine J_skip ?_ | refine J_yes rfl ?_ | refine J_no rfl ?_))
    refine J_region ?_
    refine JL_run [] rfl ?_
    refine JL_set 43 (v' := .bool true) rfl (congrArg Value.bool (cdec_yes rfl)) ?_
    refine JL_run [3] rfl ?_
    refine JL_set 47 (v' := .bool true) rfl (congrArg Value.bool (cdec_yes rfl)) ?_
    refine JL_all [3, 7] rfl ?_
    exact J_ret ⟨_, rfl, congrArg Value.bool (cdec_yes rfl)⟩
end Go.Proofs.Ytopcgkbjijdabaa
