/- NumSorts: a row of numbers of one sign has one sum in whatever order it stands, or errs in each: every row, every number, both signs, no condition. -/
import Derived.Test.YtopcgkbjijdabaaNumS
import Derived.Test.YtopcgkbjijdabaaEngH
namespace Go.Proofs.Ytopcgkbjijdabaa
open Go.RowKit
theorem ints_one (l : List Int) : one (ints l) = true := by
  induction l with
  | nil => rfl
  | cons x l ih => exact ih
theorem ints_ne' {l : List Int} (h : ints l ≠ []) : l ≠ [] := fun e => h (by rw [e]; rfl)
theorem ne_ints' {l : List Int} (h : l ≠ []) : ints l ≠ [] := by simpa [ints] using h
theorem sum_pos : ∀ (l : List Int), (∀ x ∈ l, 0 ≤ x) → 0 ≤ l.sum
  | [], _ => by simp
  | x :: l, h => by
    have := sum_pos l fun y hy => h y (by simp [hy])
    have := h x (by simp)
    simp only [List.sum_cons]; omega
theorem sumL_pos : ∀ (l : List Int) (n : Int), inB n → 0 ≤ n → (∀ x ∈ l, 0 ≤ x) → sumL n l = orErr (n + l.sum)
  | [], n, h, _, _ => by simp [sumL, orErr_in h]
  | x :: l, n, h, h0, hl => by
    have h1 := hl x (by simp)
    have h2 := sum_pos l fun y hy => hl y (by simp [hy])
    unfold sumL
    simp only [List.sum_cons]
    split
    · rename_i hi
      rw [sumL_pos l (n + x) hi (by omega) fun y hy => hl y (by simp [hy]), Int.add_assoc]
    · rename_i hi
      rw [orErr_out]
      unfold inB at *; omega
theorem sum_neg : ∀ (l : List Int), (∀ x ∈ l, x ≤ 0) → l.sum ≤ 0
  | [], _ => by simp
  | x :: l, h => by
    have := sum_neg l fun y hy => h y (by simp [hy])
    have := h x (by simp)
    simp only [List.sum_cons]; omega
theorem sumL_neg : ∀ (l : List Int) (n : Int), inB n → n ≤ 0 → (∀ x ∈ l, x ≤ 0) → sumL n l = orErr (n + l.sum)
  | [], n, h, _, _ => by simp [sumL, orErr_in h]
  | x :: l, n, h, h0, hl => by
    have h1 := hl x (by simp)
    have h2 := sum_neg l fun y hy => hl y (by simp [hy])
    unfold sumL
    simp only [List.sum_cons]
    split
    · rename_i hi
      rw [sumL_neg l (n + x) hi (by omega) fun y hy => hl y (by simp [hy]), Int.add_assoc]
    · rename_i hi
      rw [orErr_out]
      unfold inB at *; omega
/-- What a row's number is turned into. -/
def oneSign (below : Bool) (x : Int) : Int := if below = true then - (if x < 0 then - (x + 1) else x) else if x < 0 then - (x + 1) else x
theorem oneSign_in {x : Int} (below : Bool) (h : inB x) : inB (oneSign below x) ∧ (below = true → oneSign below x ≤ 0) ∧ (below = false → 0 ≤ oneSign below x) := by
  unfold oneSign inB at *
  cases below <;> simp <;> split <;> omega
theorem turned_sum (l : List Int) (k : Nat) : (l.drop k ++ l.take k).sum = l.sum := by
  rw [List.sum_append, Int.add_comm, ← List.sum_append, List.take_append_drop]
theorem one_sum (below : Bool) (l : List Int) (h : ∀ x ∈ l, (below = true → x ≤ 0) ∧ (below = false → 0 ≤ x)) : sumL 0 l = orErr l.sum ∧ (below = true → l.sum ≤ 0) ∧ (below = false → 0 ≤ l.sum) := by
  cases below with
  | true => 
    have h' : ∀ x ∈ l, x ≤ 0 := fun x hx => (h x hx).1 rfl
    exact ⟨by rw [sumL_neg l 0 (by decide) (by omega) h', Int.zero_add], fun _ => sum_neg l h', fun h => by cases h⟩
  | false => 
    have h' : ∀ x ∈ l, 0 ≤ x := fun x hx => (h x hx).2 rfl
    exact ⟨by rw [sumL_pos l 0 (by decide) (by omega) h', Int.zero_add], fun h => (by cases h), fun _ => sum_pos l h'⟩
set_option maxHeartbeats 1000000 in
theorem sorts_fn (A : Option Addr) (c b o : Nat) (l : List Int) (hA : l ≠ [] → A = some ⟨b, o, none⟩) (hl : ∀ x ∈ l, inB x) (hs : l.length * 8 ≤ 140737488351232) (by_ : Int) (_hby : inB by_) (below : Bool) :
    Fn 7 [.slice A l.length c, .int .i64 by_, .bool below] [] [.seg b o (ints l)] fun v _ => v = .bool true := by
  refine Fn_of Try.func7 rfl rfl fun w0 => ?_
  (repeat' (first | refine J_seq ?_ | refine J_skip ?_ | refine J_yes rfl ?_ | refine J_no rfl ?_))
  refine J_region ?_
  refine JL_all [] rfl ?_
  (repeat' (first | refine J_seq ?_ | refine J_skip ?_ | refine J_yes rfl ?_ | refine J_no rfl ?_))
  refine J_region ?_
  refine JL_callR [] (shown_fn) rfl rfl rfl rfl (by kernel_rfl) trivial (fun _ => rfl) ?_
  rintro v H' ⟨rfl, rfl⟩
  refine ⟨rfl, ?_⟩
  refine JL_all [] rfl ?_
  (repeat' (first | refine J_seq ?_ | refine J_skip ?_ | refine J_yes rfl ?_ | refine J_no rfl ?_))
  refine J_region ?_
  refine JL_run [] rfl ?_
  refine JL_set 20 (v' := .bool false) rfl rfl ?_
  refine JL_run [2] rfl ?_
  by_cases h300 : 300 < l.length
  · refine JL_set 25 (v' := .bool true) rfl (congrArg Value.bool (cdec_yes (by omega))) ?_
    refine JL_all [2, 7] rfl ?_
    refine J_yes rfl ?_
    (repeat' (first | refine J_seq ?_ | refine J_skip ?_ | refine J_yes rfl ?_ | refine J_no rfl ?_))
    refine J_region ?_
    refine JL_all [] rfl ?_
    exact J_ret ⟨_, rfl, rfl⟩
  refine JL_set 25 (v' := .bool false) rfl (congrArg Value.bool (cdec_no (by omega))) ?_
  refine JL_run [2, 7] rfl ?_
  by_cases hne : l = []
  · refine JL_set 29 (v' := .bool true) rfl (congrArg Value.bool (cdec_yes (by simp [hne]))) ?_
    refine JL_all [2, 7] rfl ?_
    refine J_yes rfl ?_
    (repeat' (first | refine J_seq ?_ | refine J_skip ?_ | refine J_yes rfl ?_ | refine J_no rfl ?_))
    refine J_region ?_
    refine JL_all [] rfl ?_
    exact J_ret ⟨_, rfl, rfl⟩
  have hlp : 0 < l.length := List.length_pos_iff.2 hne
  obtain rfl := hA hne
  refine JL_set 29 (v' := .bool false) rfl (congrArg Value.bool (cdec_no (by omega))) ?_
  refine JL_all [2, 7] rfl ?_
  (repeat' (first | refine J_seq ?_ | refine J_skip ?_ | refine J_yes rfl ?_ | refine J_no rfl ?_))
  refine J_region ?_
  refine JL_all [] rfl ?_
  obtain ⟨r, hr⟩ : ∃ r, r = l.map (oneSign below) := ⟨_, rfl⟩
  have hrl : r.length = l.length := by rw [hr]; simp
  have hrs : ∀ x ∈ r, inB x ∧ (below = true → x ≤ 0) ∧ (below = false → 0 ≤ x) := by
    intro x hx
    rw [hr] at hx
    obtain ⟨y, hy, rfl⟩ := List.mem_map.1 hx
    exact oneSign_in below (hl y hy)
  refine J_seq ?_
  (repeat' (first | refine J_seq ?_ | refine J_skip ?_ | refine J_yes rfl ?_ | refine J_no rfl ?_))
  refine J_region ?_
  refine JL_all [] rfl ?_
  refine J_block ?_
  refine J_addnil 2 1 ?_
  refine J_loop (σ := Nat × Option Addr × Nat) (fun s => [(9, .int .i64 s.1), (8, .slice s.2.1 s.1 s.2.2), (0, .slice (some ⟨b, o, none⟩) l.length c), (1, .int .i64 by_), (2, .bool below)])
    (fun s => [.own (.slice s.2.1 s.1 s.2.2) 2 1 s.1 (ints (r.take s.1)), .seg b o (ints l)]) (fun s => s.1 ≤ l.length) (fun s => l.length - s.1)
    (0, none, 0) [0, 1] ⟨rfl, rfl, rfl, rfl, rfl, trivial⟩ (by decide) rfl (Nat.zero_le _) ?_
  rintro ⟨k, A1, c1⟩ hk
  simp only at hk ⊢
  (repeat' (first | refine J_seq ?_ | refine J_skip ?_ | refine J_yes rfl ?_ | refine J_no rfl ?_))
  refine J_region ?_
  refine JL_all [] rfl ?_
  refine J_dec rfl (fun hlt => J_skip ?_) (fun hge => J_exit ?_)
  · have hlt : k < l.length := by omega
    obtain ⟨x, hx⟩ : ∃ x, l[k]? = some x := ⟨l[k], List.getElem?_eq_getElem hlt⟩
    have hxB := hl x (List.mem_of_getElem? hx)
    have hrk : r[k]? = some (oneSign below x) := by rw [hr]; simp [hx]
    have htk : r.take (k + 1) = r.take k ++ [oneSign below x] := by rw [List.take_add_one, hrk]; rfl
    unfold inB at hxB
    refine J_seq (J_block ?_)
    (repeat' (first | refine J_seq ?_ | refine J_skip ?_ | refine J_yes rfl ?_ | refine J_no rfl ?_))
    refine J_region ?_
    refine JL_run [] rfl ?_
    refine JL_val [] (idx1 rfl rfl rfl rfl rfl hlt) rfl ?_
    refine JL_val [] (ldseg 1 rfl rfl rfl rfl (readT_int hx)) rfl ?_
    refine JL_all [] rfl ?_
    refine J_cut [(10, .int .i64 (if x < 0 then - (x + 1) else x)), (9, .int .i64 k), (8, .slice A1 k c1), (0, .slice (some ⟨b, o, none⟩) l.length c), (1, .int .i64 by_), (2, .bool below)]
      [.own (.slice A1 k c1) 2 1 k (ints (r.take k)), .seg b o (ints l)] ?_ ?_
    · (repeat' (first | refine J_seq ?_ | refine J_skip ?_ | refine J_yes rfl ?_ | refine J_no rfl ?_))
      refine J_region ?_
      refine JL_all [] rfl ?_
      refine J_dec rfl (fun h => ?_) (fun h => J_skip ?_)
      · refine J_region (JL_all [] rfl ?_)
        refine ⟨[0, 1], ⟨?_, rfl, rfl, rfl, rfl, rfl, trivial⟩, by decide, rfl⟩
        show some (Value.int .i64 (IntKind.i64.wrap (0 - IntKind.i64.wrap (x + 1)))) = _
        rw [if_pos h, w64 (n := x + 1) (by omega), w64 (by omega)]
        congr 2
        omega
      · exact ⟨[0, 1], ⟨by rw [if_neg h]; rfl, rfl, rfl, rfl, rfl, rfl, trivial⟩, by decide, rfl⟩
    refine J_cut [(10, .int .i64 (oneSign below x)), (9, .int .i64 k), (8, .slice A1 k c1), (0, .slice (some ⟨b, o, none⟩) l.length c), (1, .int .i64 by_), (2, .bool below)]
      [.own (.slice A1 k c1) 2 1 k (ints (r.take k)), .seg b o (ints l)] ?_ ?_
    · (repeat' (first | refine J_seq ?_ | refine J_skip ?_ | refine J_yes rfl ?_ | refine J_no rfl ?_))
      refine J_region ?_
      refine JL_all [] rfl ?_
      cases below with
      | true =>
        refine J_yes rfl ?_
        refine J_region (JL_all [] rfl ?_)
        refine ⟨[0, 1], ⟨?_, rfl, rfl, rfl, rfl, rfl, trivial⟩, by decide, rfl⟩
        show some (Value.int .i64 (IntKind.i64.wrap (0 - (if x < 0 then - (x + 1) else x)))) = _
        rw [w64 (by split <;> omega)]
        congr 2
        unfold oneSign
        rw [if_pos rfl]
        omega
      | false =>
        refine J_no rfl (J_skip ?_)
        exact ⟨[0, 1], ⟨by unfold oneSign; rfl, rfl, rfl, rfl, rfl, rfl, trivial⟩, by decide, rfl⟩
    (repeat' (first | refine J_seq ?_ | refine J_skip ?_ | refine J_yes rfl ?_ | refine J_no rfl ?_))
    refine J_region ?_
    refine JL_run [] rfl ?_
    refine JL_lit rfl rfl rfl rfl rfl rfl rfl (fun _ => rfl) fun g => ?_
    refine JL_run [] rfl ?_
    refine JL_appendS (off := 0) (news := [.int .i64 (oneSign below x)]) 1 0 rfl rfl rfl rfl rfl rfl (by decide) rfl rfl (shows_blk g _ _ (0, 0)) (fun _ => rfl) rfl rfl (by omega) (by omega) (fun _ _ => rfl) fun A2 c2 => ?_
    refine JL_all [] rfl ?_
    (repeat' (first | refine J_seq ?_ | refine J_skip ?_ | refine J_yes rfl ?_ | refine J_no rfl ?_))
    refine J_region ?_
    refine JL_all [] rfl ?_
    refine ⟨(k + 1, A2, c2), [1, 2], ⟨?_, rfl, rfl, rfl, rfl, trivial⟩, by decide, ?_, by simp only; omega, by simp only; omega⟩
    · show some (Value.int .i64 (IntKind.i64.wrap ((k : Int) + 1))) = _
      rw [w64 (by omega)]; rfl
    · simp only [htk]
      rw [show ints (r.take k ++ [oneSign below x]) = ints (r.take k) ++ [.int .i64 (oneSign below x)] by simp [ints]]
      rfl
  · have hk' : k = l.length := by omega
    subst hk'
    rw [← hrl, List.take_length]
    have hrp : 0 < r.length := by omega
    refine J_know (own_is 0 rfl) fun ⟨_, hc1, hA1, hl1⟩ => ?_
    obtain ⟨g1, hA1⟩ := hA1 hrp
    subst hA1
    have hr300 : r.length ≤ 300 := by omega
    have hm := tmod_cases by_ (m := (r.length : Int)) (by omega)
    obtain ⟨k, hk⟩ : ∃ k : Nat, (k : Int) = if by_.tmod r.length < 0 then - by_.tmod r.length else by_.tmod r.length := ⟨(if by_.tmod r.length < 0 then - by_.tmod r.length else by_.tmod r.length).toNat, by split <;> omega⟩
    have hkl : k < r.length := by split at hk <;> omega
    (repeat' (first | refine J_seq ?_ | refine J_skip ?_ | refine J_yes rfl ?_ | refine J_no rfl ?_))
    refine J_region ?_
    refine JL_run [] rfl ?_
    refine JL_val [] (OpV_rem rfl rfl rfl (by omega)) rfl ?_
    refine JL_all [] rfl ?_
    refine J_cut [(11, .int .i64 k), (8, .slice (some ⟨g1, 0, none⟩) r.length c1), (2, .bool below)] [.own (.slice (some ⟨g1, 0, none⟩) r.length c1) 2 1 r.length (ints r)] ?_ ?_
    · (repeat' (first | refine J_seq ?_ | refine J_skip ?_ | refine J_yes rfl ?_ | refine J_no rfl ?_))
      refine J_region ?_
      refine JL_all [] rfl ?_
      refine J_dec rfl (fun h => ?_) (fun h => J_skip ?_)
      · refine J_region (JL_all [] rfl ?_)
        refine ⟨[0], ⟨?_, rfl, rfl, trivial⟩, by decide, rfl⟩
        show some (Value.int .i64 (IntKind.i64.wrap (0 - by_.tmod r.length))) = _
        rw [if_pos h] at hk
        rw [w64 (by omega), hk, Int.zero_sub]
      · rw [if_neg h] at hk
        exact ⟨[0], ⟨by rw [hk]; rfl, rfl, rfl, trivial⟩, by decide, rfl⟩
    (repeat' (first | refine J_seq ?_ | refine J_skip ?_ | refine J_yes rfl ?_ | refine J_no rfl ?_))
    refine J_region ?_
    refine JL_run [] rfl ?_
    refine JL_lit rfl rfl rfl rfl rfl rfl rfl (fun _ => rfl) fun g => ?_
    refine JL_own 1 0 rfl (by decide) ?_
    refine JL_run [] rfl ?_
    refine JL_val [] (OpV_from rfl rfl rfl rfl rfl (Nat.le_of_lt hkl)) rfl ?_
    refine JL_appendS (n := 0) (m := r.length - k) (b := g1) (off := 0 + k * 1) (news := (ints r).drop k) 0 1 rfl rfl rfl rfl rfl rfl (by decide) rfl rfl ?_ ?_ ?_ ?_ (by omega) (by omega) (fun _ _ => rfl) fun A3 c3 => ?_
    · rw [Nat.mul_one]; exact shows_drop shows_own k
    · exact fun _ => cutA_at (n := r.length) (fun _ => rfl) hc1 hkl
    · simp [ints]
    · rw [show (ints r).drop k = ints (r.drop k) by simp [ints]]; exact ints_one _
    refine JL_all [] rfl ?_
    (repeat' (first | refine J_seq ?_ | refine J_skip ?_ | refine J_yes rfl ?_ | refine J_no rfl ?_))
    refine J_region ?_
    refine JL_run [] rfl ?_
    refine JL_val [] (OpV_upto rfl rfl rfl rfl rfl (by omega)) rfl ?_
    refine JL_appendS (m := k) (b := g1) (off := 0) (news := (ints r).take k) 0 1 rfl rfl rfl rfl rfl rfl (by decide) rfl rfl (shows_take shows_own k) (fun _ => rfl) ?_ ?_ (by omega) (by omega) (fun _ _ => rfl) fun A4 c4 => ?_
    · simp [ints]; omega
    · rw [show (ints r).take k = ints (r.take k) by simp [ints]]; exact ints_one _
    rw [show ([] : List Value) ++ (ints r).drop k ++ (ints r).take k = ints (r.drop k ++ r.take k) by simp [ints]]
    refine JL_know (own_is 0 rfl) fun ⟨_, _, hA4, hl4⟩ => ?_
    obtain ⟨g4, hA4⟩ := own_at hA4 hl4
    refine JL_all [] rfl ?_
    have hts : ∀ x ∈ r.drop k ++ r.take k, x ∈ r := fun x hx => (List.mem_append.1 hx).elim List.mem_of_mem_drop List.mem_of_mem_take
    have S1 := one_sum below r fun x hx => (hrs x hx).2
    have S2 := one_sum below (r.drop k ++ r.take k) fun x hx => (hrs x (hts x hx)).2
    rw [turned_sum] at S2
    (repeat' (first | refine J_seq ?_ | refine J_skip ?_ | refine J_yes rfl ?_ | refine J_no rfl ?_))
    refine J_region ?_
    refine JL_run [] rfl ?_
    refine JL_callR [] (sum_fn (some ⟨g1, 0, none⟩) c1 g1 0 r (fun _ => rfl) (fun x hx => (hrs x hx).1) (by omega)) rfl rfl rfl rfl (by kernel_rfl) ⟨⟨1, _, by simp, rfl, shows_own, .inr rfl⟩, trivial⟩ (fun _ => rfl) ?_
    rintro v H' ⟨rfl, rfl⟩
    refine ⟨rfl, ?_⟩
    refine JL_all [] rfl ?_
    (repeat' (first | refine J_seq ?_ | refine J_skip ?_ | refine J_yes rfl ?_ | refine J_no rfl ?_))
    refine J_region ?_
    refine JL_run [] rfl ?_
    refine JL_callR [] (sum_fn A4 c4 g4 0 (r.drop k ++ r.take k) (fun h => hA4 (ne_ints' h)) (fun x hx => (hrs x (hts x hx)).1) (by simp; omega)) rfl rfl rfl (by simp; omega) (by kernel_rfl) ⟨⟨0, _, by simp, rfl, shows_ownS hA4, seen_ownS hA4⟩, trivial⟩ (fun _ => rfl) ?_
    rintro v H' ⟨rfl, rfl⟩
    refine ⟨rfl, ?_⟩
    refine JL_all [] rfl ?_
    rw [S1.1, S2.1]
    (repeat' (first | refine J_seq ?_ | refine J_skip ?_ | refine J_yes rfl ?_ | refine J_no rfl ?_))
    refine J_region ?_
    refine JL_run [] rfl ?_
    refine JL_set 84 (v' := .bool true) rfl (congrArg Value.bool (cdec_yes rfl)) ?_
    refine JL_run [3] rfl ?_
    refine JL_set 89 (v' := .bool true) rfl (congrArg Value.bool (cdec_yes rfl)) ?_
    refine JL_run [3, 8] rfl ?_
    by_cases hB : inB r.sum
    · rw [orErr_in hB]
      refine JL_set 92 (v' := .bool false) rfl (congrArg Value.bool (cdec_no (fun h => h rfl))) ?_
      cases below with
      | true =>
        refine JL_run [3, 8, 11] rfl ?_
        refine JL_set 94 (v' := .bool true) rfl rfl ?_
        refine JL_run [3, 8, 11, 13] rfl ?_
        refine JL_set 99 (v' := .bool true) rfl (congrArg Value.bool (cdec_yes (S1.2.1 rfl))) ?_
        refine JL_all [3, 8, 11, 13, 18, 21] rfl ?_
        exact J_ret ⟨_, rfl, rfl⟩
      | false =>
        refine JL_run [3, 8, 11, 13, 18] rfl ?_
        refine JL_set 102 (v' := .bool true) rfl rfl ?_
        refine JL_all [3, 8, 11, 13, 18, 21] rfl ?_
        exact J_ret ⟨_, rfl, congrArg Value.bool (cdec_yes (S1.2.2 rfl))⟩
    · rw [orErr_out hB]
      refine JL_set 92 (v' := .bool true) rfl (congrArg Value.bool (cdec_yes (by simp))) ?_
      refine JL_all [3, 8, 11, 13, 18, 21] rfl ?_
      exact J_ret ⟨_, rfl, rfl⟩
end Go.Proofs.Ytopcgkbjijdabaa
