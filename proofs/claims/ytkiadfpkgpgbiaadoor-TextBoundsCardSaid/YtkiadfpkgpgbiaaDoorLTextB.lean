
/- TextBounds: the greatest and the least number are read, and one beyond them is not; a sign alone, or one that is another one, is none: how many digits more, any sign. No condition but what the row lists. -/
import Derived.Test.YtkiadfpkgpgbiaaDoorTextS
set_option linter.unusedVariables false
set_option linter.unusedSimpArgs false
namespace Go.Proofs.YtkiadfpkgpgbiaaDoor
open Go.RowKit
theorem decV_nought : ∀ (i acc : Nat), decV acc (List.replicate i 48) = acc * 10 ^ i
  | 0, acc => by simp [decV]
  | i + 1, acc => by
    rw [List.replicate_succ]
    show decV (acc * 10 + ((48 : UInt8).toNat - 48)) (List.replicate i 48) = _
    rw [decV_nought i, Nat.pow_succ]
    have : (48 : UInt8).toNat - 48 = 0 := by decide
    rw [this, Nat.add_zero, Nat.mul_assoc, Nat.mul_comm 10]
theorem num_plain {l : List UInt8} (h : l.head? ≠ some 45) (h1 : l ≠ []) (h2 : l.all digB = true) : numL l = if decV 0 l ≤ 9223372036854775807 then ((decV 0 l : Int), 0) else (0, 3) := by
  unfold numL
  simp only
  rw [if_neg h, if_neg h, if_neg (fun k => k.elim h1 (fun k => k h2))]
theorem num_long (i : Nat) (h : 19 ≤ i) : numL (49 :: List.replicate i 48) = (0, 3) := by
  have hv : decV 0 (49 :: List.replicate i 48) = 10 ^ i := by
    show decV (0 * 10 + ((49 : UInt8).toNat - 48)) (List.replicate i 48) = _
    rw [decV_nought]
    have : 0 * 10 + ((49 : UInt8).toNat - 48) = 1 := by decide
    rw [this, Nat.one_mul]
  have hp : 10 ^ 19 ≤ 10 ^ i := Nat.pow_le_pow_right (by decide) h
  have ha : (49 :: List.replicate i (48 : UInt8)).all digB = true := by
    rw [List.all_cons, Bool.and_eq_true]
    exact ⟨by decide, List.all_eq_true.2 fun b hb => by rw [List.eq_of_mem_replicate hb]; decide⟩
  rw [num_plain (by simp) (by simp) ha, hv, if_neg (by omega)]
theorem num_dash (s : List UInt8) : numL (s ++ [45]) = (0, 2) := by
  cases s with
  | nil => decide
  | cons x s => exact num_bad (b := 45) (by simp) (by decide)
theorem num_five (s : List UInt8) (h : ∀ b ∈ s, digB b = false) : s = [] ∨ s = [45] ∨ numL (s ++ [53]) = (0, 2) := by
  cases s with
  | nil => exact .inl rfl
  | cons x s =>
    cases s with
    | nil =>
      by_cases hx : x = 45
      · subst hx; exact .inr (.inl rfl)
      · exact .inr (.inr (num_bad0 (h x (by simp)) hx))
    | cons y s => exact .inr (.inr (num_bad (b := y) (by simp) (h y (by simp))))
theorem num_const (V : LibV) (l : List UInt8) (r : Int × Int) (h : numL l = r) (hl : l.length ≤ 1000) : Fn 9 [str l] [] V.heap fun v H' => v = two r ∧ H' = [] := by
  have := number_fn V l (by omega)
  rwa [h] at this
set_option maxHeartbeats 4000000 in
theorem textBoundsL_fn (V : LibV) (more : Int) (hm : inB more) (s : List UInt8) (hs : s.length ≤ 140737488351232) : Fn 3 [.int .i64 more, str s] [] V.heap fun v _ => v = .bool true := by
  refine Fn_of Tryd.func3 rfl rfl fun w0 => ?_
  (repeat' (first | refine J_seq ?_ | refine J_skip ?_ | refine J_yes rfl ?_ | refine J_no rfl ?_))
  refine J_region ?_
  refine JL_all [] rfl ?_
  (repeat' (first | refine J_seq ?_ | refine J_skip ?_ | refine J_yes rfl ?_ | refine J_no rfl ?_))
  refine J_region ?_
  refine JL_callR [] (shown2_fn V) rfl rfl rfl rfl (by kernel_rfl) ⟨⟨0, by simp, rfl⟩, ⟨1, by simp, rfl⟩, ⟨2, by simp, rfl⟩, trivial⟩ (fun _ => rfl) ?_
  rintro v H' ⟨rfl, rfl⟩
  refine ⟨rfl, ?_⟩
  refine JL_all [] rfl ?_
  (repeat' (first | refine J_seq ?_ | refine J_skip ?_ | refine J_yes rfl ?_ | refine J_no rfl ?_))
  refine J_region ?_
  refine JL_evO (gs := [999]) rfl ?_
  refine JL_evO (gs := [999]) rfl ?_
  refine JL_evO (gs := [999]) rfl ?_
  refine JL_set 27 (v' := .bool false) rfl rfl ?_
  refine JL_all [2] rfl ?_
  refine J_dec rfl (fun _ => ?_) (fun h100 => J_skip ?_)
  · (repeat' (first | refine J_seq ?_ | refine J_skip ?_ | refine J_yes rfl ?_ | refine J_no rfl ?_))
    refine J_region ?_
    refine JL_all [] rfl ?_
    exact J_ret ⟨_, rfl, rfl⟩
  have hs1 : s.length ≤ 100 := by
    have h' : ¬ (100 : Int) < s.length := h100
    omega
  (repeat' (first | refine J_seq ?_ | refine J_skip ?_ | refine J_yes rfl ?_ | refine J_no rfl ?_))
  refine J_region ?_
  refine JL_callR [] (num_const V [57, 50, 50, 51, 51, 55, 50, 48, 51, 54, 56, 53, 52, 55, 55, 53, 56, 48, 55] (9223372036854775807, 0) (by decide +kernel) (by decide)) rfl rfl rfl rfl (by kernel_rfl) ⟨⟨0, by simp, rfl⟩, ⟨1, by simp, rfl⟩, ⟨2, by simp, rfl⟩, trivial⟩ (fun _ => rfl) ?_
  rintro v H' ⟨rfl, rfl⟩
  refine ⟨rfl, ?_⟩
  refine JL_all [] rfl ?_
  (repeat' (first | refine J_seq ?_ | refine J_skip ?_ | refine J_yes rfl ?_ | refine J_no rfl ?_))
  refine J_region ?_
  refine JL_callR [] (num_const V [45, 57, 50, 50, 51, 51, 55, 50, 48, 51, 54, 56, 53, 52, 55, 55, 53, 56, 48, 56] (-9223372036854775808, 0) (by decide +kernel) (by decide)) rfl rfl rfl rfl (by kernel_rfl) ⟨⟨0, by simp, rfl⟩, ⟨1, by simp, rfl⟩, ⟨2, by simp, rfl⟩, trivial⟩ (fun _ => rfl) ?_
  rintro v H' ⟨rfl, rfl⟩
  refine ⟨rfl, ?_⟩
  refine JL_all [] rfl ?_
  (repeat' (first | refine J_seq ?_ | refine J_skip ?_ | refine J_yes rfl ?_ | refine J_no rfl ?_))
  refine J_region ?_
  refine JL_callR [] (num_const V [57, 50, 50, 51, 51, 55, 50, 48, 51, 54, 56, 53, 52, 55, 55, 53, 56, 48, 56] (0, 3) (by decide +kernel) (by decide)) rfl rfl rfl rfl (by kernel_rfl) ⟨⟨0, by simp, rfl⟩, ⟨1, by simp, rfl⟩, ⟨2, by simp, rfl⟩, trivial⟩ (fun _ => rfl) ?_
  rintro v H' ⟨rfl, rfl⟩
  refine ⟨rfl, ?_⟩
  refine JL_all [] rfl ?_
  (repeat' (first | refine J_seq ?_ | refine J_skip ?_ | refine J_yes rfl ?_ | refine J_no rfl ?_))
  refine J_region ?_
  refine JL_callR [] (num_const V [45, 57, 50, 50, 51, 51, 55, 50, 48, 51, 54, 56, 53, 52, 55, 55, 53, 56, 48, 57] (0, 3) (by decide +kernel) (by decide)) rfl rfl rfl rfl (by kernel_rfl) ⟨⟨0, by simp, rfl⟩, ⟨1, by simp, rfl⟩, ⟨2, by simp, rfl⟩, trivial⟩ (fun _ => rfl) ?_
  rintro v H' ⟨rfl, rfl⟩
  refine ⟨rfl, ?_⟩
  refine JL_all [] rfl ?_
  (repeat' (first | refine J_seq ?_ | refine J_skip ?_ | refine J_yes rfl ?_ | refine J_no rfl ?_))
  refine J_region ?_
  refine JL_all [] rfl ?_
  (repeat' (first | refine J_seq ?_ | refine J_skip ?_ | refine J_yes rfl ?_ | refine J_no rfl ?_))
  refine J_region ?_
  refine JL_all [] rfl ?_
  refine J_block ?_
  refine J_loop (σ := Nat) (fun i => [(15, .int .i64 i), (14, str (49 :: List.replicate i 48)), (0, .int .i64 more), (1, str s), (6, .int .i64 9223372036854775807), (7, .int .i64 0), (8, .int .i64 (-9223372036854775808)), (9, .int .i64 0), (11, .int .i64 3), (13, .int .i64 3)]) (fun _ => V.heap) (fun i => i ≤ 60) (fun i => 60 - i)
    0 [0, 1, 2] ⟨rfl, rfl, rfl, rfl, rfl, rfl, rfl, rfl, rfl, rfl, trivial⟩ (by decide) rfl (Nat.zero_le _) ?_
  intro i hi
  refine J_seq ?_
  refine J_cut [(59, .bool (cdec ((i : Int) < 19 ∨ (i : Int) < more ∧ (i : Int) < 60))), (15, .int .i64 i), (14, str (49 :: List.replicate i 48)), (0, .int .i64 more), (1, str s), (6, .int .i64 9223372036854775807), (7, .int .i64 0), (8, .int .i64 (-9223372036854775808)), (9, .int .i64 0), (11, .int .i64 3), (13, .int .i64 3)] V.heap ?_ ?_
  · (repeat' (first | refine J_seq ?_ | refine J_skip ?_ | refine J_yes rfl ?_ | refine J_no rfl ?_))
    refine J_region ?_
    refine JL_evO (gs := [999]) rfl ?_
    refine JL_evO (gs := [999]) rfl ?_
    refine JL_evO (gs := [999]) rfl ?_
    by_cases h1 : (i : Int) < 19
    · refine JL_set 51 (v' := .bool true) rfl (congrArg Value.bool (cdec_yes h1)) ?_
      refine JL_all [2, 6] rfl ?_
      exact ⟨[0, 1, 2], ⟨congrArg some (congrArg Value.bool (cdec_yes (.inl h1)).symm), rfl, rfl, rfl, rfl, rfl, rfl, rfl, rfl, rfl, rfl, trivial⟩, by decide, rfl⟩
    refine JL_set 51 (v' := .bool false) rfl (congrArg Value.bool (cdec_no h1)) ?_
    refine JL_run [2] rfl ?_
    by_cases h2 : (i : Int) < more
    · refine JL_set 55 (v' := .bool true) rfl (congrArg Value.bool (cdec_yes h2)) ?_
      refine JL_all [2, 6] rfl ?_
      exact ⟨[0, 1, 2], ⟨congrArg some (congrArg Value.bool (cdec_iff ⟨fun h => .inr ⟨h2, h⟩, fun h => (h.resolve_left h1).2⟩)), rfl, rfl, rfl, rfl, rfl, rfl, rfl, rfl, rfl, rfl, trivial⟩, by decide, rfl⟩
    · refine JL_set 55 (v' := .bool false) rfl (congrArg Value.bool (cdec_no h2)) ?_
      refine JL_all [2, 6] rfl ?_
      exact ⟨[0, 1, 2], ⟨congrArg some (congrArg Value.bool (cdec_no (fun h => h2 (h.resolve_left h1).1)).symm), rfl, rfl, rfl, rfl, rfl, rfl, rfl, rfl, rfl, rfl, trivial⟩, by decide, rfl⟩
  refine J_dec rfl (fun hgo => J_skip ?_) (fun hno => J_exit ?_)
  · have hi60 : i < 60 := by omega
    refine J_seq (J_block ?_)
    (repeat' (first | refine J_seq ?_ | refine J_skip ?_ | refine J_yes rfl ?_ | refine J_no rfl ?_))
    refine J_region ?_
    refine JL_evO (gs := [999]) rfl ?_
    refine JL_val [] (OpV_cat (m := [48]) rfl rfl rfl (by simp; omega)) rfl ?_
    refine JL_all [] rfl ?_
    (repeat' (first | refine J_seq ?_ | refine J_skip ?_ | refine J_yes rfl ?_ | refine J_no rfl ?_))
    refine J_region ?_
    refine JL_all [] rfl ?_
    refine ⟨i + 1, [0, 1, 2], ⟨?_, ?_, rfl, rfl, rfl, rfl, rfl, rfl, rfl, rfl, trivial⟩, by decide, rfl, by omega, by omega⟩
    · show some (Value.int .i64 (IntKind.i64.wrap ((i : Int) + 1))) = _
      rw [w64 (by omega)]; rfl
    · show some (str (49 :: List.replicate i 48 ++ [48])) = _
      rw [List.cons_append, ← List.replicate_succ']
  have h19 : 19 ≤ i := by omega
  have hlong := num_long i h19
  have hdash := num_dash s
  (repeat' (first | refine J_seq ?_ | refine J_skip ?_ | refine J_yes rfl ?_ | refine J_no rfl ?_))
  refine J_region ?_
  refine JL_evO (gs := [999]) rfl ?_
  refine JL_callR [] (num_const V (49 :: List.replicate i 48) (0, 3) hlong (by simp; omega)) rfl rfl rfl rfl (by kernel_rfl) ⟨⟨0, by simp, rfl⟩, ⟨1, by simp, rfl⟩, ⟨2, by simp, rfl⟩, trivial⟩ (fun _ => rfl) ?_
  rintro v H' ⟨rfl, rfl⟩
  refine ⟨rfl, ?_⟩
  refine JL_all [] rfl ?_
  (repeat' (first | refine J_seq ?_ | refine J_skip ?_ | refine J_yes rfl ?_ | refine J_no rfl ?_))
  refine J_region ?_
  refine JL_evO (gs := [999]) rfl ?_
  refine JL_val [] (OpV_cat (m := [45]) rfl rfl rfl (by simp; omega)) rfl ?_
  refine JL_callR [] (num_const V (s ++ [45]) (0, 2) hdash (by simp; omega)) rfl rfl rfl rfl (by kernel_rfl) ⟨⟨0, by simp, rfl⟩, ⟨1, by simp, rfl⟩, ⟨2, by simp, rfl⟩, trivial⟩ (fun _ => rfl) ?_
  rintro v H' ⟨rfl, rfl⟩
  refine ⟨rfl, ?_⟩
  refine JL_all [] rfl ?_
  obtain ⟨r, hr⟩ : ∃ r, numL (s ++ [53]) = r := ⟨_, rfl⟩
  (repeat' (first | refine J_seq ?_ | refine J_skip ?_ | refine J_yes rfl ?_ | refine J_no rfl ?_))
  refine J_region ?_
  refine JL_evO (gs := [999]) rfl ?_
  refine JL_val [] (OpV_cat (m := [53]) rfl rfl rfl (by simp; omega)) rfl ?_
  refine JL_callR [] (num_const V (s ++ [53]) r hr (by simp; omega)) rfl rfl rfl rfl (by kernel_rfl) ⟨⟨0, by simp, rfl⟩, ⟨1, by simp, rfl⟩, ⟨2, by simp, rfl⟩, trivial⟩ (fun _ => rfl) ?_
  rintro v H' ⟨rfl, rfl⟩
  refine ⟨rfl, ?_⟩
  refine JL_all [] rfl ?_
  (repeat' (first | refine J_seq ?_ | refine J_skip ?_ | refine J_yes rfl ?_ | refine J_no rfl ?_))
  refine J_region ?_
  refine JL_evO (gs := [999]) rfl ?_
  refine JL_val [] (OpV_eqs (m := [45]) rfl rfl rfl) rfl ?_
  refine JL_all [] rfl ?_
  (repeat' (first | refine J_seq ?_ | refine J_skip ?_ | refine J_yes rfl ?_ | refine J_no rfl ?_))
  refine J_region ?_
  refine JL_all [] rfl ?_
  refine J_block ?_
  refine J_loop (σ := Nat) (fun i => [(23, .int .i64 i), (1, str s), (22, .bool (cdec (s = [45]))), (6, .int .i64 9223372036854775807), (7, .int .i64 0), (8, .int .i64 (-9223372036854775808)), (9, .int .i64 0), (11, .int .i64 3), (13, .int .i64 3), (17, .int .i64 3), (19, .int .i64 2), (20, .int .i64 r.1), (21, .int .i64 r.2)]) (fun _ => V.heap) (fun i => i ≤ s.length ∧ ∀ j b, j < i → s[j]? = some b → digB b = false) (fun i => s.length - i)
    0 [0, 1, 2] ⟨rfl, rfl, rfl, rfl, rfl, rfl, rfl, rfl, rfl, rfl, rfl, rfl, rfl, trivial⟩ (by decide) rfl ⟨Nat.zero_le _, fun j b hj => by omega⟩ ?_
  rintro k ⟨hk, hall⟩
  (repeat' (first | refine J_seq ?_ | refine J_skip ?_ | refine J_yes rfl ?_ | refine J_no rfl ?_))
  refine J_region ?_
  refine JL_all [] rfl ?_
  refine J_dec rfl (fun hlt => J_skip ?_) (fun hge => J_exit ?_)
  · have hlt : k < s.length := by
      have h' : (k : Int) < s.length := hlt
      omega
    obtain ⟨b, hb⟩ : ∃ b, s[k]? = some b := ⟨s[k], List.getElem?_eq_getElem hlt⟩
    refine J_seq (J_block ?_)
    refine J_cut [(98, .bool (cdec (digB b = true))), (23, .int .i64 k), (1, str s), (22, .bool (cdec (s = [45]))), (6, .int .i64 9223372036854775807), (7, .int .i64 0), (8, .int .i64 (-9223372036854775808)), (9, .int .i64 0), (11, .int .i64 3), (13, .int .i64 3), (17, .int .i64 3), (19, .int .i64 2), (20, .int .i64 r.1), (21, .int .i64 r.2)] V.heap ?_ ?_
    · have hd : digB b = true ↔ (48 ≤ b.toNat ∧ b.toNat ≤ 57) := by simp [digB]
      (repeat' (first | refine J_seq ?_ | refine J_skip ?_ | refine J_yes rfl ?_ | refine J_no rfl ?_))
      refine J_region ?_
      refine JL_evO (gs := [999]) rfl ?_
      refine JL_evO (gs := [999]) rfl ?_
      refine JL_val [] (OpV_chr rfl rfl rfl rfl hb) rfl ?_
      refine JL_evO (gs := [999]) rfl ?_
      refine JL_evO (gs := [999]) rfl ?_
      by_cases h1 : (48 : Int) ≤ (b.toNat : Int)
      · refine JL_set 93 (v' := .bool true) rfl (congrArg Value.bool (cdec_yes h1)) ?_
        refine JL_run [4] rfl ?_
        refine JL_val [4] (OpV_chr rfl rfl rfl rfl hb) rfl ?_
        refine JL_all [4] rfl ?_
        refine ⟨[0, 1, 2], ⟨congrArg some (congrArg Value.bool (cdec_iff ?_)), rfl, rfl, rfl, rfl, rfl, rfl, rfl, rfl, rfl, rfl, rfl, rfl, rfl, trivial⟩, by decide, rfl⟩
        rw [hd]
        omega
      · refine JL_set 93 (v' := .bool false) rfl (congrArg Value.bool (cdec_no h1)) ?_
        refine JL_all [4] rfl ?_
        refine ⟨[0, 1, 2], ⟨congrArg some (congrArg Value.bool (cdec_no ?_).symm), rfl, rfl, rfl, rfl, rfl, rfl, rfl, rfl, rfl, rfl, rfl, rfl, rfl, trivial⟩, by decide, rfl⟩
        rw [hd]
        omega
    refine J_dec rfl (fun _ => ?_) (fun hnd => J_skip ?_)
    · (repeat' (first | refine J_seq ?_ | refine J_skip ?_ | refine J_yes rfl ?_ | refine J_no rfl ?_))
      refine J_region ?_
      refine JL_all [] rfl ?_
      exact J_ret ⟨_, rfl, rfl⟩
    (repeat' (first | refine J_seq ?_ | refine J_skip ?_ | refine J_yes rfl ?_ | refine J_no rfl ?_))
    refine J_region ?_
    refine JL_all [] rfl ?_
    refine ⟨k + 1, [0, 1, 2], ⟨?_, rfl, rfl, rfl, rfl, rfl, rfl, rfl, rfl, rfl, rfl, rfl, rfl, trivial⟩, by decide, rfl, ⟨by omega, fun j b' hj hb' => ?_⟩, by omega⟩
    · show some (Value.int .i64 (IntKind.i64.wrap ((k : Int) + 1))) = _
      rw [w64 (by omega)]; rfl
    · by_cases e : j = k
      · subst e
        rw [hb] at hb'
        obtain rfl := Option.some.inj hb'
        simpa using hnd
      · exact hall j b' (by omega) hb'
  have hnd : ∀ b ∈ s, digB b = false := by
    intro b hb
    obtain ⟨j, hj, e⟩ := List.getElem_of_mem hb
    have h' : ¬ (k : Int) < s.length := hge
    exact hall j b (by omega) (by rw [List.getElem?_eq_getElem hj, e])
  rcases num_five s hnd with h0 | h0 | h0
  · subst h0
    obtain rfl : r = (5, 0) := hr.symm.trans (by decide)
    refine J_set 22 (v' := .bool false) rfl (congrArg Value.bool (cdec_no (by simp))) ?_
    (repeat' (first | refine J_seq ?_ | refine J_skip ?_ | refine J_yes rfl ?_ | refine J_no rfl ?_))
    refine J_region ?_
    refine JL_evO (gs := [1]) rfl ?_
    refine JL_evO (gs := [1]) rfl ?_
    refine JL_evO (gs := [1]) rfl ?_
    refine JL_val [1] (OpV_eqs (m := []) rfl rfl rfl) rfl ?_
    refine JL_run [1] rfl ?_
    refine JL_set 22 (v' := .bool true) rfl (congrArg Value.bool (cdec_yes rfl)) ?_
    refine JL_nil ?_
    (repeat' (first | refine J_seq ?_ | refine J_skip ?_ | refine J_yes rfl ?_ | refine J_no rfl ?_))
    refine J_region ?_
    refine JL_run [] rfl ?_
    refine JL_set 106 (v' := .bool true) rfl (congrArg Value.bool (cdec_yes rfl)) ?_
    refine JL_run [2] rfl ?_
    refine JL_set 110 (v' := .bool true) rfl (congrArg Value.bool (cdec_yes rfl)) ?_
    refine JL_run [2, 6] rfl ?_
    refine JL_set 114 (v' := .bool true) rfl (congrArg Value.bool (cdec_yes rfl)) ?_
    refine JL_run [2, 6, 10] rfl ?_
    refine JL_set 118 (v' := .bool true) rfl (congrArg Value.bool (cdec_yes rfl)) ?_
    refine JL_run [2, 6, 10, 14] rfl ?_
    refine JL_set 122 (v' := .bool true) rfl (congrArg Value.bool (cdec_yes rfl)) ?_
    refine JL_run [2, 6, 10, 14, 18] rfl ?_
    refine JL_set 126 (v' := .bool true) rfl (congrArg Value.bool (cdec_yes rfl)) ?_
    refine JL_run [2, 6, 10, 14, 18, 22] rfl ?_
    refine JL_set 130 (v' := .bool true) rfl (congrArg Value.bool (cdec_yes rfl)) ?_
    refine JL_run [2, 6, 10, 14, 18, 22, 26] rfl ?_
    refine JL_set 134 (v' := .bool true) rfl (congrArg Value.bool (cdec_yes rfl)) ?_
    refine JL_run [2, 6, 10, 14, 18, 22, 26, 30] rfl ?_
    refine JL_set 140 (v' := .bool true) rfl (congrArg Value.bool (by rw [cdec_yes rfl]; rfl)) ?_
    refine JL_run [2, 6, 10, 14, 18, 22, 26, 30, 36] rfl ?_
    refine JL_run [2, 6, 10, 14, 18, 22, 26, 30, 36, 39] rfl ?_
    refine JL_set 147 (v' := .bool true) rfl (congrArg Value.bool (cdec_yes rfl)) ?_
    refine JL_all [2, 6, 10, 14, 18, 22, 26, 30, 36, 39, 43] rfl ?_
    exact J_ret ⟨_, rfl, rfl⟩
  · subst h0
    obtain rfl : r = (-5, 0) := hr.symm.trans (by decide)
    refine J_set 22 (v' := .bool true) rfl (congrArg Value.bool (cdec_yes rfl)) ?_
    (repeat' (first | refine J_seq ?_ | refine J_skip ?_ | refine J_yes rfl ?_ | refine J_no rfl ?_))
    refine J_region ?_
    refine JL_all [1] rfl ?_
    (repeat' (first | refine J_seq ?_ | refine J_skip ?_ | refine J_yes rfl ?_ | refine J_no rfl ?_))
    refine J_region ?_
    refine JL_run [] rfl ?_
    refine JL_set 106 (v' := .bool true) rfl (congrArg Value.bool (cdec_yes rfl)) ?_
    refine JL_run [2] rfl ?_
    refine JL_set 110 (v' := .bool true) rfl (congrArg Value.bool (cdec_yes rfl)) ?_
    refine JL_run [2, 6] rfl ?_
    refine JL_set 114 (v' := .bool true) rfl (congrArg Value.bool (cdec_yes rfl)) ?_
    refine JL_run [2, 6, 10] rfl ?_
    refine JL_set 118 (v' := .bool true) rfl (congrArg Value.bool (cdec_yes rfl)) ?_
    refine JL_run [2, 6, 10, 14] rfl ?_
    refine JL_set 122 (v' := .bool true) rfl (congrArg Value.bool (cdec_yes rfl)) ?_
    refine JL_run [2, 6, 10, 14, 18] rfl ?_
    refine JL_set 126 (v' := .bool true) rfl (congrArg Value.bool (cdec_yes rfl)) ?_
    refine JL_run [2, 6, 10, 14, 18, 22] rfl ?_
    refine JL_set 130 (v' := .bool true) rfl (congrArg Value.bool (cdec_yes rfl)) ?_
    refine JL_run [2, 6, 10, 14, 18, 22, 26] rfl ?_
    refine JL_set 134 (v' := .bool true) rfl (congrArg Value.bool (cdec_yes rfl)) ?_
    refine JL_run [2, 6, 10, 14, 18, 22, 26, 30] rfl ?_
    refine JL_set 140 (v' := .bool true) rfl (congrArg Value.bool (by rw [cdec_yes rfl]; rfl)) ?_
    refine JL_run [2, 6, 10, 14, 18, 22, 26, 30, 36] rfl ?_
    refine JL_run [2, 6, 10, 14, 18, 22, 26, 30, 36, 39] rfl ?_
    refine JL_set 147 (v' := .bool false) rfl (congrArg Value.bool (cdec_no (by decide))) ?_
    refine JL_all [2, 6, 10, 14, 18, 22, 26, 30, 36, 39, 43] rfl ?_
    exact J_ret ⟨_, rfl, congrArg Value.bool (cdec_yes rfl)⟩
  · obtain rfl : r = (0, 2) := hr.symm.trans h0
    have hn1 : ¬ s = [45] := by rintro rfl; rw [show numL ([45] ++ [53]) = (-5, 0) by decide] at h0; exact absurd h0 (by decide)
    have hn2 : ¬ s = [] := by rintro rfl; rw [show numL ([] ++ [53]) = (5, 0) by decide] at h0; exact absurd h0 (by decide)
    refine J_set 22 (v' := .bool false) rfl (congrArg Value.bool (cdec_no hn1)) ?_
    (repeat' (first | refine J_seq ?_ | refine J_skip ?_ | refine J_yes rfl ?_ | refine J_no rfl ?_))
    refine J_region ?_
    refine JL_evO (gs := [1]) rfl ?_
    refine JL_evO (gs := [1]) rfl ?_
    refine JL_evO (gs := [1]) rfl ?_
    refine JL_val [1] (OpV_eqs (m := []) rfl rfl rfl) rfl ?_
    refine JL_run [1] rfl ?_
    refine JL_set 22 (v' := .bool false) rfl (congrArg Value.bool (cdec_no hn2)) ?_
    refine JL_nil ?_
    (repeat' (first | refine J_seq ?_ | refine J_skip ?_ | refine J_yes rfl ?_ | refine J_no rfl ?_))
    refine J_region ?_
    refine JL_run [] rfl ?_
    refine JL_set 106 (v' := .bool true) rfl (congrArg Value.bool (cdec_yes rfl)) ?_
    refine JL_run [2] rfl ?_
    refine JL_set 110 (v' := .bool true) rfl (congrArg Value.bool (cdec_yes rfl)) ?_
    refine JL_run [2, 6] rfl ?_
    refine JL_set 114 (v' := .bool true) rfl (congrArg Value.bool (cdec_yes rfl)) ?_
    refine JL_run [2, 6, 10] rfl ?_
    refine JL_set 118 (v' := .bool true) rfl (congrArg Value.bool (cdec_yes rfl)) ?_
    refine JL_run [2, 6, 10, 14] rfl ?_
    refine JL_set 122 (v' := .bool true) rfl (congrArg Value.bool (cdec_yes rfl)) ?_
    refine JL_run [2, 6, 10, 14, 18] rfl ?_
    refine JL_set 126 (v' := .bool true) rfl (congrArg Value.bool (cdec_yes rfl)) ?_
    refine JL_run [2, 6, 10, 14, 18, 22] rfl ?_
    refine JL_set 130 (v' := .bool true) rfl (congrArg Value.bool (cdec_yes rfl)) ?_
    refine JL_run [2, 6, 10, 14, 18, 22, 26] rfl ?_
    refine JL_set 134 (v' := .bool true) rfl (congrArg Value.bool (cdec_yes rfl)) ?_
    refine JL_run [2, 6, 10, 14, 18, 22, 26, 30] rfl ?_
    refine JL_set 140 (v' := .bool true) rfl (congrArg Value.bool (by rw [cdec_no (by decide)]; rfl)) ?_
    refine JL_run [2, 6, 10, 14, 18, 22, 26, 30, 36] rfl ?_
    refine JL_all [2, 6, 10, 14, 18, 22, 26, 30, 36, 39, 43] rfl ?_
    exact J_ret ⟨_, rfl, rfl⟩
theorem textBounds_fn (V : LibV) (more : Int) (hm : inB more) (a : ByteArray) (wa : a.size ≤ 140737488351232) : Fn 3 [.int .i64 more, .string a] [] V.heap fun v _ => v = .bool true := by
  rw [← str_data a]
  exact textBoundsL_fn V more hm _ (by rw [← Lib.size_eq]; exact wa)
end Go.Proofs.YtkiadfpkgpgbiaaDoor
