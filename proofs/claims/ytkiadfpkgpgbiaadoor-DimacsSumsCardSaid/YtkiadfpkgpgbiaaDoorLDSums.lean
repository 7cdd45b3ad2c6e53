
/- DimacsSums: a network's text is read as long as its capacities' sum is in bounds; behind that it is told at which line it is too great. No condition. -/
import Derived.Test.YtkiadfpkgpgbiaaDoorDimaS
import Derived.Test.YtkiadfpkgpgbiaaDoorDimaT
set_option linter.unusedVariables false
set_option linter.unusedSimpArgs false
namespace Go.Proofs.YtkiadfpkgpgbiaaDoor
open Go.RowKit
open Lib
theorem pick4_fn {c n : Int} (hc : inB c) (hn : 0 < n) : Fn 16 [.int .i64 c, .int .i64 n] [] [] fun v H' => v = .int .i64 (pickZ c n) ∧ H' = [] := by
  unfold inB at hc
  refine Fn_of Tryd.func16 rfl rfl fun w0 => ?_
  (repeat' (first | refine J_seq ?_ | refine J_skip ?_ | refine J_yes rfl ?_ | refine J_no rfl ?_))
  refine J_region ?_
  refine JL_all [] rfl ?_
  refine J_cut [(0, .int .i64 (if c < 0 then - (c + 1) else c)), (1, .int .i64 n)] [] ?_ ?_
  · (repeat' (first | refine J_seq ?_ | refine J_skip ?_ | refine J_yes rfl ?_ | refine J_no rfl ?_))
    refine J_region ?_
    refine JL_all [] rfl ?_
    refine J_dec rfl (fun h => ?_) (fun h => J_skip ?_)
    · refine J_region (JL_all [] rfl ?_)
      refine ⟨[], ⟨?_, rfl, trivial⟩, by decide, rfl⟩
      show some (Value.int .i64 (IntKind.i64.wrap (0 - IntKind.i64.wrap (c + 1)))) = _
      rw [if_pos h, w64 (n := c + 1) (by omega), w64 (by omega), Int.zero_sub]
    · exact ⟨[], ⟨by rw [if_neg h]; rfl, rfl, trivial⟩, by decide, rfl⟩
  (repeat' (first | refine J_seq ?_ | refine J_skip ?_ | refine J_yes rfl ?_ | refine J_no rfl ?_))
  refine J_region ?_
  refine JL_run [] rfl ?_
  refine JL_val [] (OpV_rem rfl rfl rfl (by omega)) rfl ?_
  refine JL_all [] rfl ?_
  refine J_ret ⟨_, rfl, congrArg (Value.int .i64) ?_, rfl⟩
  unfold pickZ
  rw [Int.tmod_eq_emod_of_nonneg (by split <;> omega)]
theorem sums_len (k c : Int) (i : Nat) (hk : 0 ≤ k ∧ k ≤ 2000) (hc : 0 ≤ c ∧ c ≤ 4611686018427387903) : (sumsT k c i).length ≤ 60 + i * 40 := by
  unfold sumsT headL arcL
  have h1 := itoa_len k (by omega)
  have h2 := itoa_len c (by omega)
  simp only [List.length_append, List.length_flatten, List.map_replicate, List.sum_replicate_nat, List.length_cons, List.length_nil]
  have := Nat.mul_le_mul_left i (show (0 + 1 + 1 + 1 + 1 + 1 + 1 + (itoa c).length + (0 + 1)) ≤ 40 by omega)
  omega
theorem sums_next (k c : Int) (i : Nat) : sumsT k c (i + 1) = sumsT k c i ++ [97, 32, 49, 32, 50, 32] ++ itoa c ++ [10] := by
  unfold sumsT
  rw [List.replicate_succ']
  simp [arcL]
/-- What is left, and at which line nothing is. -/
def LeftA (c : Int) (i : Nat) (s : Int × Int) : Prop := (s.1 = 4611686018427387903 - i * c ∧ 0 ≤ s.1 ∧ s.2 = 0) ∨ (s.1 = -1 ∧ ∃ q : Nat, q < i ∧ s.2 = 4 + q ∧ TooQ c q)
theorem dimacsSums_fn (V : LibV) (many : Int) (hm : inB many) (part : Int) (hp : inB part) : Fn 7 [.int .i64 many, .int .i64 part] [] V.heap fun v _ => v = .bool true := by
  obtain ⟨kn, hkn, hk1, hk2⟩ : ∃ kn : Nat, 2 + pickZ many 30 = (kn : Int) ∧ 2 ≤ kn ∧ kn ≤ 31 := by
    have := pickZ_in (c := many) (n := 30) (by decide)
    exact ⟨(2 + pickZ many 30).toNat, by omega, by omega, by omega⟩
  obtain ⟨c, hc0, hc1, hc2⟩ : ∃ c : Int, Int.tdiv 4611686018427387904 (2 + pickZ part 30) + 1 = c ∧ 1 ≤ c ∧ c ≤ 4611686018427387903 := by
    have := pickZ_in (c := part) (n := 30) (by decide)
    refine ⟨_, rfl, ?_, ?_⟩
    · rw [Int.tdiv_eq_ediv_of_nonneg (by decide)]
      have := Int.ediv_nonneg (a := 4611686018427387904) (b := 2 + pickZ part 30) (by decide) (by omega)
      omega
    · rw [Int.tdiv_eq_ediv_of_nonneg (by decide)]
      have h1 : 4611686018427387904 / (2 + pickZ part 30) < 2305843009213693953 := Int.ediv_lt_of_lt_mul (by omega) (by omega)
      omega
  refine Fn_of Tryd.func7 rfl rfl fun w0 => ?_
  (repeat' (first | refine J_seq ?_ | refine J_skip ?_ | refine J_yes rfl ?_ | refine J_no rfl ?_))
  refine J_region ?_
  refine JL_all [] rfl ?_
  (repeat' (first | refine J_seq ?_ | refine J_skip ?_ | refine J_yes rfl ?_ | refine J_no rfl ?_))
  refine J_region ?_
  refine JL_callR [] (shown4_fn V) rfl rfl rfl rfl (by kernel_rfl) ⟨⟨0, by simp, rfl⟩, ⟨1, by simp, rfl⟩, ⟨2, by simp, rfl⟩, trivial⟩ (fun _ => rfl) ?_
  rintro v H' ⟨rfl, rfl⟩
  refine ⟨rfl, ?_⟩
  refine JL_all [] rfl ?_
  (repeat' (first | refine J_seq ?_ | refine J_skip ?_ | refine J_yes rfl ?_ | refine J_no rfl ?_))
  refine J_region ?_
  refine JL_all [] rfl ?_
  refine J_no rfl (J_skip ?_)
  have hpm := pickZ_in (c := many) (n := 30) (by decide)
  have hpp := pickZ_in (c := part) (n := 30) (by decide)
  (repeat' (first | refine J_seq ?_ | refine J_skip ?_ | refine J_yes rfl ?_ | refine J_no rfl ?_))
  refine J_region ?_
  refine JL_run [] rfl ?_
  refine JL_callR [] (pick4_fn hm (by decide)) rfl rfl rfl rfl (by kernel_rfl) trivial (fun _ => rfl) ?_
  rintro v H' ⟨rfl, rfl⟩
  refine ⟨rfl, ?_⟩
  refine JL_all [] rfl ?_
  refine J_set 6 (v' := .int .i64 kn) rfl (by rw [w64 (by omega), hkn]) ?_
  (repeat' (first | refine J_seq ?_ | refine J_skip ?_ | refine J_yes rfl ?_ | refine J_no rfl ?_))
  refine J_region ?_
  refine JL_run [] rfl ?_
  refine JL_callR [] (pick4_fn hp (by decide)) rfl rfl rfl rfl (by kernel_rfl) trivial (fun _ => rfl) ?_
  rintro v H' ⟨rfl, rfl⟩
  refine ⟨rfl, ?_⟩
  refine JL_evO (gs := [999]) rfl ?_
  refine JL_set 23 (v' := .int .i64 (2 + pickZ part 30)) rfl (by rw [w64 (by omega)]) ?_
  refine JL_val [] (OpV_quo rfl rfl rfl (by omega)) rfl ?_
  refine JL_all [] rfl ?_
  refine J_set 7 (v' := .int .i64 c) rfl (by rw [w64 (n := Int.tdiv _ _) (by omega), hc0, w64 (by omega)]) ?_
  (repeat' (first | refine J_seq ?_ | refine J_skip ?_ | refine J_yes rfl ?_ | refine J_no rfl ?_))
  refine J_region ?_
  refine JL_run [] rfl ?_
  refine JL_callR [] (write_fn V kn (by unfold inB; omega)) rfl rfl rfl rfl (by kernel_rfl) ⟨⟨0, by simp, rfl⟩, ⟨1, by simp, rfl⟩, ⟨2, by simp, rfl⟩, trivial⟩ (fun _ => rfl) ?_
  rintro v H' ⟨rfl, rfl⟩
  refine ⟨rfl, ?_⟩
  have hki := itoa_len kn (by omega)
  have hci := itoa_len c (by omega)
  refine JL_val [] (OpV_cat (l := [112, 32, 109, 97, 120, 32, 50, 32]) rfl rfl rfl (by simp; omega)) rfl ?_
  refine JL_val [] (OpV_cat (m := [10, 110, 32, 50, 32, 115, 10, 110, 32, 49, 32, 116, 10]) rfl rfl rfl (by simp; omega)) rfl ?_
  refine JL_all [] rfl ?_
  refine J_set 8 (v' := str (sumsT kn c 0)) rfl (by simp [sumsT, headL]) ?_
  (repeat' (first | refine J_seq ?_ | refine J_skip ?_ | refine J_yes rfl ?_ | refine J_no rfl ?_))
  refine J_region ?_
  refine JL_all [] rfl ?_
  (repeat' (first | refine J_seq ?_ | refine J_skip ?_ | refine J_yes rfl ?_ | refine J_no rfl ?_))
  refine J_region ?_
  refine JL_all [] rfl ?_
  (repeat' (first | refine J_seq ?_ | refine J_skip ?_ | refine J_yes rfl ?_ | refine J_no rfl ?_))
  refine J_region ?_
  refine JL_all [] rfl ?_
  refine J_block ?_
  refine J_loop (σ := Nat × Int × Int) (fun s => [(11, .int .i64 s.1), (6, .int .i64 kn), (7, .int .i64 c), (8, str (sumsT kn c s.1)), (9, .int .i64 s.2.1), (10, .int .i64 s.2.2)]) (fun _ => V.heap) (fun s => s.1 ≤ kn ∧ LeftA c s.1 s.2) (fun s => kn - s.1)
    (0, 4611686018427387903, 0) [0, 1, 2] ⟨rfl, rfl, rfl, rfl, rfl, rfl, trivial⟩ (by decide) rfl ⟨Nat.zero_le _, .inl ⟨by simp, by decide, rfl⟩⟩ ?_
  rintro ⟨i, left, at_⟩ ⟨hi, hl⟩
  simp only at hi
  have hsl := sums_len kn c i (by omega) (by omega)
  (repeat' (first | refine J_seq ?_ | refine J_skip ?_ | refine J_yes rfl ?_ | refine J_no rfl ?_))
  refine J_region ?_
  refine JL_all [] rfl ?_
  refine J_dec rfl (fun hlt => J_skip ?_) (fun hge => J_exit ?_)
  · have hlt' : i < kn := by omega
    refine J_seq (J_block ?_)
    (repeat' (first | refine J_seq ?_ | refine J_skip ?_ | refine J_yes rfl ?_ | refine J_no rfl ?_))
    refine J_region ?_
    refine JL_run [] rfl ?_
    refine JL_val [] (OpV_cat (m := [97, 32, 49, 32, 50, 32]) rfl rfl rfl (by simp; omega)) rfl ?_
    refine JL_run [] rfl ?_
    refine JL_callR [] (write_fn V c (by unfold inB; omega)) rfl rfl rfl rfl (by kernel_rfl) ⟨⟨0, by simp, rfl⟩, ⟨1, by simp, rfl⟩, ⟨2, by simp, rfl⟩, trivial⟩ (fun _ => rfl) ?_
    rintro v H' ⟨rfl, rfl⟩
    refine ⟨rfl, ?_⟩
    refine JL_val [] (OpV_cat rfl rfl rfl (by simp; omega)) rfl ?_
    refine JL_val [] (OpV_cat (m := [10]) rfl rfl rfl (by simp; omega)) rfl ?_
    refine JL_all [] rfl ?_
    refine J_set 8 (v' := str (sumsT kn c (i + 1))) rfl (congrArg str (sums_next kn c i).symm) ?_
    (repeat' (first | refine J_seq ?_ | refine J_skip ?_ | refine J_yes rfl ?_ | refine J_no rfl ?_))
    refine J_region ?_
    refine JL_all [] rfl ?_
    have hnc : ((i + 1 : Nat) : Int) * c = i * c + c := by rw [Int.natCast_add, Int.add_mul]; simp
    have hic : 0 ≤ (i : Int) * c := Int.mul_nonneg (by omega) (by omega)
    have hi1 : ((i : Nat) : Int) + 1 = ((i + 1 : Nat) : Int) := by omega
    rcases hl with ⟨e1, h0, e2⟩ | ⟨e1, q, hq, e2, hT⟩
    · simp only at e1 h0 e2
      subst e2
      have hwr : IntKind.i64.wrap (left - c) = left - c := w64 (by omega)
      refine J_set 9 (v' := .int .i64 (left - c)) rfl (by rw [hwr]) ?_
      refine J_seq ?_
      refine J_seq ?_
      (repeat' (first | refine J_seq ?_ | refine J_skip ?_ | refine J_yes rfl ?_ | refine J_no rfl ?_))
      refine J_region ?_
      refine JL_run [] rfl ?_
      by_cases hneg : left - c < 0
      · refine JL_set 46 (v' := .bool true) rfl (congrArg Value.bool (cdec_yes hneg)) ?_
        refine JL_all [2] rfl ?_
        refine J_dec rfl (fun _ => ?_) (fun h => absurd rfl h)
        (repeat' (first | refine J_seq ?_ | refine J_skip ?_ | refine J_yes rfl ?_ | refine J_no rfl ?_))
        refine J_region ?_
        refine JL_all [] rfl ?_
        refine J_set 10 (v' := .int .i64 (4 + i)) rfl (by rw [w64 (by omega)]) ?_
        refine J_seq ?_
        (repeat' (first | refine J_seq ?_ | refine J_skip ?_ | refine J_yes rfl ?_ | refine J_no rfl ?_))
        refine J_region ?_
        refine JL_all [] rfl ?_
        refine J_dec rfl (fun _ => ?_) (fun h => absurd hneg h)
        (repeat' (first | refine J_seq ?_ | refine J_skip ?_ | refine J_yes rfl ?_ | refine J_no rfl ?_))
        refine J_region ?_
        refine JL_all [] rfl ?_
        (repeat' (first | refine J_seq ?_ | refine J_skip ?_ | refine J_yes rfl ?_ | refine J_no rfl ?_))
        refine J_region ?_
        refine JL_all [] rfl ?_
        refine ⟨(i + 1, -1, 4 + i), [0, 1, 2], ⟨?_, rfl, rfl, rfl, rfl, rfl, trivial⟩, by decide, rfl, ⟨by simp only; omega, .inr ⟨rfl, i, by simp only; omega, rfl, by omega, by omega⟩⟩, by simp only; omega⟩
        show some (Value.int .i64 (IntKind.i64.wrap ((i : Int) + 1))) = _
        rw [w64 (by omega)]; rfl
      · refine JL_set 46 (v' := .bool false) rfl (congrArg Value.bool (cdec_no hneg)) ?_
        refine JL_all [2] rfl ?_
        refine J_no rfl (J_skip ?_)
        refine J_seq ?_
        (repeat' (first | refine J_seq ?_ | refine J_skip ?_ | refine J_yes rfl ?_ | refine J_no rfl ?_))
        refine J_region ?_
        refine JL_all [] rfl ?_
        refine J_dec rfl (fun h => absurd h hneg) (fun _ => J_skip ?_)
        (repeat' (first | refine J_seq ?_ | refine J_skip ?_ | refine J_yes rfl ?_ | refine J_no rfl ?_))
        refine J_region ?_
        refine JL_all [] rfl ?_
        refine ⟨(i + 1, left - c, 0), [0, 1, 2], ⟨?_, rfl, rfl, rfl, rfl, rfl, trivial⟩, by decide, rfl, ⟨by simp only; omega, .inl ⟨by simp only; omega, by simp only; omega, rfl⟩⟩, by simp only; omega⟩
        show some (Value.int .i64 (IntKind.i64.wrap ((i : Int) + 1))) = _
        rw [w64 (by omega)]; rfl
    · simp only at e1 e2
      subst e1 e2
      have hwr : IntKind.i64.wrap (-1 - c) = -1 - c := w64 (by omega)
      refine J_set 9 (v' := .int .i64 (-1 - c)) rfl (by rw [hwr]) ?_
      have hneg : -1 - c < 0 := by omega
      refine J_seq ?_
      refine J_seq ?_
      (repeat' (first | refine J_seq ?_ | refine J_skip ?_ | refine J_yes rfl ?_ | refine J_no rfl ?_))
      refine J_region ?_
      refine JL_run [] rfl ?_
      refine JL_set 46 (v' := .bool true) rfl (congrArg Value.bool (cdec_yes hneg)) ?_
      refine JL_all [2] rfl ?_
      refine J_dec rfl (fun h => ?_) (fun _ => J_skip ?_)
      · have h' : (4 : Int) + q = 0 := h
        omega
      refine J_seq ?_
      (repeat' (first | refine J_seq ?_ | refine J_skip ?_ | refine J_yes rfl ?_ | refine J_no rfl ?_))
      refine J_region ?_
      refine JL_all [] rfl ?_
      refine J_dec rfl (fun _ => ?_) (fun h => absurd hneg h)
      (repeat' (first | refine J_seq ?_ | refine J_skip ?_ | refine J_yes rfl ?_ | refine J_no rfl ?_))
      refine J_region ?_
      refine JL_all [] rfl ?_
      (repeat' (first | refine J_seq ?_ | refine J_skip ?_ | refine J_yes rfl ?_ | refine J_no rfl ?_))
      refine J_region ?_
      refine JL_all [] rfl ?_
      refine ⟨(i + 1, -1, 4 + q), [0, 1, 2], ⟨?_, rfl, rfl, rfl, rfl, rfl, trivial⟩, by decide, rfl, ⟨by simp only; omega, .inr ⟨rfl, q, by simp only; omega, rfl, hT⟩⟩, by simp only; omega⟩
      show some (Value.int .i64 (IntKind.i64.wrap ((i : Int) + 1))) = _
      rw [w64 (by omega)]; rfl
  obtain rfl : i = kn := by omega
  have T := parse_fn V (sumsT i c i) (by omega)
  have hpk := parse_sums (k := i) (c := c) (by omega) (by omega)
  generalize hPq : parseL (sumsT i c i) = P at T hpk
  obtain ⟨N, ln, e⟩ := P
  (repeat' (first | refine J_seq ?_ | refine J_skip ?_ | refine J_yes rfl ?_ | refine J_no rfl ?_))
  refine J_region ?_
  refine JL_run [] rfl ?_
  refine JL_callR [] T rfl rfl rfl rfl (by kernel_rfl) ⟨⟨0, by simp, rfl⟩, ⟨1, by simp, rfl⟩, ⟨2, by simp, rfl⟩, trivial⟩ (fun _ => rfl) ?_
  rintro v H' ⟨A, cA, rfl, rfl⟩
  refine ⟨rfl, ?_⟩
  refine JL_run [] rfl ?_
  refine JL_alloc rfl rfl rfl (fun _ => rfl) fun p1 => ?_
  refine JL_store 0 rfl rfl rfl rfl rfl [] rfl ?_
  refine JL_all [] rfl ?_
  refine J_seq ?_
  (repeat' (first | refine J_seq ?_ | refine J_skip ?_ | refine J_yes rfl ?_ | refine J_no rfl ?_))
  refine J_region ?_
  refine JL_all [] rfl ?_
  have hmono : ∀ q : Nat, q < i → (q : Int) * c + c ≤ i * c := fun q hq => by
    have h1 : (q : Int) * c + c = ((q + 1 : Nat) : Int) * c := by rw [Int.natCast_add, Int.add_mul]; simp
    rw [h1]
    exact Int.mul_le_mul_of_nonneg_right (by omega) (by omega)
  rcases hpk with ⟨hs, hP⟩ | ⟨q, hq, hT, hP⟩
  · obtain ⟨rfl, h2⟩ := Prod.mk.inj hP
    obtain ⟨rfl, rfl⟩ := Prod.mk.inj h2
    have hat : at_ = 0 := by
      rcases hl with ⟨_, _, e2⟩ | ⟨_, q, hq, _, hT⟩
      · exact e2
      · have := hmono q hq
        have := hT.2
        omega
    refine J_dec rfl (fun _ => ?_) (fun h => absurd hat h)
    (repeat' (first | refine J_seq ?_ | refine J_skip ?_ | refine J_yes rfl ?_ | refine J_no rfl ?_))
    refine J_region ?_
    refine JL_run [] rfl ?_
    refine JL_set 64 (v' := .bool true) rfl (congrArg Value.bool (cdec_yes rfl)) ?_
    refine JL_run [2] rfl ?_
    refine JL_set 68 (v' := .bool true) rfl (congrArg Value.bool (cdec_yes rfl)) ?_
    refine JL_run [2, 6] rfl ?_
    refine JL_val [2, 6] (OpV_blk (i := 3) (v := .slice A (List.replicate i (Arc.mk 1 2 c)).length cA) 0 rfl rfl rfl rfl) rfl ?_
    refine JL_all [2, 6] rfl ?_
    exact J_drop [] (by decide) rfl (J_ret ⟨_, rfl, congrArg Value.bool (cdec_yes (by simp))⟩)
  · obtain ⟨rfl, h2⟩ := Prod.mk.inj hP
    obtain ⟨rfl, rfl⟩ := Prod.mk.inj h2
    have hat : at_ = 4 + q := by
      rcases hl with ⟨e1, h0, _⟩ | ⟨_, q', hq', e2, hT'⟩
      · simp only at e1 h0
        have := hmono q hq
        have := hT.2
        omega
      · simp only at e2
        have : q' = q := by
          have hm2 : ∀ a b : Nat, a < b → (a : Int) * c + c ≤ b * c := fun a b hab => by
            have h1 : (a : Int) * c + c = ((a + 1 : Nat) : Int) * c := by rw [Int.natCast_add, Int.add_mul]; simp
            rw [h1]
            exact Int.mul_le_mul_of_nonneg_right (by omega) (by omega)
          have h1 := hT.1
          have h2 := hT.2
          have h3 := hT'.1
          have h4 := hT'.2
          rcases Nat.lt_trichotomy q' q with h | h | h
          · have := hm2 _ _ h; omega
          · exact h
          · have := hm2 _ _ h; omega
        rw [e2, this]
    subst hat
    refine J_dec rfl (fun h => ?_) (fun _ => J_skip ?_)
    · have h' : (4 : Int) + q = 0 := h
      omega
    (repeat' (first | refine J_seq ?_ | refine J_skip ?_ | refine J_yes rfl ?_ | refine J_no rfl ?_))
    refine J_region ?_
    refine JL_run [] rfl ?_
    refine JL_set 77 (v' := .bool true) rfl (congrArg Value.bool (cdec_yes rfl)) ?_
    refine JL_run [2] rfl ?_
    refine JL_set 82 (v' := .bool true) rfl (congrArg Value.bool (cdec_yes (by simp))) ?_
    refine JL_run [2, 7] rfl ?_
    refine JL_val [2, 7] (OpV_blk (i := 3) (v := .slice A 0 cA) 0 rfl rfl rfl rfl) rfl ?_
    refine JL_all [2, 7] rfl ?_
    exact J_drop [] (by decide) rfl (J_ret ⟨_, rfl, congrArg Value.bool (cdec_yes rfl)⟩)
end Go.Proofs.YtkiadfpkgpgbiaaDoor
