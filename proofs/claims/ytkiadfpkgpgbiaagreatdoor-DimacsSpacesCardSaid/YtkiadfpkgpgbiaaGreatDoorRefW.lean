
/- The other way to write a number. -/
import Derived.Test.YtkiadfpkgpgbiaaGreatDoorTextS
set_option linter.unusedVariables false
set_option linter.unusedSimpArgs false
namespace Go.Proofs.YtkiadfpkgpgbiaaGreatDoor
open Go.RowKit
open Lib
def WrI (n0 n : Int) (s : List UInt8) : Prop := (0 ≤ n0 → 0 ≤ n) ∧ (n0 < 0 → n ≤ 0) ∧ (n ≠ 0 ∨ s = [] → decDigits n.natAbs ++ s = decDigits n0.natAbs) ∧ (n = 0 ∧ s ≠ [] → s = decDigits n0.natAbs)
theorem digs : ∀ d : Nat, d < 10 → (([48, 49, 50, 51, 52, 53, 54, 55, 56, 57] : List UInt8).drop d).take (d + 1 - d) = [UInt8.ofNat (48 + d)] := by decide
theorem wr_step {n0 n : Int} {s : List UInt8} (h : WrI n0 n s) (hc : n ≠ 0 ∨ s = []) : WrI n0 (n.tdiv 10) (UInt8.ofNat (48 + n.natAbs % 10) :: s) := by
  obtain ⟨h1, h2, h3, _⟩ := h
  have hD := h3 hc
  have hq : (n.tdiv 10).natAbs = n.natAbs / 10 := by rw [Int.natAbs_tdiv]; rfl
  refine ⟨fun k => Int.tdiv_nonneg (h1 k) (by decide), fun k => ?_, fun k => ?_, fun k => ?_⟩
  · have := h2 k
    have h4 : 0 ≤ (-n).tdiv 10 := Int.tdiv_nonneg (by omega) (by decide)
    rw [Int.neg_tdiv] at h4
    omega
  · have hne : n.tdiv 10 ≠ 0 := k.resolve_right (by simp)
    have : n.natAbs / 10 ≠ 0 := by rw [← hq]; omega
    rw [dd_ge (u := n.natAbs) (by omega)] at hD
    rw [hq]
    simpa using hD
  · have : n.natAbs / 10 = 0 := by rw [← hq, k.1]; rfl
    rw [dd_lt (u := n.natAbs) (by omega)] at hD
    rw [show n.natAbs % 10 = n.natAbs by omega]
    simpa using hD
theorem rwrite_fn (n : Int) (hn : inB n) : Fn 20 [.int .i64 n] [] [] fun v H' => v = str (itoa n) ∧ H' = [] := by
  have hn' := hn
  unfold inB at hn'
  refine Fn_of Tryz.func20 rfl rfl fun w0 => ?_
  (repeat' (first | refine J_seq ?_ | refine J_skip ?_ | refine J_yes rfl ?_ | refine J_no rfl ?_))
  refine J_region ?_
  refine JL_all [] rfl ?_
  (repeat' (first | refine J_seq ?_ | refine J_skip ?_ | refine J_yes rfl ?_ | refine J_no rfl ?_))
  refine J_region ?_
  refine JL_all [] rfl ?_
  (repeat' (first | refine J_seq ?_ | refine J_skip ?_ | refine J_yes rfl ?_ | refine J_no rfl ?_))
  refine J_region ?_
  refine JL_all [] rfl ?_
  refine J_seq (J_block ?_)
  refine J_loop (σ := Int × List UInt8) (fun t => [(0, .int .i64 t.1), (3, str t.2), (4, .bool (cdec (n < 0)))]) (fun _ => []) (fun t => WrI n t.1 t.2 ∧ t.1.natAbs ≤ n.natAbs) (fun t => t.1.natAbs + (if t.2 = [] then 1 else 0)) (n, []) [] ⟨rfl, rfl, rfl, trivial⟩ (by decide) rfl
    ⟨⟨fun h => h, fun h => by omega, fun _ => by simp, fun h => absurd rfl h.2⟩, Nat.le_refl _⟩ ?_
  rintro ⟨m, s⟩ ⟨hI, hm⟩
  simp only at hI hm ⊢
  have hl : s.length ≤ 20 := by
    have hD := dd_len20 n.natAbs 20 (by omega) (by decide)
    by_cases hc : m ≠ 0 ∨ s = []
    · have := congrArg List.length (hI.2.2.1 hc)
      rw [List.length_append] at this
      omega
    · rw [hI.2.2.2 ⟨Classical.not_not.1 fun k => hc (.inl k), fun k => hc (.inr k)⟩]
      exact hD
  refine J_seq ?_
  refine J_cut [(13, .bool (cdec (m ≠ 0 ∨ s = []))), (0, .int .i64 m), (3, str s), (4, .bool (cdec (n < 0)))] [] ?_ ?_
  · (repeat' (first | refine J_seq ?_ | refine J_skip ?_ | refine J_yes rfl ?_ | refine J_no rfl ?_))
    refine J_region ?_
    refine JL_run [] rfl ?_
    by_cases h0 : m = 0
    · refine JL_set 10 (v' := .bool false) rfl (congrArg Value.bool (cdec_no (fun k => k h0))) ?_
      refine JL_all [2] rfl ?_
      refine ⟨[], ⟨?_, rfl, rfl, rfl, trivial⟩, by decide, rfl⟩
      refine congrArg some (congrArg Value.bool ?_)
      rw [show (⟨#[]⟩ : ByteArray) = ⟨([] : List UInt8).toArray⟩ from rfl, eq_str]
      exact cdec_iff ⟨fun h => .inr h, fun h => h.resolve_left (fun k => k h0)⟩
    · refine JL_set 10 (v' := .bool true) rfl (congrArg Value.bool (cdec_yes h0)) ?_
      refine JL_all [2] rfl ?_
      exact ⟨[], ⟨congrArg some (congrArg Value.bool (cdec_yes (.inl h0)).symm), rfl, rfl, rfl, trivial⟩, by decide, rfl⟩
  refine J_dec rfl (fun hc => J_skip ?_) (fun hc => J_exit ?_)
  · have hI2 := wr_step hI hc
    have hmn : (m.tdiv 10).natAbs = m.natAbs / 10 := by rw [Int.natAbs_tdiv]; rfl
    have hmd : (m.tmod 10).natAbs = m.natAbs % 10 := by rw [Int.natAbs_tmod]; rfl
    have hq : -9223372036854775808 ≤ m.tdiv 10 ∧ m.tdiv 10 ≤ 9223372036854775807 := by
      have h1 := tmod_cases m (m := 10) (by decide)
      omega
    refine J_block ?_
    refine J_seq ?_
    (repeat' (first | refine J_seq ?_ | refine J_skip ?_ | refine J_yes rfl ?_ | refine J_no rfl ?_))
    refine J_region ?_
    refine JL_run [] rfl ?_
    refine JL_nil ?_
    refine J_cut [(5, .int .i64 ((m.natAbs % 10 : Nat) : Int)), (0, .int .i64 m), (3, str s), (4, .bool (cdec (n < 0)))] [] ?_ ?_
    · (repeat' (first | refine J_seq ?_ | refine J_skip ?_ | refine J_yes rfl ?_ | refine J_no rfl ?_))
      refine J_region ?_
      refine JL_all [] rfl ?_
      refine J_dec rfl (fun hneg => ?_) (fun hneg => J_skip ?_)
      · have hneg' : m.tmod 10 < 0 := hneg
        refine J_region (JL_all [] rfl ?_)
        refine ⟨[], ⟨?_, rfl, rfl, rfl, trivial⟩, by decide, rfl⟩
        show some (Value.int .i64 (IntKind.i64.wrap (0 - m.tmod 10))) = _
        rw [w64 (by omega)]
        exact congrArg (fun z => some (Value.int .i64 z)) (by omega)
      · have hneg' : ¬ m.tmod 10 < 0 := hneg
        exact ⟨[], ⟨congrArg (fun z => some (Value.int .i64 z)) (by omega), rfl, rfl, rfl, trivial⟩, by decide, rfl⟩
    (repeat' (first | refine J_seq ?_ | refine J_skip ?_ | refine J_yes rfl ?_ | refine J_no rfl ?_))
    refine J_region ?_
    refine JL_run [] rfl ?_
    refine JL_set 22 (v' := .int .i64 ((m.natAbs % 10 + 1 : Nat) : Int)) rfl (by rw [w64 (by omega)]; rfl) ?_
    refine JL_val [] (OpV_sub (l := [48, 49, 50, 51, 52, 53, 54, 55, 56, 57]) rfl rfl rfl rfl rfl (by omega) (by simp; omega)) rfl ?_
    rw [digs _ (by omega)]
    refine JL_run [] rfl ?_
    refine JL_val [] (OpV_cat rfl rfl rfl (by simp; omega)) rfl ?_
    refine JL_all [] rfl ?_
    (repeat' (first | refine J_seq ?_ | refine J_skip ?_ | refine J_yes rfl ?_ | refine J_no rfl ?_))
    refine J_region ?_
    refine JL_run [] rfl ?_
    refine JL_nil ?_
    refine ⟨(m.tdiv 10, UInt8.ofNat (48 + m.natAbs % 10) :: s), [], ⟨?_, rfl, rfl, trivial⟩, by decide, rfl, ⟨hI2, by simp only; omega⟩, ?_⟩
    · exact congrArg (fun z => some (Value.int .i64 z)) (w64 hq)
    · simp only
      rw [hmn, if_neg (by simp)]
      by_cases hs : s = []
      · rw [if_pos hs]; omega
      · have := hc.resolve_right hs
        rw [if_neg hs]; omega
  have hm0 : m = 0 := Classical.not_not.1 fun k => hc (.inl k)
  have hs : s = decDigits n.natAbs := hI.2.2.2 ⟨hm0, fun k => hc (.inr k)⟩
  (repeat' (first | refine J_seq ?_ | refine J_skip ?_ | refine J_yes rfl ?_ | refine J_no rfl ?_))
  refine J_region ?_
  refine JL_all [] rfl ?_
  refine J_dec rfl (fun hneg => ?_) (fun hneg => J_skip ?_)
  · (repeat' (first | refine J_seq ?_ | refine J_skip ?_ | refine J_yes rfl ?_ | refine J_no rfl ?_))
    refine J_region ?_
    refine JL_run [] rfl ?_
    refine JL_val [] (OpV_cat (l := [45]) rfl rfl rfl (by simp; omega)) rfl ?_
    refine JL_all [] rfl ?_
    (repeat' (first | refine J_seq ?_ | refine J_skip ?_ | refine J_yes rfl ?_ | refine J_no rfl ?_))
    refine J_region ?_
    refine JL_all [] rfl ?_
    refine J_ret ⟨_, rfl, ?_, rfl⟩
    rw [hs]; unfold itoa; rw [if_pos hneg]; rfl
  · (repeat' (first | refine J_seq ?_ | refine J_skip ?_ | refine J_yes rfl ?_ | refine J_no rfl ?_))
    refine J_region ?_
    refine JL_all [] rfl ?_
    refine J_ret ⟨_, rfl, ?_, rfl⟩
    rw [hs]; unfold itoa; rw [if_neg hneg, show n.natAbs = n.toNat by omega]; rfl
end Go.Proofs.YtkiadfpkgpgbiaaGreatDoor
