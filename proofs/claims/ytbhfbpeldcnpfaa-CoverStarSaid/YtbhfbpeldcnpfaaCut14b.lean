
/- Chapter 14's cuts of raw numbers. -/
import Derived.Test.YtbhfbpeldcnpfaaCut14
namespace Go.Proofs.Ytbhfbpeldcnpfaa
open Go.RowKit
/-- A cut: nodes that rise, the source among them, the sink not. -/
structure IsCut (N : Net) (s : List Int) : Prop where
  rise : s.Pairwise (· < ·)
  rng : ∀ x ∈ s, 1 ≤ x ∧ x ≤ N.nodes
  src : N.src ∈ s
  snk : N.snk ∉ s
theorem rise_app {s : List Int} {v : Int} (h : s.Pairwise (· < ·)) (hl : ∀ x ∈ s, x < v) : (s ++ [v]).Pairwise (· < ·) := by
  rw [List.pairwise_append]
  exact ⟨h, List.pairwise_singleton _ _, fun a ha b hb => by rw [List.mem_singleton.1 hb]; exact hl a ha⟩
theorem some_fn (N : Net) (hR : N.Right) (A : Option Addr) (c : Nat) (bits : Int) :
    Fn 22 [netV N A c, .int .i64 bits] [] [] fun v H' => ∃ (s : List Int) (A' : Option Addr) (c' : Nat), IsCut N s ∧ s.length ≤ 500 ∧ v = .slice A' s.length c' ∧ H' = [.own (.slice A' s.length c') 3 1 s.length (ints s)] := by
  have hnn := hR.nodes
  have hsr := hR.src
  have hsk := hR.snk
  refine Fn_of Try.func22 rfl rfl fun w0 => ?_
  (repeat' (first | refine J_seq ?_ | refine J_skip ?_ | refine J_yes rfl ?_ | refine J_no rfl ?_))
  refine J_region ?_
  refine JL_box (cs := netC N A c) rfl rfl rfl (fun _ => rfl) fun p => ?_
  refine JL_all [] rfl ?_
  (repeat' (first | refine J_seq ?_ | refine J_skip ?_ | refine J_yes rfl ?_ | refine J_no rfl ?_))
  refine J_region ?_
  refine JL_all [] rfl ?_
  (repeat' (first | refine J_seq ?_ | refine J_skip ?_ | refine J_yes rfl ?_ | refine J_no rfl ?_))
  refine J_region ?_
  refine JL_all [] rfl ?_
  refine J_block ?_
  refine J_addnil 3 1 ?_
  refine J_loop (σ := Nat × Option Addr × Nat × List Int) (fun s => [(6, .int .i64 (s.1 : Int)), (5, .slice s.2.1 s.2.2.2.length s.2.2.1), (2, .pointer (some ⟨p, 0, none⟩)), (1, .int .i64 bits)])
    (fun s => [.own (.slice s.2.1 s.2.2.2.length s.2.2.1) 3 1 s.2.2.2.length (ints s.2.2.2), blk p 27 (netC N A c)])
    (fun s => 1 ≤ s.1 ∧ (s.1 : Int) ≤ N.nodes + 1 ∧ s.2.2.2.length < s.1 ∧ s.2.2.2.Pairwise (· < ·) ∧ (∀ x ∈ s.2.2.2, 1 ≤ x ∧ x < s.1) ∧ (N.src < s.1 → N.src ∈ s.2.2.2) ∧ N.snk ∉ s.2.2.2) (fun s => 501 - s.1)
    (1, none, 0, []) [0, 1] ⟨rfl, rfl, rfl, rfl, trivial⟩ (by decide) rfl ⟨Nat.le_refl _, by simp only; omega, by decide, List.Pairwise.nil, fun x hx => (by cases hx), fun h => absurd h (by show ¬ N.src < ((1 : Nat) : Int); omega), (by simp)⟩ ?_
  rintro ⟨k, A1, c1, l⟩ ⟨hk1, hk2, hll, hrise, hrng, hsrc, hsnk⟩
  simp only at hk1 hk2 hll hrise hrng hsrc hsnk ⊢
  (repeat' (first | refine J_seq ?_ | refine J_skip ?_ | refine J_yes rfl ?_ | refine J_no rfl ?_))
  refine J_region ?_
  refine JL_run [] rfl ?_
  refine JL_val [] (OpV_blk 1 rfl rfl rfl rfl) rfl ?_
  refine JL_all [] rfl ?_
  refine J_dec rfl (fun hle => J_skip ?_) (fun hgt => J_exit ?_)
  · have hq : IntKind.i64.wrap ((k : Int) + 1) = ((k + 1 : Nat) : Int) := w64 (by omega)
    have hne : N.src ≠ N.snk := hR.diff
    refine J_seq (J_block ?_)
    (repeat' (first | refine J_seq ?_ | refine J_skip ?_ | refine J_yes rfl ?_ | refine J_no rfl ?_))
    refine J_region ?_
    refine JL_run [] rfl ?_
    refine JL_val [] (OpV_blk 1 rfl rfl rfl rfl) rfl ?_
    refine JL_run [] rfl ?_
    by_cases h1 : (k : Int) = N.src
    · have hks : (k : Int) ≠ N.snk := by omega
      refine JL_set 17 (v' := .bool true) rfl (congrArg Value.bool (cdec_yes h1)) ?_
      refine JL_all [4, 9] rfl ?_
      refine J_yes rfl ?_
      refine J_region (JL_run [] rfl ?_)
      refine JL_lit rfl rfl rfl rfl rfl rfl rfl (fun _ => rfl) fun g2 => ?_
      refine JL_appendS (n := l.length) (m := 1) (off := 0) (news := ints [(k : Int)]) 1 0 rfl rfl rfl rfl rfl rfl (by decide) rfl rfl (shows_blk g2 _ _ (0, 0)) (fun _ => rfl) rfl rfl (by omega) (by omega) (fun _ _ => rfl) fun A2 c2 => ?_
      rw [show l.length + 1 = (l ++ [(k : Int)]).length by simp, show ints l ++ ints [(k : Int)] = ints (l ++ [(k : Int)]) by simp [ints]]
      refine JL_all [] rfl ?_
      (repeat' (first | refine J_seq ?_ | refine J_skip ?_ | refine J_yes rfl ?_ | refine J_no rfl ?_))
      refine J_region ?_
      refine JL_all [] rfl ?_
      refine ⟨(k + 1, A2, c2, l ++ [(k : Int)]), [1, 2], ⟨congrArg some (congrArg (Value.int .i64) hq), rfl, rfl, rfl, trivial⟩, by decide, rfl, ⟨by simp only; omega, by simp only; omega, by simp only [List.length_append, List.length_singleton]; omega, rise_app hrise (fun x hx => (hrng x hx).2), fun x hx => ?_, fun h => ?_, fun h => ?_⟩, by simp only; omega⟩
      · rcases List.mem_append.1 hx with hx | hx
        · have := hrng x hx; simp only; omega
        · have := List.mem_singleton.1 hx; simp only; omega
      · simp only at h ⊢
        by_cases e : N.src = k
        · rw [e]; simp
        · exact List.mem_append.2 (.inl (hsrc (by omega)))
      · rcases List.mem_append.1 h with h | h
        · exact hsnk h
        · have := List.mem_singleton.1 h; omega
    refine JL_set 17 (v' := .bool false) rfl (congrArg Value.bool (cdec_no h1)) ?_
    refine JL_run [4] rfl ?_
    refine JL_val [4] (OpV_blk 1 rfl rfl rfl rfl) rfl ?_
    refine JL_run [4] rfl ?_
    by_cases hks : (k : Int) = N.snk
    · refine JL_set 22 (v' := .bool false) rfl (congrArg Value.bool (cdec_no (fun h => h hks))) ?_
      refine JL_all [4, 9] rfl ?_
      refine J_no rfl ?_
      refine J_skip ?_
      (repeat' (first | refine J_seq ?_ | refine J_skip ?_ | refine J_yes rfl ?_ | refine J_no rfl ?_))
      refine J_region ?_
      refine JL_all [] rfl ?_
      refine ⟨(k + 1, A1, c1, l), [0, 1], ⟨congrArg some (congrArg (Value.int .i64) hq), rfl, rfl, rfl, trivial⟩, by decide, rfl, ⟨by simp only; omega, by simp only; omega, by simp only; omega, hrise, fun x hx => by have := hrng x hx; simp only; omega, fun h => hsrc (by simp only at h; omega), hsnk⟩, by simp only; omega⟩
    refine JL_set 22 (v' := .bool true) rfl (congrArg Value.bool (cdec_yes hks)) ?_
    refine JL_run [4, 9] rfl ?_
    refine JL_set 25 (v' := .int .i64 ((k % 20 : Nat) : Int)) rfl (congrArg (Value.int .i64) (by rw [Int.tmod_eq_emod_of_nonneg (by omega)]; omega)) ?_
    refine JL_val [4, 9] (OpV_shr rfl rfl rfl) rfl ?_
    refine JL_all [4, 9] rfl ?_
    refine J_dec rfl (fun _ => ?_) (fun _ => ?_)
    · refine J_region (JL_run [] rfl ?_)
      refine JL_lit rfl rfl rfl rfl rfl rfl rfl (fun _ => rfl) fun g2 => ?_
      refine JL_appendS (n := l.length) (m := 1) (off := 0) (news := ints [(k : Int)]) 1 0 rfl rfl rfl rfl rfl rfl (by decide) rfl rfl (shows_blk g2 _ _ (0, 0)) (fun _ => rfl) rfl rfl (by omega) (by omega) (fun _ _ => rfl) fun A2 c2 => ?_
      rw [show l.length + 1 = (l ++ [(k : Int)]).length by simp, show ints l ++ ints [(k : Int)] = ints (l ++ [(k : Int)]) by simp [ints]]
      refine JL_all [] rfl ?_
      (repeat' (first | refine J_seq ?_ | refine J_skip ?_ | refine J_yes rfl ?_ | refine J_no rfl ?_))
      refine J_region ?_
      refine JL_all [] rfl ?_
      refine ⟨(k + 1, A2, c2, l ++ [(k : Int)]), [1, 2], ⟨congrArg some (congrArg (Value.int .i64) hq), rfl, rfl, rfl, trivial⟩, by decide, rfl, ⟨by simp only; omega, by simp only; omega, by simp only [List.length_append, List.length_singleton]; omega, rise_app hrise (fun x hx => (hrng x hx).2), fun x hx => ?_, fun h => ?_, fun h => ?_⟩, by simp only; omega⟩
      · rcases List.mem_append.1 hx with hx | hx
        · have := hrng x hx; simp only; omega
        · have := List.mem_singleton.1 hx; simp only; omega
      · simp only at h ⊢
        by_cases e : N.src = k
        · rw [e]; simp
        · exact List.mem_append.2 (.inl (hsrc (by omega)))
      · rcases List.mem_append.1 h with h | h
        · exact hsnk h
        · have := List.mem_singleton.1 h; omega
    · refine J_skip ?_
      (repeat' (first | refine J_seq ?_ | refine J_skip ?_ | refine J_yes rfl ?_ | refine J_no rfl ?_))
      refine J_region ?_
      refine JL_all [] rfl ?_
      refine ⟨(k + 1, A1, c1, l), [0, 1], ⟨congrArg some (congrArg (Value.int .i64) hq), rfl, rfl, rfl, trivial⟩, by decide, rfl, ⟨by simp only; omega, by simp only; omega, by simp only; omega, hrise, fun x hx => by have := hrng x hx; simp only; omega, fun h => hsrc (by simp only at h; omega), hsnk⟩, by simp only; omega⟩
  · (repeat' (first | refine J_seq ?_ | refine J_skip ?_ | refine J_yes rfl ?_ | refine J_no rfl ?_))
    refine J_region ?_
    refine JL_all [] rfl ?_
    refine J_drop [0] (by decide) rfl (J_ret ⟨_, rfl, l, A1, c1, ⟨hrise, fun x hx => by have := hrng x hx; omega, hsrc (by omega), hsnk⟩, by omega, rfl, rfl⟩)
end Go.Proofs.Ytbhfbpeldcnpfaa
