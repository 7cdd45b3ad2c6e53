
/- What 'Check' tells. -/
import Derived.Test.YtbhfbpeldcnpfaaNetB
namespace Go.Proofs.Ytbhfbpeldcnpfaa
open Go.RowKit
structure Net.Fits (N : Net) : Prop where
  nodes : inB N.nodes
  src : inB N.src
  snk : inB N.snk
  len : N.arcs.length * 24 ≤ 140737488351232
  arc : ∀ a ∈ N.arcs, inB a.fr ∧ inB a.to ∧ inB a.cap
theorem check_fn (N : Net) (hN : N.Fits) (A : Option Addr) (c b o : Nat) (hA : N.arcs ≠ [] → A = some ⟨b, o, none⟩) : Fn 58 [netV N A c] [] [.seg b o (arcs N.arcs)] fun v H' => v = .int .i64 (checkZ N) ∧ H' = [] := by
  have hln := hN.len
  refine Fn_of Try.func58 rfl rfl fun w0 => ?_
  (repeat' (first | refine J_seq ?_ | refine J_skip ?_ | refine J_yes rfl ?_ | refine J_no rfl ?_))
  refine J_region ?_
  refine JL_box (cs := netC N A c) rfl rfl rfl (fun _ => rfl) fun p => ?_
  refine JL_all [] rfl ?_
  (repeat' (first | refine J_seq ?_ | refine J_skip ?_ | refine J_yes rfl ?_ | refine J_no rfl ?_))
  refine J_region ?_
  refine JL_all [] rfl ?_
  (repeat' (first | refine J_seq ?_ | refine J_skip ?_ | refine J_yes rfl ?_ | refine J_no rfl ?_))
  refine J_block ?_
  (repeat' (first | refine J_seq ?_ | refine J_skip ?_ | refine J_yes rfl ?_ | refine J_no rfl ?_))
  refine J_region ?_
  refine JL_run [] rfl ?_
  refine JL_val [] (OpV_blk 0 rfl rfl rfl rfl) rfl ?_
  refine JL_run [] rfl ?_
  by_cases h1 : N.nodes < 2
  · refine JL_set 14 (v' := .bool true) rfl (congrArg Value.bool (cdec_yes h1)) ?_
    refine JL_all [3] rfl ?_
    refine J_yes rfl ?_
    (repeat' (first | refine J_seq ?_ | refine J_skip ?_ | refine J_yes rfl ?_ | refine J_no rfl ?_))
    refine J_region ?_
    refine JL_all [] rfl ?_
    refine J_drop [] (by decide) rfl (J_ret ⟨_, rfl, ?_, rfl⟩)
    unfold checkZ; rw [if_pos (.inl h1)]; rfl
  refine JL_set 14 (v' := .bool false) rfl (congrArg Value.bool (cdec_no h1)) ?_
  refine JL_run [3] rfl ?_
  refine JL_val [3] (OpV_blk 0 rfl rfl rfl rfl) rfl ?_
  refine JL_all [3] rfl ?_
  refine J_dec rfl (fun h2 => ?_) (fun h2 => ?_)
  · (repeat' (first | refine J_seq ?_ | refine J_skip ?_ | refine J_yes rfl ?_ | refine J_no rfl ?_))
    refine J_region ?_
    refine JL_all [] rfl ?_
    refine J_drop [] (by decide) rfl (J_ret ⟨_, rfl, ?_, rfl⟩)
    unfold checkZ; rw [if_pos (.inr h2)]; rfl
  have c1 : ¬ (N.nodes < 2 ∨ 500 < N.nodes) := by omega
  (repeat' (first | refine J_seq ?_ | refine J_skip ?_ | refine J_yes rfl ?_ | refine J_no rfl ?_))
  refine J_region ?_
  refine JL_run [] rfl ?_
  refine JL_val [] (OpV_blk 0 rfl rfl rfl rfl) rfl ?_
  refine JL_callR [] (there_fn N A c p N.src) rfl rfl rfl rfl (by kernel_rfl) ⟨⟨0, _, by simp, rfl, shows_blk _ _ _ (0, 0), .inr rfl⟩, trivial⟩ (fun _ => rfl) ?_
  rintro v H' ⟨rfl, rfl⟩
  refine ⟨rfl, ?_⟩
  refine JL_run [] rfl ?_
  by_cases h3 : there N N.src
  case neg =>
    refine JL_set 25 (v' := .bool true) rfl (congrArg Value.bool (by rw [cdec_no h3]; rfl)) ?_
    refine JL_all [5] rfl ?_
    refine J_yes rfl ?_
    (repeat' (first | refine J_seq ?_ | refine J_skip ?_ | refine J_yes rfl ?_ | refine J_no rfl ?_))
    refine J_region ?_
    refine JL_all [] rfl ?_
    refine J_drop [] (by decide) rfl (J_ret ⟨_, rfl, ?_, rfl⟩)
    unfold checkZ; rw [if_neg c1, if_pos (fun hc => h3 hc.1)]; rfl
  refine JL_set 25 (v' := .bool false) rfl (congrArg Value.bool (by rw [cdec_yes h3]; rfl)) ?_
  refine JL_run [5] rfl ?_
  refine JL_val [5] (OpV_blk 0 rfl rfl rfl rfl) rfl ?_
  refine JL_callR [5] (there_fn N A c p N.snk) rfl rfl rfl rfl (by kernel_rfl) ⟨⟨0, _, by simp, rfl, shows_blk _ _ _ (0, 0), .inr rfl⟩, trivial⟩ (fun _ => rfl) ?_
  rintro v H' ⟨rfl, rfl⟩
  refine ⟨rfl, ?_⟩
  refine JL_run [5] rfl ?_
  by_cases h4 : there N N.snk
  case neg =>
    refine JL_set 19 (v' := .bool true) rfl (congrArg Value.bool (by rw [cdec_no h4]; rfl)) ?_
    refine JL_nil ?_
    refine J_yes rfl ?_
    (repeat' (first | refine J_seq ?_ | refine J_skip ?_ | refine J_yes rfl ?_ | refine J_no rfl ?_))
    refine J_region ?_
    refine JL_all [] rfl ?_
    refine J_drop [] (by decide) rfl (J_ret ⟨_, rfl, ?_, rfl⟩)
    unfold checkZ; rw [if_neg c1, if_pos (fun hc => h4 hc.2)]; rfl
  refine JL_set 19 (v' := .bool false) rfl (congrArg Value.bool (by rw [cdec_yes h4]; rfl)) ?_
  refine JL_nil ?_
  refine J_no rfl ?_
  have c2 : ¬ ¬ (there N N.src ∧ there N N.snk) := fun h => h ⟨h3, h4⟩
  (repeat' (first | refine J_seq ?_ | refine J_skip ?_ | refine J_yes rfl ?_ | refine J_no rfl ?_))
  refine J_region ?_
  refine JL_run [] rfl ?_
  refine JL_val [] (OpV_blk 0 rfl rfl rfl rfl) rfl ?_
  refine JL_run [] rfl ?_
  refine JL_val [] (OpV_blk 0 rfl rfl rfl rfl) rfl ?_
  refine JL_all [] rfl ?_
  refine J_dec rfl (fun h5 => ?_) (fun h5 => ?_)
  · (repeat' (first | refine J_seq ?_ | refine J_skip ?_ | refine J_yes rfl ?_ | refine J_no rfl ?_))
    refine J_region ?_
    refine JL_all [] rfl ?_
    refine J_drop [] (by decide) rfl (J_ret ⟨_, rfl, ?_, rfl⟩)
    unfold checkZ; rw [if_neg c1, if_neg c2, if_pos h5]; rfl
  (repeat' (first | refine J_seq ?_ | refine J_skip ?_ | refine J_yes rfl ?_ | refine J_no rfl ?_))
  refine J_region ?_
  refine JL_run [] rfl ?_
  refine JL_val [] (OpV_blk 0 rfl rfl rfl rfl) rfl ?_
  refine JL_all [] rfl ?_
  refine J_dec rfl (fun h6 => ?_) (fun h6 => J_skip ?_)
  · (repeat' (first | refine J_seq ?_ | refine J_skip ?_ | refine J_yes rfl ?_ | refine J_no rfl ?_))
    refine J_region ?_
    refine JL_all [] rfl ?_
    refine J_drop [] (by decide) rfl (J_ret ⟨_, rfl, ?_, rfl⟩)
    unfold checkZ; rw [if_neg c1, if_neg c2, if_neg h5, if_pos (by omega)]; rfl
  have hck : checkZ N = badArc N 0 N.arcs := by unfold checkZ; rw [if_neg c1, if_neg c2, if_neg h5, if_neg (by omega)]
  rw [hck]
  (repeat' (first | refine J_seq ?_ | refine J_skip ?_ | refine J_yes rfl ?_ | refine J_no rfl ?_))
  refine J_region ?_
  refine JL_all [] rfl ?_
  (repeat' (first | refine J_seq ?_ | refine J_skip ?_ | refine J_yes rfl ?_ | refine J_no rfl ?_))
  refine J_region ?_
  refine JL_run [] rfl ?_
  refine JL_val [] (OpV_blk 0 rfl rfl rfl rfl) rfl ?_
  refine JL_all [] rfl ?_
  refine J_block ?_
  refine J_loop (σ := Nat × Int) (fun s => [(46, .int .i64 s.1), (45, .int .i64 N.arcs.length), (44, .slice A N.arcs.length c), (4, .int .i64 s.2), (3, .func (.func 76) #[] #[.pointer (some ⟨p, 0, none⟩)]), (1, .pointer (some ⟨p, 0, none⟩))])
    (fun s => [blk p 27 (netC N A c), .seg b o (arcs N.arcs)]) (fun s => s.1 ≤ N.arcs.length ∧ inB s.2 ∧ badArc N 0 N.arcs = badArc N s.2 (N.arcs.drop s.1)) (fun s => N.arcs.length - s.1)
    (0, 0) [0, 1] ⟨rfl, rfl, rfl, rfl, rfl, rfl, trivial⟩ (by decide) rfl ⟨Nat.zero_le _, by decide, rfl⟩ ?_
  rintro ⟨k, n⟩ ⟨hk, hn, hbad⟩
  simp only at hk hn hbad ⊢
  (repeat' (first | refine J_seq ?_ | refine J_skip ?_ | refine J_yes rfl ?_ | refine J_no rfl ?_))
  refine J_region ?_
  refine JL_all [] rfl ?_
  refine J_seq (J_dec rfl (fun hlt => J_skip ?_) (fun hge => J_exit ?_))
  · have hlt : k < N.arcs.length := by omega
    obtain rfl := hA (by intro h; rw [h] at hlt; simp at hlt)
    obtain ⟨x, hx⟩ : ∃ x, N.arcs[k]? = some x := ⟨N.arcs[k], List.getElem?_eq_getElem hlt⟩
    have hxB := hN.arc x (List.mem_of_getElem? hx)
    have hd : N.arcs.drop k = x :: N.arcs.drop (k + 1) := by
      obtain ⟨_, rfl⟩ := List.getElem?_eq_some_iff.1 hx
      rw [List.drop_eq_getElem_cons hlt]
    rw [hd, badArc] at hbad
    refine J_seq (J_block ?_)
    (repeat' (first | refine J_seq ?_ | refine J_skip ?_ | refine J_yes rfl ?_ | refine J_no rfl ?_))
    refine J_region ?_
    refine JL_run [] rfl ?_
    refine JL_val [] (idxN rfl rfl rfl rfl rfl hlt) rfl ?_
    refine JL_val [] (ldseg 1 rfl rfl rfl rfl (readT_arc hx)) rfl ?_
    refine JL_alloc rfl rfl rfl (fun _ => rfl) fun q => ?_
    refine JL_store 0 rfl rfl rfl rfl rfl [] rfl ?_
    refine JL_nil ?_
    (repeat' (first | refine J_seq ?_ | refine J_skip ?_ | refine J_yes rfl ?_ | refine J_no rfl ?_))
    refine J_region ?_
    refine JL_run [] rfl ?_
    refine JL_val [] (OpV_blk 0 rfl rfl rfl rfl) rfl ?_
    refine JL_callR [] (add_fn hn hxB.2.2) rfl rfl rfl rfl (by kernel_rfl) trivial (fun _ => rfl) ?_
    rintro v H' ⟨rfl, rfl⟩
    refine ⟨rfl, ?_⟩
    refine JL_all [] rfl ?_
    (repeat' (first | refine J_seq ?_ | refine J_skip ?_ | refine J_yes rfl ?_ | refine J_no rfl ?_))
    refine J_block ?_
    (repeat' (first | refine J_seq ?_ | refine J_skip ?_ | refine J_yes rfl ?_ | refine J_no rfl ?_))
    refine J_region ?_
    refine JL_run [] rfl ?_
    refine JL_val [] (OpV_blk 0 rfl rfl rfl rfl) rfl ?_
    refine JL_callR [] (there_fn N (some ⟨b, o, none⟩) c p x.fr) rfl rfl rfl rfl (by kernel_rfl) ⟨⟨1, _, by simp, rfl, shows_blk _ _ _ (0, 0), .inr rfl⟩, trivial⟩ (fun _ => rfl) ?_
    rintro v H' ⟨rfl, rfl⟩
    refine ⟨rfl, ?_⟩
    refine JL_run [] rfl ?_
    by_cases h7 : there N x.fr
    case neg =>
      refine JL_set 63 (v' := .bool true) rfl (congrArg Value.bool (by rw [cdec_no h7]; rfl)) ?_
      refine JL_all [5] rfl ?_
      refine J_yes rfl ?_
      (repeat' (first | refine J_seq ?_ | refine J_skip ?_ | refine J_yes rfl ?_ | refine J_no rfl ?_))
      refine J_region ?_
      refine JL_all [] rfl ?_
      refine J_drop [] (by decide) rfl (J_ret ⟨_, rfl, ?_, rfl⟩)
      rw [hbad, if_pos (fun h => h7 h.1)]; rfl
    refine JL_set 63 (v' := .bool false) rfl (congrArg Value.bool (by rw [cdec_yes h7]; rfl)) ?_
    refine JL_run [5] rfl ?_
    refine JL_val [5] (OpV_blk 0 rfl rfl rfl rfl) rfl ?_
    refine JL_callR [5] (there_fn N (some ⟨b, o, none⟩) c p x.to) rfl rfl rfl rfl (by kernel_rfl) ⟨⟨1, _, by simp, rfl, shows_blk _ _ _ (0, 0), .inr rfl⟩, trivial⟩ (fun _ => rfl) ?_
    rintro v H' ⟨rfl, rfl⟩
    refine ⟨rfl, ?_⟩
    refine JL_run [5] rfl ?_
    by_cases h8 : there N x.to
    case neg =>
      refine JL_set 57 (v' := .bool true) rfl (congrArg Value.bool (by rw [cdec_no h8]; rfl)) ?_
      refine JL_nil ?_
      refine J_yes rfl ?_
      (repeat' (first | refine J_seq ?_ | refine J_skip ?_ | refine J_yes rfl ?_ | refine J_no rfl ?_))
      refine J_region ?_
      refine JL_all [] rfl ?_
      refine J_drop [] (by decide) rfl (J_ret ⟨_, rfl, ?_, rfl⟩)
      rw [hbad, if_pos (fun h => h8 h.2)]; rfl
    refine JL_set 57 (v' := .bool false) rfl (congrArg Value.bool (by rw [cdec_yes h8]; rfl)) ?_
    refine JL_nil ?_
    refine J_no rfl ?_
    rw [if_neg (fun h => h ⟨h7, h8⟩)] at hbad
    (repeat' (first | refine J_seq ?_ | refine J_skip ?_ | refine J_yes rfl ?_ | refine J_no rfl ?_))
    refine J_region ?_
    refine JL_run [] rfl ?_
    refine JL_val [] (OpV_blk 0 rfl rfl rfl rfl) rfl ?_
    refine JL_all [] rfl ?_
    refine J_dec rfl (fun h9 => ?_) (fun h9 => ?_)
    · (repeat' (first | refine J_seq ?_ | refine J_skip ?_ | refine J_yes rfl ?_ | refine J_no rfl ?_))
      refine J_region ?_
      refine JL_all [] rfl ?_
      refine J_drop [] (by decide) rfl (J_ret ⟨_, rfl, ?_, rfl⟩)
      rw [hbad, if_pos h9]; rfl
    rw [if_neg h9] at hbad
    by_cases hin : inB (n + x.cap)
    case neg =>
      rw [orErr_out hin]
      (repeat' (first | refine J_seq ?_ | refine J_skip ?_ | refine J_yes rfl ?_ | refine J_no rfl ?_))
      refine J_region ?_
      refine JL_run [] rfl ?_
      refine JL_set 77 (v' := .bool true) rfl (congrArg Value.bool (cdec_yes (by simp))) ?_
      refine JL_all [2] rfl ?_
      refine J_yes rfl ?_
      (repeat' (first | refine J_seq ?_ | refine J_skip ?_ | refine J_yes rfl ?_ | refine J_no rfl ?_))
      refine J_region ?_
      refine JL_all [] rfl ?_
      refine J_drop [] (by decide) rfl (J_ret ⟨_, rfl, ?_, rfl⟩)
      rw [hbad, if_pos (.inl hin)]; rfl
    rw [orErr_in hin]
    (repeat' (first | refine J_seq ?_ | refine J_skip ?_ | refine J_yes rfl ?_ | refine J_no rfl ?_))
    refine J_region ?_
    refine JL_run [] rfl ?_
    refine JL_set 77 (v' := .bool false) rfl (congrArg Value.bool (cdec_no (by simp))) ?_
    refine JL_all [2] rfl ?_
    refine J_dec rfl (fun h10 => ?_) (fun h10 => J_skip ?_)
    · (repeat' (first | refine J_seq ?_ | refine J_skip ?_ | refine J_yes rfl ?_ | refine J_no rfl ?_))
      refine J_region ?_
      refine JL_all [] rfl ?_
      refine J_drop [] (by decide) rfl (J_ret ⟨_, rfl, ?_, rfl⟩)
      rw [hbad, if_pos (.inr h10)]; rfl
    rw [if_neg (fun h => h.elim (fun h => h hin) h10)] at hbad
    (repeat' (first | refine J_seq ?_ | refine J_skip ?_ | refine J_yes rfl ?_ | refine J_no rfl ?_))
    refine J_region ?_
    refine JL_all [] rfl ?_
    (repeat' (first | refine J_seq ?_ | refine J_skip ?_ | refine J_yes rfl ?_ | refine J_no rfl ?_))
    refine J_region ?_
    refine JL_all [] rfl ?_
    refine ⟨(k + 1, n + x.cap), [1, 2], ⟨?_, rfl, rfl, rfl, rfl, rfl, trivial⟩, by decide, rfl, ⟨by simp only; omega, hin, hbad⟩, by simp only; omega⟩
    show some (Value.int .i64 (IntKind.i64.wrap ((k : Int) + 1))) = _
    rw [w64 (by omega)]; rfl
  · have hk' : k = N.arcs.length := by omega
    subst hk'
    rw [List.drop_length, badArc] at hbad
    (repeat' (first | refine J_seq ?_ | refine J_skip ?_ | refine J_yes rfl ?_ | refine J_no rfl ?_))
    refine J_region ?_
    refine JL_all [] rfl ?_
    refine J_drop [] (by decide) rfl (J_ret ⟨_, rfl, by rw [hbad]; rfl, rfl⟩)
theorem badArc_zero (N : Net) : ∀ (l : List Arc) (s : Int), 0 ≤ s → s ≤ 4611686018427387903 → badArc N s l = 0 → (∀ a ∈ l, (1 ≤ a.fr ∧ a.fr ≤ N.nodes) ∧ (1 ≤ a.to ∧ a.to ≤ N.nodes) ∧ 0 ≤ a.cap) ∧ s + (l.map (·.cap)).sum ≤ 4611686018427387903
  | [], s, _, h, _ => ⟨fun a ha => (by cases ha), by simpa using h⟩
  | a :: l, s, h0, h1, hz => by
    rw [badArc] at hz
    split at hz
    · simp at hz
    · rename_i ht
      split at hz
      · simp at hz
      · rename_i hc
        split at hz
        · simp at hz
        · rename_i hs
          obtain ⟨i1, i2⟩ := badArc_zero N l (s + a.cap) (by omega) (by omega) hz
          have ht' := Classical.not_not.1 ht
          refine ⟨fun x hx => ?_, by simp only [List.map_cons, List.sum_cons]; omega⟩
          rcases List.mem_cons.1 hx with rfl | hx
          · exact ⟨ht'.1, ht'.2, by omega⟩
          · exact i1 x hx
theorem checkZ_zero {N : Net} (h : checkZ N = 0) : N.Right := by
  unfold checkZ at h
  split at h
  · simp at h
  · rename_i h1
    split at h
    · simp at h
    · rename_i h2
      split at h
      · simp at h
      · rename_i h3
        split at h
        · simp at h
        · rename_i h4
          have h2' := Classical.not_not.1 h2
          obtain ⟨i1, i2⟩ := badArc_zero N N.arcs 0 (by omega) (by omega) h
          exact ⟨by omega, h2'.1, h2'.2, h3, by omega, i1, by omega⟩
end Go.Proofs.Ytbhfbpeldcnpfaa
