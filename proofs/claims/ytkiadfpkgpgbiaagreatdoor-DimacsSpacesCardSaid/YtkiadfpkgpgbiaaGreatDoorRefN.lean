
/- The references' words: what is wrong with a network. -/
import Derived.Test.YtkiadfpkgpgbiaaGreatDoorQC
import Derived.Test.YtkiadfpkgpgbiaaGreatDoorEngO
set_option linter.unusedVariables false
set_option linter.unusedSimpArgs false
namespace Go.Proofs.YtkiadfpkgpgbiaaGreatDoor
open Go.RowKit
set_option maxHeartbeats 2000000 in
theorem rcheck_fn (N : Net) (hN : N.Fits) (A : Option Addr) (c b o : Nat) (hA : N.arcs ≠ [] → A = some ⟨b, o, none⟩) : Fn 19 [netV N A c] [] [.seg b o (arcs N.arcs)] fun v H' => v = .int .i64 (checkZ N) ∧ H' = [] := by
  have hln := hN.len
  refine Fn_of Tryz.func19 rfl rfl fun w0 => ?_
  (repeat' (first | refine J_seq ?_ | refine J_skip ?_ | refine J_yes rfl ?_ | refine J_no rfl ?_))
  refine J_region ?_
  refine JL_box (cs := netC N A c) rfl rfl rfl (fun _ => rfl) fun p => ?_
  refine JL_all [] rfl ?_
  refine J_seq ?_
  refine J_cut [(13, .bool (cdec (N.nodes < 2 ∨ 500 < N.nodes))), (1, .pointer (some ⟨p, 0, none⟩))] [blk p 24 (netC N A c), .seg b o (arcs N.arcs)] ?_ ?_
  · (repeat' (first | refine J_seq ?_ | refine J_skip ?_ | refine J_yes rfl ?_ | refine J_no rfl ?_))
    refine J_region ?_
    refine JL_run [] rfl ?_
    refine JL_val [] (v := .int .i64 N.nodes) (OpV_blk 0 rfl rfl rfl rfl) rfl ?_
    refine JL_evO (gs := [999]) rfl ?_
    refine JL_evO (gs := [999]) rfl ?_
    by_cases h1 : N.nodes < 2
    · refine JL_set 9 (v' := .bool true) rfl (congrArg Value.bool (cdec_yes h1)) ?_
      refine JL_all [3] rfl ?_
      exact ⟨[0, 1], ⟨congrArg some (congrArg Value.bool (cdec_yes (.inl h1)).symm), rfl, trivial⟩, by decide, rfl⟩
    · refine JL_set 9 (v' := .bool false) rfl (congrArg Value.bool (cdec_no h1)) ?_
      refine JL_run [3] rfl ?_
      refine JL_val [3] (v := .int .i64 N.nodes) (OpV_blk 0 rfl rfl rfl rfl) rfl ?_
      refine JL_all [3] rfl ?_
      exact ⟨[0, 1], ⟨congrArg some (congrArg Value.bool (cdec_iff ⟨fun h => .inr h, fun h => h.resolve_left h1⟩)), rfl, trivial⟩, by decide, rfl⟩
  refine J_dec rfl (fun h => ?_) (fun c1 => J_skip ?_)
  · (repeat' (first | refine J_seq ?_ | refine J_skip ?_ | refine J_yes rfl ?_ | refine J_no rfl ?_))
    refine J_region ?_
    refine JL_all [] rfl ?_
    refine J_drop [] (by decide) rfl (J_ret ⟨_, rfl, ?_, rfl⟩)
    unfold checkZ; rw [if_pos h]; rfl
  refine J_seq ?_
  refine J_cut [(35, .bool (cdec (¬ (there N N.src ∧ there N N.snk)))), (1, .pointer (some ⟨p, 0, none⟩))] [blk p 24 (netC N A c), .seg b o (arcs N.arcs)] ?_ ?_
  · have yes : ∀ {q : Prop}, (q → ¬ (there N N.src ∧ there N N.snk)) → q → some (Value.bool true) = some (Value.bool (cdec (¬ (there N N.src ∧ there N N.snk)))) := fun h hq => congrArg some (congrArg Value.bool (cdec_yes (h hq)).symm)
    (repeat' (first | refine J_seq ?_ | refine J_skip ?_ | refine J_yes rfl ?_ | refine J_no rfl ?_))
    refine J_region ?_
    refine JL_run [] rfl ?_
    refine JL_val [] (v := .int .i64 N.src) (OpV_blk 0 rfl rfl rfl rfl) rfl ?_
    refine JL_evO (gs := [999]) rfl ?_
    refine JL_evO (gs := [999]) rfl ?_
    by_cases h1 : N.src < 1
    · refine JL_set 17 (v' := .bool true) rfl (congrArg Value.bool (cdec_yes h1)) ?_
      refine JL_all [3, 10, 15] rfl ?_
      exact ⟨[0, 1], ⟨yes (fun (h : N.src < 1) => fun hc => by unfold there at hc; omega) h1, rfl, trivial⟩, by decide, rfl⟩
    refine JL_set 17 (v' := .bool false) rfl (congrArg Value.bool (cdec_no h1)) ?_
    refine JL_run [3] rfl ?_
    refine JL_val [3] (v := .int .i64 N.src) (OpV_blk 0 rfl rfl rfl rfl) rfl ?_
    refine JL_run [3] rfl ?_
    refine JL_val [3] (v := .int .i64 N.nodes) (OpV_blk 0 rfl rfl rfl rfl) rfl ?_
    refine JL_run [3] rfl ?_
    by_cases h2 : N.nodes < N.src
    · refine JL_set 24 (v' := .bool true) rfl (congrArg Value.bool (cdec_yes h2)) ?_
      refine JL_all [3, 10, 15] rfl ?_
      exact ⟨[0, 1], ⟨yes (fun (h : N.nodes < N.src) => fun hc => by unfold there at hc; omega) h2, rfl, trivial⟩, by decide, rfl⟩
    refine JL_set 24 (v' := .bool false) rfl (congrArg Value.bool (cdec_no h2)) ?_
    refine JL_run [3, 10] rfl ?_
    refine JL_val [3, 10] (v := .int .i64 N.snk) (OpV_blk 0 rfl rfl rfl rfl) rfl ?_
    refine JL_run [3, 10] rfl ?_
    by_cases h3 : N.snk < 1
    · refine JL_set 29 (v' := .bool true) rfl (congrArg Value.bool (cdec_yes h3)) ?_
      refine JL_all [3, 10, 15] rfl ?_
      exact ⟨[0, 1], ⟨yes (fun (h : N.snk < 1) => fun hc => by unfold there at hc; omega) h3, rfl, trivial⟩, by decide, rfl⟩
    refine JL_set 29 (v' := .bool false) rfl (congrArg Value.bool (cdec_no h3)) ?_
    refine JL_run [3, 10, 15] rfl ?_
    refine JL_val [3, 10, 15] (v := .int .i64 N.snk) (OpV_blk 0 rfl rfl rfl rfl) rfl ?_
    refine JL_run [3, 10, 15] rfl ?_
    refine JL_val [3, 10, 15] (v := .int .i64 N.nodes) (OpV_blk 0 rfl rfl rfl rfl) rfl ?_
    refine JL_all [3, 10, 15] rfl ?_
    exact ⟨[0, 1], ⟨congrArg some (congrArg Value.bool (cdec_iff ⟨fun h hc => by unfold there at hc; omega, fun h => Classical.byContradiction fun h' => h (by unfold there; omega)⟩)), rfl, trivial⟩, by decide, rfl⟩
  refine J_dec rfl (fun h => ?_) (fun c2 => J_skip ?_)
  · (repeat' (first | refine J_seq ?_ | refine J_skip ?_ | refine J_yes rfl ?_ | refine J_no rfl ?_))
    refine J_region ?_
    refine JL_all [] rfl ?_
    refine J_drop [] (by decide) rfl (J_ret ⟨_, rfl, ?_, rfl⟩)
    unfold checkZ; rw [if_neg c1, if_pos h]; rfl
  (repeat' (first | refine J_seq ?_ | refine J_skip ?_ | refine J_yes rfl ?_ | refine J_no rfl ?_))
  refine J_region ?_
  refine JL_run [] rfl ?_
  refine JL_val [] (v := .int .i64 N.src) (OpV_blk 0 rfl rfl rfl rfl) rfl ?_
  refine JL_run [] rfl ?_
  refine JL_val [] (v := .int .i64 N.snk) (OpV_blk 0 rfl rfl rfl rfl) rfl ?_
  refine JL_all [] rfl ?_
  refine J_dec rfl (fun h5 => ?_) (fun h5 => J_skip ?_)
  · (repeat' (first | refine J_seq ?_ | refine J_skip ?_ | refine J_yes rfl ?_ | refine J_no rfl ?_))
    refine J_region ?_
    refine JL_all [] rfl ?_
    refine J_drop [] (by decide) rfl (J_ret ⟨_, rfl, ?_, rfl⟩)
    unfold checkZ; rw [if_neg c1, if_neg c2, if_pos h5]; rfl
  (repeat' (first | refine J_seq ?_ | refine J_skip ?_ | refine J_yes rfl ?_ | refine J_no rfl ?_))
  refine J_region ?_
  refine JL_run [] rfl ?_
  refine JL_val [] (v := .slice A N.arcs.length c) (OpV_blk 0 rfl rfl rfl rfl) rfl ?_
  refine JL_all [] rfl ?_
  refine J_dec rfl (fun h6 => ?_) (fun h6 => J_skip ?_)
  · (repeat' (first | refine J_seq ?_ | refine J_skip ?_ | refine J_yes rfl ?_ | refine J_no rfl ?_))
    refine J_region ?_
    refine JL_all [] rfl ?_
    refine J_drop [] (by decide) rfl (J_ret ⟨_, rfl, ?_, rfl⟩)
    unfold checkZ; rw [if_neg c1, if_neg c2, if_neg h5, if_pos (by omega)]; rfl
  have hck : checkZ N = badArc N 0 N.arcs := by unfold checkZ; rw [if_neg c1, if_neg c2, if_neg h5, if_neg (by omega)]
  rw [hck]
  (repeat' (first | refine J_seq ?_ | refine J_skip ?_ | refine J_yes rfl ?_ | refine J_no rfl ?_))
  refine J_region ?_
  refine JL_all [] rfl ?_
  (repeat' (first | refine J_seq ?_ | refine J_skip ?_ | refine J_yes rfl ?_ | refine J_no rfl ?_))
  refine J_region ?_
  refine JL_all [] rfl ?_
  (repeat' (first | refine J_seq ?_ | refine J_skip ?_ | refine J_yes rfl ?_ | refine J_no rfl ?_))
  refine J_block ?_
  refine J_loopF (σ := Nat × Int) (fun s => [(4, .int .i64 (s.1 : Int)), (3, .int .i64 (4611686018427387903 - s.2)), (1, .pointer (some ⟨p, 0, none⟩))])
    (fun s => [blk p 24 (netC N A c), .seg b o (arcs N.arcs)]) (fun s => s.1 ≤ N.arcs.length ∧ (0 ≤ s.2 ∧ s.2 ≤ 4611686018427387903) ∧ badArc N 0 N.arcs = badArc N s.2 (N.arcs.drop s.1)) (fun s => N.arcs.length - s.1)
    (0, 0) ⟨rfl, rfl, rfl, trivial⟩ Fit.refl ⟨Nat.zero_le _, by decide, rfl⟩ ?_
  rintro ⟨k, n⟩ ⟨hk, hn, hbad⟩
  simp only at hk hn hbad ⊢
  (repeat' (first | refine J_seq ?_ | refine J_skip ?_ | refine J_yes rfl ?_ | refine J_no rfl ?_))
  refine J_region ?_
  refine JL_run [] rfl ?_
  refine JL_val [] (v := .slice A N.arcs.length c) (OpV_blk 0 rfl rfl rfl rfl) rfl ?_
  refine JL_all [] rfl ?_
  (repeat' (first | refine J_seq ?_ | refine J_skip ?_ | refine J_yes rfl ?_ | refine J_no rfl ?_))
  refine J_dec rfl (fun hlt => J_skip ?_) (fun hge => J_exit ?_)
  · have hlt : k < N.arcs.length := by omega
    obtain rfl := hA (by intro h; rw [h] at hlt; simp at hlt)
    obtain ⟨x, hx⟩ : ∃ x, N.arcs[k]? = some x := ⟨N.arcs[k], List.getElem?_eq_getElem hlt⟩
    have hxB := hN.arc x (List.mem_of_getElem? hx)
    have hd : N.arcs.drop k = x :: N.arcs.drop (k + 1) := by
      obtain ⟨_, rfl⟩ := List.getElem?_eq_some_iff.1 hx
      rw [List.drop_eq_getElem_cons hlt]
    rw [hd, badArc] at hbad
    refine J_seq (J_block ?_)
    (repeat' (first | refine J_seq ?_ | refine J_skip ?_ | refine J_yes rfl ?_ | refine J_no rfl ?_))
    refine J_region ?_
    refine JL_run [] rfl ?_
    refine JL_val [] (v := .slice (some ⟨b, o, none⟩) N.arcs.length c) (OpV_blk 0 rfl rfl rfl rfl) rfl ?_
    refine JL_run [] rfl ?_
    refine JL_val [] (idxN rfl rfl rfl rfl rfl hlt) rfl ?_
    refine JL_val [] (ldseg 1 rfl rfl rfl rfl (readT_arc hx)) rfl ?_
    refine JL_alloc rfl rfl rfl (fun _ => rfl) fun q => ?_
    refine JL_store 0 rfl rfl rfl rfl rfl [] rfl ?_
    refine JL_nil ?_
    refine J_seq ?_
    refine J_cut [(78, .bool (cdec (¬ (there N x.fr ∧ there N x.to)))), (5, .pointer (some ⟨q, 0, none⟩)), (4, .int .i64 (k : Int)), (3, .int .i64 (4611686018427387903 - n)), (1, .pointer (some ⟨p, 0, none⟩))] [blk q 44 [.int .i64 x.fr, .int .i64 x.to, .int .i64 x.cap], blk p 24 (netC N (some ⟨b, o, none⟩) c), .seg b o (arcs N.arcs)] ?_ ?_
    · have yes : ∀ {q : Prop}, (q → ¬ (there N x.fr ∧ there N x.to)) → q → some (Value.bool true) = some (Value.bool (cdec (¬ (there N x.fr ∧ there N x.to)))) := fun h hq => congrArg some (congrArg Value.bool (cdec_yes (h hq)).symm)
      (repeat' (first | refine J_seq ?_ | refine J_skip ?_ | refine J_yes rfl ?_ | refine J_no rfl ?_))
      refine J_region ?_
      refine JL_run [] rfl ?_
      refine JL_val [] (v := .int .i64 x.fr) (OpV_blk 0 rfl rfl rfl rfl) rfl ?_
      refine JL_evO (gs := [999]) rfl ?_
      refine JL_evO (gs := [999]) rfl ?_
      by_cases h1 : x.fr < 1
      · refine JL_set 60 (v' := .bool true) rfl (congrArg Value.bool (cdec_yes h1)) ?_
        refine JL_all [3, 10, 15] rfl ?_
        exact ⟨[0, 1, 2], ⟨yes (fun (h : x.fr < 1) => fun hc => by unfold there at hc; omega) h1, rfl, rfl, rfl, rfl, trivial⟩, by decide, rfl⟩
      refine JL_set 60 (v' := .bool false) rfl (congrArg Value.bool (cdec_no h1)) ?_
      refine JL_run [3] rfl ?_
      refine JL_val [3] (v := .int .i64 x.fr) (OpV_blk 0 rfl rfl rfl rfl) rfl ?_
      refine JL_run [3] rfl ?_
      refine JL_val [3] (v := .int .i64 N.nodes) (OpV_blk 1 rfl rfl rfl rfl) rfl ?_
      refine JL_run [3] rfl ?_
      by_cases h2 : N.nodes < x.fr
      · refine JL_set 67 (v' := .bool true) rfl (congrArg Value.bool (cdec_yes h2)) ?_
        refine JL_all [3, 10, 15] rfl ?_
        exact ⟨[0, 1, 2], ⟨yes (fun (h : N.nodes < x.fr) => fun hc => by unfold there at hc; omega) h2, rfl, rfl, rfl, rfl, trivial⟩, by decide, rfl⟩
      refine JL_set 67 (v' := .bool false) rfl (congrArg Value.bool (cdec_no h2)) ?_
      refine JL_run [3, 10] rfl ?_
      refine JL_val [3, 10] (v := .int .i64 x.to) (OpV_blk 0 rfl rfl rfl rfl) rfl ?_
      refine JL_run [3, 10] rfl ?_
      by_cases h3 : x.to < 1
      · refine JL_set 72 (v' := .bool true) rfl (congrArg Value.bool (cdec_yes h3)) ?_
        refine JL_all [3, 10, 15] rfl ?_
        exact ⟨[0, 1, 2], ⟨yes (fun (h : x.to < 1) => fun hc => by unfold there at hc; omega) h3, rfl, rfl, rfl, rfl, trivial⟩, by decide, rfl⟩
      refine JL_set 72 (v' := .bool false) rfl (congrArg Value.bool (cdec_no h3)) ?_
      refine JL_run [3, 10, 15] rfl ?_
      refine JL_val [3, 10, 15] (v := .int .i64 x.to) (OpV_blk 0 rfl rfl rfl rfl) rfl ?_
      refine JL_run [3, 10, 15] rfl ?_
      refine JL_val [3, 10, 15] (v := .int .i64 N.nodes) (OpV_blk 1 rfl rfl rfl rfl) rfl ?_
      refine JL_all [3, 10, 15] rfl ?_
      exact ⟨[0, 1, 2], ⟨congrArg some (congrArg Value.bool (cdec_iff ⟨fun h hc => by unfold there at hc; omega, fun h => Classical.byContradiction fun h' => h (by unfold there; omega)⟩)), rfl, rfl, rfl, rfl, trivial⟩, by decide, rfl⟩
    refine J_dec rfl (fun h => ?_) (fun h7 => J_skip ?_)
    · (repeat' (first | refine J_seq ?_ | refine J_skip ?_ | refine J_yes rfl ?_ | refine J_no rfl ?_))
      refine J_region ?_
      refine JL_all [] rfl ?_
      refine J_drop [] (by decide) rfl (J_ret ⟨_, rfl, ?_, rfl⟩)
      rw [hbad, if_pos h]; rfl
    rw [if_neg h7] at hbad
    (repeat' (first | refine J_seq ?_ | refine J_skip ?_ | refine J_yes rfl ?_ | refine J_no rfl ?_))
    refine J_region ?_
    refine JL_run [] rfl ?_
    refine JL_val [] (v := .int .i64 x.cap) (OpV_blk 0 rfl rfl rfl rfl) rfl ?_
    refine JL_all [] rfl ?_
    refine J_dec rfl (fun h9 => ?_) (fun h9 => J_skip ?_)
    · (repeat' (first | refine J_seq ?_ | refine J_skip ?_ | refine J_yes rfl ?_ | refine J_no rfl ?_))
      refine J_region ?_
      refine JL_all [] rfl ?_
      refine J_drop [] (by decide) rfl (J_ret ⟨_, rfl, ?_, rfl⟩)
      rw [hbad, if_pos h9]; rfl
    rw [if_neg h9] at hbad
    (repeat' (first | refine J_seq ?_ | refine J_skip ?_ | refine J_yes rfl ?_ | refine J_no rfl ?_))
    refine J_region ?_
    refine JL_run [] rfl ?_
    refine JL_val [] (v := .int .i64 x.cap) (OpV_blk 0 rfl rfl rfl rfl) rfl ?_
    refine JL_all [] rfl ?_
    refine J_dec rfl (fun h10 => ?_) (fun h10 => J_skip ?_)
    · (repeat' (first | refine J_seq ?_ | refine J_skip ?_ | refine J_yes rfl ?_ | refine J_no rfl ?_))
      refine J_region ?_
      refine JL_all [] rfl ?_
      refine J_drop [] (by decide) rfl (J_ret ⟨_, rfl, ?_, rfl⟩)
      rw [hbad, if_pos (.inr (by omega))]; rfl
    have hx2 := hxB.2.2
    rw [if_neg (by unfold inB at hx2 ⊢; omega)] at hbad
    (repeat' (first | refine J_seq ?_ | refine J_skip ?_ | refine J_yes rfl ?_ | refine J_no rfl ?_))
    refine J_region ?_
    refine JL_run [] rfl ?_
    refine JL_val [] (v := .int .i64 x.cap) (OpV_blk 0 rfl rfl rfl rfl) rfl ?_
    refine JL_all [] rfl ?_
    (repeat' (first | refine J_seq ?_ | refine J_skip ?_ | refine J_yes rfl ?_ | refine J_no rfl ?_))
    refine J_region ?_
    refine JL_all [] rfl ?_
    refine ⟨(k + 1, n + x.cap), ⟨?_, ?_, rfl, trivial⟩, Fit.picks [1, 2] (by decide) rfl, ⟨by simp only; omega, by simp only; omega, hbad⟩, by simp only; omega⟩
    · show some (Value.int .i64 (IntKind.i64.wrap ((k : Int) + 1))) = _
      rw [w64 (by omega)]; rfl
    · show some (Value.int .i64 (IntKind.i64.wrap (4611686018427387903 - n - x.cap))) = _
      rw [w64 (by omega)]
      exact congrArg some (congrArg (Value.int .i64) (by omega))
  · have hk' : k = N.arcs.length := by omega
    subst hk'
    rw [List.drop_length, badArc] at hbad
    (repeat' (first | refine J_seq ?_ | refine J_skip ?_ | refine J_yes rfl ?_ | refine J_no rfl ?_))
    refine J_region ?_
    refine JL_all [] rfl ?_
    refine J_drop [] (by decide) rfl (J_ret ⟨_, rfl, by rw [hbad]; rfl, rfl⟩)
/-- What is wrong with amounts, of any network. -/
noncomputable def wrongZ (N : Net) (f : List Int) : Int := if checkZ N ≠ 0 then checkZ N else flowZ N f
end Go.Proofs.YtkiadfpkgpgbiaaGreatDoor
