
/- Chapter 4's networks of raw numbers. -/
import Derived.Test.YtkiadfpkgpgbiaaGreatDoorQB
set_option linter.unusedVariables false
set_option linter.unusedSimpArgs false
namespace Go.Proofs.YtkiadfpkgpgbiaaGreatDoor
open Go.RowKit
theorem pick4_fn {c n : Int} (hc : inB c) (hn : 0 < n) : Fn 12 [.int .i64 c, .int .i64 n] [] [] fun v H' => v = .int .i64 (pickZ c n) ∧ H' = [] := by
  unfold inB at hc
  refine Fn_of Tryz.func12 rfl rfl fun w0 => ?_
  (repeat' (first | refine J_seq ?_ | refine J_skip ?_ | refine J_yes rfl ?_ | refine J_no rfl ?_))
  refine J_region ?_
  refine JL_all [] rfl ?_
  refine J_cut [(0, .int .i64 (if c < 0 then - (c + 1) else c)), (1, .int .i64 n)] [] ?_ ?_
  · (repeat' (first | refine J_seq ?_ | refine J_skip ?_ | refine J_yes rfl ?_ | refine J_no rfl ?_))
    refine J_region ?_
    refine JL_all [] rfl ?_
    refine J_dec rfl (fun h => ?_) (fun h => J_skip ?_)
    · refine J_region (JL_all [] rfl ?_)
      refine ⟨[], ⟨?_, rfl, trivial⟩, by decide, rfl⟩
      show some (Value.int .i64 (IntKind.i64.wrap (0 - IntKind.i64.wrap (c + 1)))) = _
      rw [if_pos h, w64 (n := c + 1) (by omega), w64 (by omega), Int.zero_sub]
    · exact ⟨[], ⟨by rw [if_neg h]; rfl, rfl, trivial⟩, by decide, rfl⟩
  (repeat' (first | refine J_seq ?_ | refine J_skip ?_ | refine J_yes rfl ?_ | refine J_no rfl ?_))
  refine J_region ?_
  refine JL_run [] rfl ?_
  refine JL_val [] (OpV_rem rfl rfl rfl (by omega)) rfl ?_
  refine JL_all [] rfl ?_
  refine J_ret ⟨_, rfl, congrArg (Value.int .i64) ?_, rfl⟩
  unfold pickZ
  rw [Int.tmod_eq_emod_of_nonneg (by split <;> omega)]
theorem made4_fn (nodes ends : Int) (hn : inB nodes) (he : inB ends) (A : Option Addr) (c b o : Nat) (l : List Arc) (hA : l ≠ [] → A = some ⟨b, o, none⟩) (hl : ∀ x ∈ l, inB x.fr ∧ inB x.to ∧ inB x.cap) (hs : l.length ≤ 9223372036854775807) :
    Fn 10 [.int .i64 nodes, .int .i64 ends, .slice A l.length c] [] [.seg b o (arcs l)] fun v H' => ∃ (N : Net) (A' : Option Addr) (c' : Nat), N.Right ∧ N.nodes ≤ 9 ∧ N.arcs.length ≤ 24 ∧ (∀ a ∈ N.arcs, a.cap ≤ 1000000) ∧ v = netV N A' c' ∧
      H' = [.own (.slice A' N.arcs.length c') 44 3 N.arcs.length (arcs N.arcs)] := by
  refine Fn_ofC Tryz.func10 rfl rfl fun w0 => ?_
  (repeat' (first | refine J_seq ?_ | refine J_skip ?_ | refine J_yes rfl ?_ | refine J_no rfl ?_))
  refine J_region ?_
  refine JL_alloc rfl rfl rfl (fun _ => rfl) fun b6 => ?_
  refine JL_nil ?_
  have hp1 := pickZ_in (c := nodes) (n := 8) (by decide)
  (repeat' (first | refine J_seq ?_ | refine J_skip ?_ | refine J_yes rfl ?_ | refine J_no rfl ?_))
  refine J_region ?_
  refine JL_run [] rfl ?_
  refine JL_callR [] (pick4_fn hn (by decide)) rfl rfl rfl rfl (by kernel_rfl) trivial (fun _ => rfl) ?_
  rintro v H' ⟨rfl, rfl⟩
  refine ⟨rfl, ?_⟩
  refine JL_run [] rfl ?_
  obtain ⟨nn, hnn⟩ : ∃ x, x = 2 + pickZ nodes 8 := ⟨_, rfl⟩
  refine JL_set 12 (v' := .int .i64 nn) rfl (congrArg (Value.int .i64) ((w64 (by omega)).trans hnn.symm)) ?_
  refine JL_run [] rfl ?_
  refine JL_val [] (OpV_build rfl rfl rfl rfl rfl rfl) rfl ?_
  refine JL_alloc rfl rfl rfl (fun _ => rfl) fun b7 => ?_
  refine JL_store 0 rfl rfl rfl rfl rfl [] rfl ?_
  refine JL_nil ?_
  (repeat' (first | refine J_seq ?_ | refine J_skip ?_ | refine J_yes rfl ?_ | refine J_no rfl ?_))
  refine J_region ?_
  refine JL_run [] rfl ?_
  refine JL_val [] (OpV_blk 0 rfl rfl rfl rfl) rfl ?_
  refine JL_run [] rfl ?_
  have hp2 := pickZ_in (c := ends) (n := nn) (by omega)
  refine JL_callR [] (pick4_fn he (by omega : 0 < nn)) rfl rfl rfl rfl (by kernel_rfl) trivial (fun _ => rfl) ?_
  rintro v H' ⟨rfl, rfl⟩
  refine ⟨rfl, ?_⟩
  refine JL_run [] rfl ?_
  obtain ⟨src, hsrc⟩ : ∃ x, x = 1 + pickZ ends nn := ⟨_, rfl⟩
  refine JL_set 18 (v' := .int .i64 src) rfl (congrArg (Value.int .i64) ((w64 (by omega)).trans hsrc.symm)) ?_
  refine JL_run [] rfl ?_
  refine JL_store 0 rfl rfl rfl rfl rfl [] rfl ?_
  refine JL_nil ?_
  (repeat' (first | refine J_seq ?_ | refine J_skip ?_ | refine J_yes rfl ?_ | refine J_no rfl ?_))
  refine J_walk 14 [(0, true), (1, true), (2, true), (3, true), (4, true), (5, true), (6, true), (9, true), (10, true), (7, false), (8, true), (11, true), (12, true), (13, true)] [0] (by kernel_rfl) (by decide) rfl ?_
  refine JW_run [] rfl ?_
  refine JW_still [] rfl (OpV_blk 0 rfl rfl rfl rfl) rfl ?_
  refine JW_run [] rfl ?_
  refine JW_still [] rfl (OpV_blk 0 rfl rfl rfl rfl) rfl ?_
  refine JW_run [] rfl ?_
  refine JW_still [] rfl (OpV_blk 0 rfl rfl rfl rfl) rfl ?_
  have hp3 := pickZ_in (c := ends.tdiv 16) (n := nn - 1) (by omega)
  have ht := tmod_cases ends (m := 16) (by decide)
  have hq : inB (ends.tdiv 16) := by unfold inB at *; omega
  refine JW_run [] rfl ?_
  refine JW_set 23 (v' := .int .i64 (ends.tdiv 16)) rfl (congrArg (Value.int .i64) (w64 hq)) ?_
  refine JW_set 26 (v' := .int .i64 (nn - 1)) rfl (congrArg (Value.int .i64) (w64 (by omega))) ?_
  refine JW_eff rfl ?_
  refine JL_callR [] (pick4_fn hq (by omega : 0 < nn - 1)) rfl rfl rfl rfl (by kernel_rfl) trivial (fun _ => rfl) ?_
  rintro v H' ⟨rfl, rfl⟩
  refine ⟨rfl, JL_nil ⟨⟨[0], by decide, rfl⟩, ?_⟩⟩
  refine JW_run [] rfl ?_
  refine JW_set 28 (v' := .int .i64 (src + pickZ (ends.tdiv 16) (nn - 1))) rfl (congrArg (Value.int .i64) (w64 (by omega))) ?_
  refine JW_still [] rfl (OpV_rem rfl rfl rfl (by omega)) rfl ?_
  obtain ⟨snk, hsnk⟩ : ∃ x, x = 1 + (src + pickZ (ends.tdiv 16) (nn - 1)) % nn := ⟨_, rfl⟩
  have hm1 := Int.emod_nonneg (src + pickZ (ends.tdiv 16) (nn - 1)) (show nn ≠ 0 by omega)
  have hm2 := Int.emod_lt_of_pos (src + pickZ (ends.tdiv 16) (nn - 1)) (show 0 < nn by omega)
  have hdiff : src ≠ snk := by
    intro e
    by_cases hlt : src + pickZ (ends.tdiv 16) (nn - 1) < nn
    · rw [Int.emod_eq_of_lt (by omega) hlt] at hsnk; omega
    · have : (src + pickZ (ends.tdiv 16) (nn - 1)) % nn = src + pickZ (ends.tdiv 16) (nn - 1) - nn := by
        rw [← Int.sub_emod_right, Int.emod_eq_of_lt (by omega) (by omega)]
      rw [this] at hsnk; omega
  refine JW_run [] rfl ?_
  refine JW_set 32 (v' := .int .i64 snk) rfl (congrArg (Value.int .i64) ?_) ?_
  · rw [Int.tmod_eq_emod_of_nonneg (by omega), w64 (by omega), hsnk]
  refine JW_nil ?_
  refine JL_store 0 rfl rfl rfl rfl rfl [] rfl ?_
  refine JL_nil ?_
  (repeat' (first | refine J_seq ?_ | refine J_skip ?_ | refine J_yes rfl ?_ | refine J_no rfl ?_))
  refine J_region ?_
  refine JL_all [] rfl ?_
  (repeat' (first | refine J_seq ?_ | refine J_skip ?_ | refine J_yes rfl ?_ | refine J_no rfl ?_))
  refine J_block ?_
  refine J_addnil 44 3 ?_
  refine J_loop (σ := Nat × Option Addr × Nat × List Arc) (fun s => [(8, .int .i64 s.1), (7, .pointer (some ⟨b7, 0, none⟩)), (2, .slice A l.length c), (6, .pointer (some ⟨b6, 0, none⟩))])
    (fun s => [.own (.slice s.2.1 s.2.2.2.length s.2.2.1) 44 3 s.2.2.2.length (arcs s.2.2.2), blk b7 24 [.int .i64 nn, .int .i64 src, .int .i64 snk, .slice s.2.1 s.2.2.2.length s.2.2.1],
      blk b6 24 [.int .i64 0, .int .i64 0, .int .i64 0, .slice none 0 0], .seg b o (arcs l)])
    (fun s => s.1 ≤ l.length ∧ s.1 ≤ 24 ∧ s.2.2.2.length = s.1 ∧ ∀ a ∈ s.2.2.2, (1 ≤ a.fr ∧ a.fr ≤ nn) ∧ (1 ≤ a.to ∧ a.to ≤ nn) ∧ 0 ≤ a.cap ∧ a.cap ≤ 1000000) (fun s => l.length - s.1)
    (0, none, 0, []) [0, 1, 2, 3] ⟨rfl, rfl, rfl, rfl, trivial⟩ (by decide) rfl ⟨Nat.zero_le _, Nat.zero_le _, rfl, fun a ha => by cases ha⟩ ?_
  rintro ⟨k, A1, c1, r⟩ ⟨hk, hk24, hrk, hr⟩
  simp only at hk hk24 hrk hr ⊢
  refine J_seq ?_
  refine J_cut [(41, .bool (cdec (k < l.length ∧ k < 24))), (8, .int .i64 k), (7, .pointer (some ⟨b7, 0, none⟩)), (2, .slice A l.length c), (6, .pointer (some ⟨b6, 0, none⟩))]
    [.own (.slice A1 r.length c1) 44 3 r.length (arcs r), blk b7 24 [.int .i64 nn, .int .i64 src, .int .i64 snk, .slice A1 r.length c1], blk b6 24 [.int .i64 0, .int .i64 0, .int .i64 0, .slice none 0 0], .seg b o (arcs l)] ?_ ?_
  · (repeat' (first | refine J_seq ?_ | refine J_skip ?_ | refine J_yes rfl ?_ | refine J_no rfl ?_))
    refine J_region ?_
    refine JL_run [] rfl ?_
    by_cases h1 : k < l.length
    · refine JL_set 38 (v' := .bool true) rfl (congrArg Value.bool (cdec_yes (by omega))) ?_
      refine JL_all [4] rfl ?_
      refine ⟨[0, 1, 2, 3], ⟨?_, rfl, rfl, rfl, rfl, trivial⟩, by decide, rfl⟩
      exact congrArg some (congrArg Value.bool (cdec_iff (by omega)))
    · refine JL_set 38 (v' := .bool false) rfl (congrArg Value.bool (cdec_no (by omega))) ?_
      refine JL_all [4] rfl ?_
      refine ⟨[0, 1, 2, 3], ⟨?_, rfl, rfl, rfl, rfl, trivial⟩, by decide, rfl⟩
      exact congrArg some (congrArg Value.bool (cdec_no (by omega)).symm)
  refine J_dec rfl (fun hlt => J_skip ?_) (fun hge => J_exit ?_)
  · obtain ⟨hlt, hlt24⟩ := hlt
    obtain rfl := hA (by rintro rfl; simp at hlt)
    obtain ⟨⟨fr, to, cap⟩, hx⟩ : ∃ x, l[k]? = some x := ⟨l[k], List.getElem?_eq_getElem hlt⟩
    have hB := hl _ (List.mem_of_getElem? hx)
    simp only at hB
    obtain ⟨hx0, hx1, hx2⟩ := arcs_get hx
    refine J_seq (J_block ?_)
    (repeat' (first | refine J_seq ?_ | refine J_skip ?_ | refine J_yes rfl ?_ | refine J_no rfl ?_))
    refine J_region ?_
    refine JL_run [] rfl ?_
    refine JL_val [] (idxN rfl rfl rfl rfl rfl hlt) rfl ?_
    refine JL_run [] rfl ?_
    refine JL_val [] (ldseg 3 rfl rfl rfl rfl hx2) rfl ?_
    refine JL_callR [] (pick4_fn hB.2.2 (by decide)) rfl rfl rfl rfl (by kernel_rfl) trivial (fun _ => rfl) ?_
    rintro v H' ⟨rfl, rfl⟩
    refine ⟨rfl, ?_⟩
    refine JL_all [] rfl ?_
    have c1' := pickZ_in (c := cap) (n := 21) (by decide)
    have c2' := pickZ_in (c := cap) (n := 1000000) (by decide)
    have htd := tmod_cases cap (m := 21) (by decide)
    have hq3 : inB (cap.tdiv 21) := by have := hB.2.2; unfold inB at *; omega
    obtain ⟨cp, hcp⟩ : ∃ x, x = if pickZ (cap.tdiv 21) 9 = 0 then pickZ cap 1000000 else pickZ cap 21 := ⟨_, rfl⟩
    refine J_cut [(9, .int .i64 cp), (8, .int .i64 k), (7, .pointer (some ⟨b7, 0, none⟩)), (2, .slice (some ⟨b, o, none⟩) l.length c), (6, .pointer (some ⟨b6, 0, none⟩))]
      [.own (.slice A1 r.length c1) 44 3 r.length (arcs r), blk b7 24 [.int .i64 nn, .int .i64 src, .int .i64 snk, .slice A1 r.length c1], blk b6 24 [.int .i64 0, .int .i64 0, .int .i64 0, .slice none 0 0], .seg b o (arcs l)] ?_ ?_
    · (repeat' (first | refine J_seq ?_ | refine J_skip ?_ | refine J_yes rfl ?_ | refine J_no rfl ?_))
      refine J_region ?_
      refine JL_run [] rfl ?_
      refine JL_val [] (idxN rfl rfl rfl rfl rfl hlt) rfl ?_
      refine JL_run [] rfl ?_
      refine JL_val [] (ldseg 3 rfl rfl rfl rfl hx2) rfl ?_
      refine JL_run [] rfl ?_
      refine JL_set 55 (v' := .int .i64 (cap.tdiv 21)) rfl (congrArg (Value.int .i64) (w64 hq3)) ?_
      refine JL_callR [] (pick4_fn hq3 (by decide)) rfl rfl rfl rfl (by kernel_rfl) trivial (fun _ => rfl) ?_
      rintro v H' ⟨rfl, rfl⟩
      refine ⟨rfl, ?_⟩
      refine JL_all [] rfl ?_
      refine J_dec rfl (fun h => ?_) (fun h => J_skip ?_)
      · refine J_region (JL_run [] rfl ?_)
        refine JL_val [] (idxN rfl rfl rfl rfl rfl hlt) rfl ?_
        refine JL_run [] rfl ?_
        refine JL_val [] (ldseg 3 rfl rfl rfl rfl hx2) rfl ?_
        refine JL_callR [] (pick4_fn hB.2.2 (by decide)) rfl rfl rfl rfl (by kernel_rfl) trivial (fun _ => rfl) ?_
        rintro v H' ⟨rfl, rfl⟩
        refine ⟨rfl, ?_⟩
        refine JL_all [] rfl ?_
        exact ⟨[0, 1, 2, 3], ⟨by rw [hcp, if_pos h]; rfl, rfl, rfl, rfl, rfl, trivial⟩, by decide, rfl⟩
      · exact ⟨[0, 1, 2, 3], ⟨by rw [hcp, if_neg h]; rfl, rfl, rfl, rfl, rfl, trivial⟩, by decide, rfl⟩
    have hcp0 : 0 ≤ cp ∧ cp ≤ 1000000 := by split at hcp <;> omega
    have f1 := pickZ_in (c := fr) (n := nn) (by omega)
    have f2 := pickZ_in (c := to) (n := nn) (by omega)
    (repeat' (first | refine J_seq ?_ | refine J_skip ?_ | refine J_yes rfl ?_ | refine J_no rfl ?_))
    refine J_walk 25 [(0, true), (1, true), (2, true), (3, true), (4, true), (5, true), (6, true), (7, true), (8, true), (11, true), (12, true), (13, true), (14, true), (15, true), (16, true), (17, true), (20, true), (9, false), (10, true), (18, false), (19, true), (21, true), (22, false), (23, false), (24, true)] [1, 3] (by kernel_rfl) (by decide) rfl ?_
    refine JW_run [] rfl ?_
    refine JW_still [] rfl (OpV_blk 0 rfl rfl rfl rfl) rfl ?_
    refine JW_run [] rfl ?_
    refine JW_still [] rfl (idxN rfl rfl rfl rfl rfl hlt) rfl ?_
    refine JW_run [] rfl ?_
    refine JW_still [] rfl (ldseg 1 rfl rfl rfl rfl hx0) rfl ?_
    refine JW_run [] rfl ?_
    refine JW_still [] rfl (OpV_blk 0 rfl rfl rfl rfl) rfl ?_
    refine JW_run [] rfl ?_
    refine JW_still [] rfl (idxN rfl rfl rfl rfl rfl hlt) rfl ?_
    refine JW_run [] rfl ?_
    refine JW_still [] rfl (ldseg 1 rfl rfl rfl rfl hx1) rfl ?_
    refine JW_run [] rfl ?_
    refine JW_still [] rfl (OpV_blk 0 rfl rfl rfl rfl) rfl ?_
    refine JW_run [] rfl ?_
    refine JW_eff rfl ?_
    refine JL_callR [] (pick4_fn hB.1 (by omega : 0 < nn)) rfl rfl rfl rfl (by kernel_rfl) trivial (fun _ => rfl) ?_
    rintro v H' ⟨rfl, rfl⟩
    refine ⟨rfl, JL_nil ⟨⟨[1, 3], by decide, rfl⟩, ?_⟩⟩
    refine JW_run [] rfl ?_
    refine JW_set 74 (v' := .int .i64 (1 + pickZ fr nn)) rfl (congrArg (Value.int .i64) (w64 (by omega))) ?_
    refine JW_eff rfl ?_
    refine JL_callR [] (pick4_fn hB.2.1 (by omega : 0 < nn)) rfl rfl rfl rfl (by kernel_rfl) trivial (fun _ => rfl) ?_
    rintro v H' ⟨rfl, rfl⟩
    refine ⟨rfl, JL_nil ⟨⟨[1, 3], by decide, rfl⟩, ?_⟩⟩
    refine JW_run [] rfl ?_
    refine JW_set 83 (v' := .int .i64 (1 + pickZ to nn)) rfl (congrArg (Value.int .i64) (w64 (by omega))) ?_
    refine JW_still [] rfl (OpV_build rfl rfl rfl rfl rfl rfl) rfl ?_
    refine JW_eff rfl ?_
    refine JL_lit rfl rfl rfl rfl rfl rfl rfl (fun _ => rfl) fun g => ?_
    refine JL_nil ⟨⟨[2, 4], by decide, rfl⟩, ?_⟩
    refine JW_eff rfl ?_
    refine JL_appendS (off := 0) (m := 1) (news := arcs [⟨1 + pickZ fr nn, 1 + pickZ to nn, cp⟩]) 1 0 rfl rfl rfl rfl rfl rfl (by decide) rfl rfl (shows_blk g _ _ (0, 0)) (fun _ => rfl) rfl rfl (by omega) (by omega) (fun _ _ => rfl) fun A2 c2 => ?_
    refine JL_nil ⟨⟨[2, 4], by decide, rfl⟩, ?_⟩
    refine JW_run [] rfl ?_
    refine JW_nil ?_
    refine JL_store 2 rfl rfl rfl rfl rfl [] rfl ?_
    refine JL_nil ?_
    (repeat' (first | refine J_seq ?_ | refine J_skip ?_ | refine J_yes rfl ?_ | refine J_no rfl ?_))
    refine J_region ?_
    refine JL_all [] rfl ?_
    refine ⟨(k + 1, A2, c2, r ++ [⟨1 + pickZ fr nn, 1 + pickZ to nn, cp⟩]), [1, 2, 3, 4], ⟨?_, rfl, rfl, rfl, trivial⟩, by decide, ?_, ⟨by simp only; omega, by simp only; omega, by simp only [List.length_append]; simp; omega, ?_⟩, by simp only; omega⟩
    · show some (Value.int .i64 (IntKind.i64.wrap ((k : Int) + 1))) = _
      rw [w64 (by omega)]; rfl
    · simp only [arcs_app, List.length_append]; rfl
    · intro a ha
      rcases List.mem_append.1 ha with ha | ha
      · exact hr a ha
      · obtain rfl := List.mem_singleton.1 ha
        simp only; omega
  · (repeat' (first | refine J_seq ?_ | refine J_skip ?_ | refine J_yes rfl ?_ | refine J_no rfl ?_))
    refine J_region ?_
    refine JL_val [] (OpV_blk 1 rfl rfl rfl rfl) rfl ?_
    refine JL_store 2 rfl rfl rfl rfl rfl [] rfl ?_
    refine JL_nil ?_
    refine J_ret ?_
    refine ⟨[netV ⟨nn, src, snk, r⟩ A1 c1], [0], _, ⟨⟨b6, 2, _, _, rfl, rfl, rfl⟩, trivial⟩, by decide, rfl, ⟨nn, src, snk, r⟩, A1, c1, ⟨by simp only; omega, by simp only; omega, by simp only; omega, hdiff, by simp only; omega, fun a ha => ⟨(hr a ha).1, (hr a ha).2.1, (hr a ha).2.2.1⟩, ?_⟩, by simp only; omega, by simp only; omega, fun a ha => (hr a ha).2.2.2, rfl, rfl⟩
    have hsum : ∀ (l : List Arc), (∀ a ∈ l, a.cap ≤ 1000000) → (l.map (·.cap)).sum ≤ 1000000 * l.length := by
      intro l
      induction l with
      | nil => intro _; simp
      | cons x l ih =>
        intro h
        have h1 := ih fun a ha => h a (by simp [ha])
        have h2 := h x (by simp)
        simp only [List.map_cons, List.sum_cons, List.length_cons]
        omega
    have := hsum r fun a ha => (hr a ha).2.2.2
    simp only
    omega
end Go.Proofs.YtkiadfpkgpgbiaaGreatDoor
