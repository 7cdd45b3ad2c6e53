/- The engine and the words that all chapters share: several texts in one. -/
import Derived.Test.YtdhenmmmkdhonaaQB
import Derived.Test.YtdhenmmmkdhonaaMatchG

/- Chapter 17's words: a number of raw numbers, and rows that are the same. -/
set_option linter.unusedVariables false
set_option linter.unusedSimpArgs false
namespace Go.Proofs.Ytdhenmmmkdhonaa
open Go.RowKit
theorem pick17_fn {c n : Int} (hc : inB c) (hn : 0 < n) : Fn 31 [.int .i64 c, .int .i64 n] [] [] fun v H' => v = .int .i64 (pickZ c n) ∧ H' = [] := by
  unfold inB at hc
  refine Fn_of Try.func31 rfl rfl fun w0 => ?_
  (repeat' (first | refine J_seq ?_ | refine J_skip ?_ | refine J_yes rfl ?_ | refine J_no rfl ?_))
  refine J_region ?_
  refine JL_all [] rfl ?_
  refine J_cut [(0, .int .i64 (if c < 0 then - (c + 1) else c)), (1, .int .i64 n)] [] ?_ ?_
  · (repeat' (first | refine J_seq ?_ | refine J_skip ?_ | refine J_yes rfl ?_ | refine J_no rfl ?_))
    refine J_region ?_
    refine JL_all [] rfl ?_
    refine J_dec rfl (fun h => ?_) (fun h => J_skip ?_)
    · refine J_region (JL_all [] rfl ?_)
      refine ⟨[], ⟨?_, rfl, trivial⟩, by decide, rfl⟩
      show some (Value.int .i64 (IntKind.i64.wrap (0 - IntKind.i64.wrap (c + 1)))) = _
      rw [if_pos h, w64 (n := c + 1) (by omega), w64 (by omega), Int.zero_sub]
    · exact ⟨[], ⟨by rw [if_neg h]; rfl, rfl, trivial⟩, by decide, rfl⟩
  (repeat' (first | refine J_seq ?_ | refine J_skip ?_ | refine J_yes rfl ?_ | refine J_no rfl ?_))
  refine J_region ?_
  refine JL_run [] rfl ?_
  refine JL_val [] (OpV_rem rfl rfl rfl (by omega)) rfl ?_
  refine JL_all [] rfl ?_
  refine J_ret ⟨_, rfl, congrArg (Value.int .i64) ?_, rfl⟩
  unfold pickZ
  rw [Int.tmod_eq_emod_of_nonneg (by split <;> omega)]
theorem same17_fn (A : Option Addr) (c b o : Nat) (l : List Int) (hA : l ≠ [] → A = some ⟨b, o, none⟩) (hl : l.length ≤ 100000) (A2 : Option Addr) (c2 b2 o2 : Nat) (l2 : List Int) (hA2 : l2 ≠ [] → A2 = some ⟨b2, o2, none⟩) :
    Fn 30 [.slice A l.length c, .slice A2 l2.length c2] [] [.seg b o (ints l), .seg b2 o2 (ints l2)] fun u H' => u = .bool (cdec (l = l2)) ∧ H' = [] := by
  refine Fn_of Try.func30 rfl rfl fun w0 => ?_
  (repeat' (first | refine J_seq ?_ | refine J_skip ?_ | refine J_yes rfl ?_ | refine J_no rfl ?_))
  refine J_region ?_
  refine JL_all [] rfl ?_
  (repeat' (first | refine J_seq ?_ | refine J_skip ?_ | refine J_yes rfl ?_ | refine J_no rfl ?_))
  refine J_region ?_
  refine JL_all [] rfl ?_
  refine J_dec rfl (fun h => ?_) (fun h => J_skip ?_)
  · (repeat' (first | refine J_seq ?_ | refine J_skip ?_ | refine J_yes rfl ?_ | refine J_no rfl ?_))
    refine J_region ?_
    refine JL_all [] rfl ?_
    refine J_drop [] (by decide) rfl (J_ret ⟨_, rfl, congrArg Value.bool (cdec_no (fun e => h (by rw [e]))).symm, rfl⟩)
  have hlen : l.length = l2.length := by omega
  (repeat' (first | refine J_seq ?_ | refine J_skip ?_ | refine J_yes rfl ?_ | refine J_no rfl ?_))
  refine J_region ?_
  refine JL_all [] rfl ?_
  refine J_block ?_
  refine J_loop (σ := Nat) (fun k => [(5, .int .i64 k), (0, .slice A l.length c), (1, .slice A2 l2.length c2)]) (fun k => [.seg b o (ints l), .seg b2 o2 (ints l2)]) (fun k => k ≤ l.length ∧ ∀ j, j < k → l[j]? = l2[j]?) (fun k => l.length - k)
    0 [0, 1] ⟨rfl, rfl, rfl, trivial⟩ (by decide) rfl ⟨Nat.zero_le _, fun x hx => by omega⟩ ?_
  rintro k ⟨hk, hall⟩
  (repeat' (first | refine J_seq ?_ | refine J_skip ?_ | refine J_yes rfl ?_ | refine J_no rfl ?_))
  refine J_region ?_
  refine JL_all [] rfl ?_
  refine J_dec rfl (fun hlt => J_skip ?_) (fun hge => J_exit ?_)
  · have hlt : k < l.length := by omega
    obtain rfl := hA (by rintro rfl; simp at hlt)
    obtain rfl := hA2 (by intro h0; have h1 : l2.length = 0 := by rw [h0]; rfl
                          omega)
    obtain ⟨x, hx⟩ : ∃ x, l[k]? = some x := ⟨l[k], List.getElem?_eq_getElem hlt⟩
    obtain ⟨y, hy⟩ : ∃ y, l2[k]? = some y := ⟨l2[k]'(by omega), List.getElem?_eq_getElem (by omega)⟩
    refine J_seq (J_block ?_)
    (repeat' (first | refine J_seq ?_ | refine J_skip ?_ | refine J_yes rfl ?_ | refine J_no rfl ?_))
    refine J_walk 9 [(0, true), (1, true), (2, true), (3, true), (4, true), (5, true), (6, true), (7, true), (8, true)] [0, 1] (by kernel_rfl) (by decide) rfl ?_
    refine JW_run [] rfl ?_
    refine JW_still [] rfl (idx1 rfl rfl rfl rfl rfl hlt) rfl ?_
    refine JW_still [] rfl (ldseg 0 rfl rfl rfl rfl (readT_int' hx)) rfl ?_
    refine JW_run [] rfl ?_
    refine JW_still [] rfl (idx1 rfl rfl rfl rfl rfl (by omega)) rfl ?_
    refine JW_still [] rfl (ldseg 1 rfl rfl rfl rfl (readT_int' hy)) rfl ?_
    refine JW_all [] rfl ?_
    refine JL_nil ?_
    refine J_dec rfl (fun h => ?_) (fun h => J_skip ?_)
    · (repeat' (first | refine J_seq ?_ | refine J_skip ?_ | refine J_yes rfl ?_ | refine J_no rfl ?_))
      refine J_region ?_
      refine JL_all [] rfl ?_
      refine J_drop [] (by decide) rfl (J_ret ⟨_, rfl, congrArg Value.bool (cdec_no (fun e => ?_)).symm, rfl⟩)
      rw [e, hy] at hx
      exact h (Option.some.inj hx).symm
    · (repeat' (first | refine J_seq ?_ | refine J_skip ?_ | refine J_yes rfl ?_ | refine J_no rfl ?_))
      refine J_region ?_
      refine JL_all [] rfl ?_
      refine ⟨k + 1, [0, 1], ⟨?_, rfl, rfl, trivial⟩, by decide, rfl, ⟨by omega, fun j hj => ?_⟩, by omega⟩
      · show some (Value.int .i64 (IntKind.i64.wrap ((k : Int) + 1))) = _
        rw [w64 (by omega)]; rfl
      · by_cases e : j = k
        · subst e; rw [hx, hy]; exact congrArg some (Classical.not_not.1 h)
        · exact hall j (by omega)
  · (repeat' (first | refine J_seq ?_ | refine J_skip ?_ | refine J_yes rfl ?_ | refine J_no rfl ?_))
    refine J_region ?_
    refine JL_all [] rfl ?_
    refine J_drop [] (by decide) rfl (J_ret ⟨_, rfl, congrArg Value.bool (cdec_yes (List.ext_getElem? fun j => ?_)).symm, rfl⟩)
    by_cases hj : j < l.length
    · exact hall j (by omega)
    · rw [List.getElem?_eq_none (by omega), List.getElem?_eq_none (by omega)]
end Go.Proofs.Ytdhenmmmkdhonaa


/- Chapter 17's graphs of raw numbers. -/
set_option linter.unusedVariables false
set_option linter.unusedSimpArgs false
namespace Go.Proofs.Ytdhenmmmkdhonaa
open Go.RowKit
set_option maxHeartbeats 1000000 in
theorem drawn17_fn (sides : Int) (hs : inB sides) (A : Option Addr) (c b o : Nat) (l : List Int) (hA : l ≠ [] → A = some ⟨b, o, none⟩) (hl : ∀ x ∈ l, inB x) (hsz : l.length ≤ 9223372036854775807) :
    Fn 15 [.int .i64 sides, .slice A l.length c] [] [.seg b o (ints l)] fun v H' => ∃ (g : Gr) (A' : Option Addr) (c' : Nat), g.Right ∧ g.left ≤ 7 ∧ g.right ≤ 7 ∧ g.edges.length ≤ 24 ∧ v = grV g A' c' ∧ H' = [.own (.slice A' g.edges.length c') 64 2 g.edges.length (edgs g.edges)] := by
  refine Fn_ofC Try.func15 rfl rfl fun w0 => ?_
  have hs7 : inB (sides.tdiv 7) := by unfold inB at *; have := tmod_cases sides (m := 7) (by decide); omega
  have b1 := pickZ_in (c := sides) (n := 7) (by decide)
  have b2 := pickZ_in (c := sides.tdiv 7) (n := 7) (by decide)
  obtain ⟨nl, hnl⟩ : ∃ x, x = 1 + pickZ sides 7 := ⟨_, rfl⟩
  obtain ⟨nr, hnr⟩ : ∃ x, x = 1 + pickZ (sides.tdiv 7) 7 := ⟨_, rfl⟩
  (repeat' (first | refine J_seq ?_ | refine J_skip ?_ | refine J_yes rfl ?_ | refine J_no rfl ?_))
  refine J_region ?_
  refine JL_alloc rfl rfl rfl (fun _ => rfl) fun b4 => ?_
  refine JL_nil ?_
  (repeat' (first | refine J_seq ?_ | refine J_skip ?_ | refine J_yes rfl ?_ | refine J_no rfl ?_))
  refine J_region ?_
  refine JL_run [] rfl ?_
  refine JL_callR [] (pick17_fn hs (by decide)) rfl rfl rfl rfl (by kernel_rfl) trivial (fun _ => rfl) ?_
  rintro v H' ⟨rfl, rfl⟩
  refine ⟨rfl, ?_⟩
  refine JL_run [] rfl ?_
  refine JL_set 9 (v' := .int .i64 nl) rfl (congrArg (Value.int .i64) ((w64 (by omega)).trans hnl.symm)) ?_
  refine JL_set 11 (v' := .int .i64 (sides.tdiv 7)) rfl (congrArg (Value.int .i64) (w64 hs7)) ?_
  refine JL_callR [] (pick17_fn hs7 (by decide)) rfl rfl rfl rfl (by kernel_rfl) trivial (fun _ => rfl) ?_
  rintro v H' ⟨rfl, rfl⟩
  refine ⟨rfl, ?_⟩
  refine JL_run [] rfl ?_
  refine JL_set 13 (v' := .int .i64 nr) rfl (congrArg (Value.int .i64) ((w64 (by omega)).trans hnr.symm)) ?_
  refine JL_val [] (OpV_build rfl rfl rfl rfl rfl rfl) rfl ?_
  refine JL_alloc rfl rfl rfl (fun _ => rfl) fun b5 => ?_
  refine JL_store 0 rfl rfl rfl rfl rfl [] rfl ?_
  refine JL_nil ?_
  (repeat' (first | refine J_seq ?_ | refine J_skip ?_ | refine J_yes rfl ?_ | refine J_no rfl ?_))
  refine J_region ?_
  refine JL_all [] rfl ?_
  (repeat' (first | refine J_seq ?_ | refine J_skip ?_ | refine J_yes rfl ?_ | refine J_no rfl ?_))
  refine J_block ?_
  refine J_addnil 64 2 ?_
  refine J_loop (σ := Nat × Option Addr × Nat × List Edg) (fun s => [(6, .int .i64 s.1), (5, .pointer (some ⟨b5, 0, none⟩)), (1, .slice A l.length c), (4, .pointer (some ⟨b4, 0, none⟩))])
    (fun s => [.own (.slice s.2.1 s.2.2.2.length s.2.2.1) 64 2 s.2.2.2.length (edgs s.2.2.2), blk b5 44 [.int .i64 nl, .int .i64 nr, .slice s.2.1 s.2.2.2.length s.2.2.1], blk b4 44 [.int .i64 0, .int .i64 0, .slice none 0 0], .seg b o (ints l)])
    (fun s => s.1 ≤ l.length ∧ s.1 ≤ 24 ∧ s.2.2.2.length = s.1 ∧ ∀ a ∈ s.2.2.2, (1 ≤ a.l ∧ a.l ≤ nl) ∧ (1 ≤ a.r ∧ a.r ≤ nr)) (fun s => l.length - s.1)
    (0, none, 0, []) [0, 1, 2, 3] ⟨rfl, rfl, rfl, rfl, trivial⟩ (by decide) rfl ⟨Nat.zero_le _, Nat.zero_le _, rfl, fun a ha => by cases ha⟩ ?_
  rintro ⟨k, A1, c1, r⟩ ⟨hk, hk24, hrk, hr⟩
  simp only at hk hk24 hrk hr ⊢
  refine J_seq ?_
  refine J_cut [(22, .bool (cdec (k < l.length ∧ k < 24))), (6, .int .i64 k), (5, .pointer (some ⟨b5, 0, none⟩)), (1, .slice A l.length c), (4, .pointer (some ⟨b4, 0, none⟩))]
    [.own (.slice A1 r.length c1) 64 2 r.length (edgs r), blk b5 44 [.int .i64 nl, .int .i64 nr, .slice A1 r.length c1], blk b4 44 [.int .i64 0, .int .i64 0, .slice none 0 0], .seg b o (ints l)] ?_ ?_
  · (repeat' (first | refine J_seq ?_ | refine J_skip ?_ | refine J_yes rfl ?_ | refine J_no rfl ?_))
    refine J_region ?_
    refine JL_run [] rfl ?_
    by_cases h1 : k < l.length
    · refine JL_set 19 (v' := .bool true) rfl (congrArg Value.bool (cdec_yes (by omega))) ?_
      refine JL_all [4] rfl ?_
      refine ⟨[0, 1, 2, 3], ⟨?_, rfl, rfl, rfl, rfl, trivial⟩, by decide, rfl⟩
      exact congrArg some (congrArg Value.bool (cdec_iff (by omega)))
    · refine JL_set 19 (v' := .bool false) rfl (congrArg Value.bool (cdec_no (by omega))) ?_
      refine JL_all [4] rfl ?_
      refine ⟨[0, 1, 2, 3], ⟨?_, rfl, rfl, rfl, rfl, trivial⟩, by decide, rfl⟩
      exact congrArg some (congrArg Value.bool (cdec_no (by omega)).symm)
  refine J_dec rfl (fun hlt => J_skip ?_) (fun hge => J_exit ?_)
  · obtain ⟨hlt, hlt24⟩ := hlt
    obtain rfl := hA (by rintro rfl; simp at hlt)
    obtain ⟨x, hx⟩ : ∃ x, l[k]? = some x := ⟨l[k], List.getElem?_eq_getElem hlt⟩
    have hB := hl _ (List.mem_of_getElem? hx)
    have hB7 : inB (x.tdiv 7) := by unfold inB at *; have := tmod_cases x (m := 7) (by decide); omega
    have f1 := pickZ_in (c := x) (n := nl) (by omega)
    have f2 := pickZ_in (c := x.tdiv 7) (n := nr) (by omega)
    refine J_seq (J_block ?_)
    (repeat' (first | refine J_seq ?_ | refine J_skip ?_ | refine J_yes rfl ?_ | refine J_no rfl ?_))
    refine J_walk 22 [(0, true), (1, true), (2, true), (3, true), (4, true), (5, true), (6, true), (7, true), (10, true), (11, true), (12, true), (13, true), (14, true), (15, true), (16, true), (8, false), (9, true), (17, false), (18, true), (19, true), (20, false), (21, false)] [1, 3] (by kernel_rfl) (by decide) rfl ?_
    refine JW_run [] rfl ?_
    refine JW_still [] rfl (OpV_blk 0 rfl rfl rfl rfl) rfl ?_
    refine JW_run [] rfl ?_
    refine JW_still [] rfl (idx1 rfl rfl rfl rfl rfl hlt) rfl ?_
    refine JW_still [] rfl (ldseg 1 rfl rfl rfl rfl (readT_int' hx)) rfl ?_
    refine JW_run [] rfl ?_
    refine JW_still [] rfl (OpV_blk 0 rfl rfl rfl rfl) rfl ?_
    refine JW_run [] rfl ?_
    refine JW_still [] rfl (idx1 rfl rfl rfl rfl rfl hlt) rfl ?_
    refine JW_still [] rfl (ldseg 1 rfl rfl rfl rfl (readT_int' hx)) rfl ?_
    refine JW_run [] rfl ?_
    refine JW_set 39 (v' := .int .i64 (x.tdiv 7)) rfl (congrArg (Value.int .i64) (w64 hB7)) ?_
    refine JW_still [] rfl (OpV_blk 0 rfl rfl rfl rfl) rfl ?_
    refine JW_eff rfl ?_
    refine JL_callR [] (pick17_fn hB (by omega : 0 < nl)) rfl rfl rfl rfl (by kernel_rfl) trivial (fun _ => rfl) ?_
    rintro v H' ⟨rfl, rfl⟩
    refine ⟨rfl, JL_nil ⟨⟨[1, 3], by decide, rfl⟩, ?_⟩⟩
    refine JW_run [] rfl ?_
    refine JW_set 34 (v' := .int .i64 (1 + pickZ x nl)) rfl (congrArg (Value.int .i64) (w64 (by omega))) ?_
    refine JW_eff rfl ?_
    refine JL_callR [] (pick17_fn hB7 (by omega : 0 < nr)) rfl rfl rfl rfl (by kernel_rfl) trivial (fun _ => rfl) ?_
    rintro v H' ⟨rfl, rfl⟩
    refine ⟨rfl, JL_nil ⟨⟨[1, 3], by decide, rfl⟩, ?_⟩⟩
    refine JW_run [] rfl ?_
    refine JW_set 43 (v' := .int .i64 (1 + pickZ (x.tdiv 7) nr)) rfl (congrArg (Value.int .i64) (w64 (by omega))) ?_
    refine JW_still [] rfl (OpV_build rfl rfl rfl rfl rfl rfl) rfl ?_
    refine JW_eff rfl ?_
    refine JL_lit rfl rfl rfl rfl rfl rfl rfl (fun _ => rfl) fun g => ?_
    refine JL_nil ⟨⟨[2, 4], by decide, rfl⟩, ?_⟩
    refine JW_eff rfl ?_
    refine JL_appendS (off := 0) (m := 1) (news := edgs [⟨1 + pickZ x nl, 1 + pickZ (x.tdiv 7) nr⟩]) 1 0 rfl rfl rfl rfl rfl rfl (by decide) rfl rfl (shows_blk g _ _ (0, 0)) (fun _ => rfl) rfl rfl (by omega) (by omega) (fun _ _ => rfl) fun A2 c2 => ?_
    refine JL_nil ⟨⟨[2, 4], by decide, rfl⟩, ?_⟩
    refine JW_nil ?_
    refine JL_run [] rfl ?_
    refine JL_store 2 rfl rfl rfl rfl rfl [] rfl ?_
    refine JL_nil ?_
    (repeat' (first | refine J_seq ?_ | refine J_skip ?_ | refine J_yes rfl ?_ | refine J_no rfl ?_))
    refine J_region ?_
    refine JL_all [] rfl ?_
    refine ⟨(k + 1, A2, c2, r ++ [⟨1 + pickZ x nl, 1 + pickZ (x.tdiv 7) nr⟩]), [1, 2, 3, 4], ⟨?_, rfl, rfl, rfl, trivial⟩, by decide, ?_, ⟨by simp only; omega, by simp only; omega, by simp only [List.length_append]; simp; omega, ?_⟩, by simp only; omega⟩
    · show some (Value.int .i64 (IntKind.i64.wrap ((k : Int) + 1))) = _
      rw [w64 (by omega)]; rfl
    · simp only [edgs_app, List.length_append]; rfl
    · intro a ha
      rcases List.mem_append.1 ha with ha | ha
      · exact hr a ha
      · obtain rfl := List.mem_singleton.1 ha
        simp only; omega
  · (repeat' (first | refine J_seq ?_ | refine J_skip ?_ | refine J_yes rfl ?_ | refine J_no rfl ?_))
    refine J_region ?_
    refine JL_val [] (OpV_blk 1 rfl rfl rfl rfl) rfl ?_
    refine JL_store 2 rfl rfl rfl rfl rfl [] rfl ?_
    refine JL_nil ?_
    refine J_ret ?_
    exact ⟨[grV ⟨nl, nr, r⟩ A1 c1], [0], _, ⟨⟨b4, 2, _, _, rfl, rfl, rfl⟩, trivial⟩, by decide, rfl, ⟨nl, nr, r⟩, A1, c1, ⟨by simp only; omega, by simp only; omega, by simp only; omega, hr⟩, by simp only; omega, by simp only; omega, by simp only; omega, rfl, rfl⟩
end Go.Proofs.Ytdhenmmmkdhonaa
