
/- TextOrder: a line's words stand in it, in order, with blanks alone between; there are as many lines as ends, and one more, if something is behind the last one: of any text. No condition but what the row lists. -/
import Derived.Test.YtkiadfpkgpgbiaaDoorTextS
set_option linter.unusedVariables false
set_option linter.unusedSimpArgs false
namespace Go.Proofs.YtkiadfpkgpgbiaaDoor
open Go.RowKit
def sepAt (s : List UInt8) (i : Nat) : Prop := ∃ b, s[i]? = some b ∧ sepB b = true
theorem sep_int (b : UInt8) : sepB b = true ↔ ((b.toNat : Int) = 32 ∨ (b.toNat : Int) = 9 ∨ (b.toNat : Int) = 13) := by
  simp only [sepB, Bool.or_eq_true, beq_iff_eq]
  omega
theorem drop_cons {s : List UInt8} {i : Nat} {b : UInt8} (h : s[i]? = some b) : s.drop i = b :: s.drop (i + 1) := by
  obtain ⟨hl, e⟩ := List.getElem?_eq_some_iff.1 h
  rw [List.drop_eq_getElem_cons hl, e]
theorem drop_head {s : List UInt8} {i : Nat} {b : UInt8} {r : List UInt8} (h : s.drop i = b :: r) : s[i]? = some b := by
  have := congrArg (fun l => l[0]?) h
  simpa using this
theorem skip_sep {s : List UInt8} {i : Nat} (h : sepAt s i) : wordsL (s.drop (i + 1)) = wordsL (s.drop i) := by
  obtain ⟨b, hb, hs⟩ := h
  rw [drop_cons hb, words_sep hs]
theorem no_words {s : List UInt8} {i : Nat} {b : UInt8} (h : wordsL (s.drop i) = []) (hb : s[i]? = some b) : sepB b = true := by
  cases hs : sepB b with
  | true => rfl
  | false =>
    obtain ⟨t, r, _, _, _, _, e⟩ := words_next (s.drop i) (fun b' r' h' => by
      have := drop_head h'
      rw [hb] at this
      obtain rfl := Option.some.inj this
      exact hs) (by rw [drop_cons hb]; simp)
    rw [e] at h
    cases h
theorem word_at {s t : List UInt8} {i : Nat} {W : List (List UInt8)} {j : Nat} (h : wordsL (s.drop i) = W.drop j) (hj : j < W.length) (hn : ¬ sepAt s i) :
    ∃ t r, s.drop i = t ++ r ∧ t ≠ [] ∧ W[j]? = some t ∧ wordsL r = W.drop (j + 1) ∧ (∀ b r', r = b :: r' → sepB b = true) := by
  have hne : s.drop i ≠ [] := by
    intro h0
    rw [h0] at h
    have : W.drop j = [] := h.symm
    rw [List.drop_eq_nil_iff] at this
    omega
  obtain ⟨t, r, e1, e2, _, e4, e5⟩ := words_next (s.drop i) (fun b r h' => by
    cases hs : sepB b with
    | false => rfl
    | true => exact absurd ⟨b, drop_head h', hs⟩ hn) hne
  rw [e5] at h
  have hw : W[j]? = some t := by
    have := congrArg (fun l => l[0]?) h
    simpa using this.symm
  refine ⟨t, r, e1, e2, hw, ?_, e4⟩
  have := congrArg List.tail h
  simpa using this
def endsT (L : List (List UInt8)) (i : Nat) : List UInt8 := ((L.take i).map (· ++ [10])).flatten
theorem endsT_succ {L : List (List UInt8)} {i : Nat} {x : List UInt8} (h : L[i]? = some x) : endsT L (i + 1) = endsT L i ++ x ++ [10] := by
  unfold endsT
  rw [List.take_add_one, h]
  simp
theorem endsT_le (L : List (List UInt8)) (i : Nat) : (endsT L i).length ≤ ((L.map (· ++ [10])).flatten).length := by
  unfold endsT
  conv => rhs; rw [← List.take_append_drop i L]
  rw [List.map_append, List.flatten_append, List.length_append]
  omega
theorem count_succ {s : List UInt8} {i : Nat} {b : UInt8} (h : s[i]? = some b) : (s.take (i + 1)).count 10 = (s.take i).count 10 + (if b = 10 then 1 else 0) := by
  rw [List.take_add_one, h, List.count_append]
  by_cases e : b = 10
  · subst e; simp
  · simp [e, List.count_cons]
set_option maxHeartbeats 8000000 in
theorem textOrderL_fn (V : LibV) (s : List UInt8) (hs : s.length ≤ 140737488351232) : Fn 5 [str s] [] V.heap fun v _ => v = .bool true := by
  refine Fn_of Tryd.func5 rfl rfl fun w0 => ?_
  (repeat' (first | refine J_seq ?_ | refine J_skip ?_ | refine J_yes rfl ?_ | refine J_no rfl ?_))
  refine J_region ?_
  refine JL_all [] rfl ?_
  (repeat' (first | refine J_seq ?_ | refine J_skip ?_ | refine J_yes rfl ?_ | refine J_no rfl ?_))
  refine J_region ?_
  refine JL_callR [] (shown2_fn V) rfl rfl rfl rfl (by kernel_rfl) ⟨⟨0, by simp, rfl⟩, ⟨1, by simp, rfl⟩, ⟨2, by simp, rfl⟩, trivial⟩ (fun _ => rfl) ?_
  rintro v H' ⟨rfl, rfl⟩
  refine ⟨rfl, ?_⟩
  refine JL_all [] rfl ?_
  (repeat' (first | refine J_seq ?_ | refine J_skip ?_ | refine J_yes rfl ?_ | refine J_no rfl ?_))
  refine J_region ?_
  refine JL_evO (gs := [999]) rfl ?_
  refine JL_evO (gs := [999]) rfl ?_
  refine JL_evO (gs := [999]) rfl ?_
  refine JL_set 16 (v' := .bool false) rfl rfl ?_
  refine JL_all [2] rfl ?_
  refine J_dec rfl (fun _ => ?_) (fun h2000 => J_skip ?_)
  · (repeat' (first | refine J_seq ?_ | refine J_skip ?_ | refine J_yes rfl ?_ | refine J_no rfl ?_))
    refine J_region ?_
    refine JL_all [] rfl ?_
    exact J_ret ⟨_, rfl, rfl⟩
  have hs1 : s.length ≤ 2000 := by
    have h' : ¬ (2000 : Int) < s.length := h2000
    omega
  obtain ⟨W, hW⟩ : ∃ W, wordsL s = W := ⟨_, rfl⟩
  have hWl := words_le s
  rw [hW] at hWl
  (repeat' (first | refine J_seq ?_ | refine J_skip ?_ | refine J_yes rfl ?_ | refine J_no rfl ?_))
  refine J_region ?_
  refine JL_evO (gs := [999]) rfl ?_
  refine JL_callR [] (words_fn s (by omega)) rfl rfl rfl rfl (by kernel_rfl) trivial (fun _ => rfl) ?_
  rintro v H' ⟨Aw, nw, hnw, rfl, rfl⟩
  refine ⟨rfl, ?_⟩
  rw [hW] at hnw ⊢
  refine JL_all [] rfl ?_
  refine J_know (own_is 0 rfl) fun ⟨_, _, hAw, hlw⟩ => ?_
  obtain ⟨gw, hAw⟩ := own_at hAw hlw
  have hAw' := strs_nat hAw
  (repeat' (first | refine J_seq ?_ | refine J_skip ?_ | refine J_yes rfl ?_ | refine J_no rfl ?_))
  refine J_region ?_
  refine JL_all [] rfl ?_
  (repeat' (first | refine J_seq ?_ | refine J_skip ?_ | refine J_yes rfl ?_ | refine J_no rfl ?_))
  refine J_region ?_
  refine JL_all [] rfl ?_
  refine J_block ?_
  refine J_loop (σ := Nat × Nat) (fun q => [(6, .int .i64 q.1), (5, .int .i64 q.2), (4, .slice Aw nw nw), (0, str s)]) (fun _ => [.own (.slice Aw nw nw) 9 1 nw (strs W)] ++ V.heap) (fun q => q.1 ≤ W.length ∧ q.2 ≤ s.length ∧ wordsL (s.drop q.2) = W.drop q.1) (fun q => W.length - q.1)
    (0, 0) [0, 1, 2, 3] ⟨rfl, rfl, rfl, rfl, trivial⟩ (by decide) rfl ⟨Nat.zero_le _, Nat.zero_le _, by simpa using hW⟩ ?_
  rintro ⟨i, at0⟩ ⟨hi, hat, hinv⟩
  simp only at hi hat hinv ⊢
  (repeat' (first | refine J_seq ?_ | refine J_skip ?_ | refine J_yes rfl ?_ | refine J_no rfl ?_))
  refine J_region ?_
  refine JL_all [] rfl ?_
  refine J_dec rfl (fun hlt => J_skip ?_) (fun hge => J_exit ?_)
  · have hilt : i < W.length := by
      have h' : (i : Int) < nw := hlt
      omega
    refine J_seq (J_block ?_)
    refine J_seq ?_
    refine J_block ?_
    refine J_loop (σ := Nat) (fun at1 => [(5, .int .i64 at1), (6, .int .i64 i), (4, .slice Aw nw nw), (0, str s)]) (fun _ => [.own (.slice Aw nw nw) 9 1 nw (strs W)] ++ V.heap) (fun at1 => at1 ≤ s.length ∧ wordsL (s.drop at1) = W.drop i) (fun at1 => s.length - at1)
      at0 [0, 1, 2, 3] ⟨rfl, rfl, rfl, rfl, trivial⟩ (by decide) rfl ⟨hat, hinv⟩ ?_
    clear hat hinv at0
    rintro at1 ⟨hat, hinv⟩
    refine J_seq ?_
    refine J_cut [(51, .bool (cdec (sepAt s at1))), (5, .int .i64 at1), (6, .int .i64 i), (4, .slice Aw nw nw), (0, str s)] ([.own (.slice Aw nw nw) 9 1 nw (strs W)] ++ V.heap) ?_ ?_
    · (repeat' (first | refine J_seq ?_ | refine J_skip ?_ | refine J_yes rfl ?_ | refine J_no rfl ?_))
      refine J_region ?_
      refine JL_evO (gs := [999]) rfl ?_
      refine JL_evO (gs := [999]) rfl ?_
      refine JL_evO (gs := [999]) rfl ?_
      refine JL_evO (gs := [999]) rfl ?_
      refine JL_evO (gs := [999]) rfl ?_
      by_cases hl : (at1 : Int) < (s.length : Int)
      case neg =>
        refine JL_set 34 (v' := .bool false) rfl (congrArg Value.bool (cdec_no hl)) ?_
        refine JL_all [4, 9, 15] rfl ?_
        refine ⟨[0, 1, 2, 3], ⟨congrArg some (congrArg Value.bool (cdec_no ?_).symm), rfl, rfl, rfl, rfl, trivial⟩, by decide, rfl⟩
        rintro ⟨b, hb, _⟩
        have := (List.getElem?_eq_some_iff.1 hb).1
        omega
      refine JL_set 34 (v' := .bool true) rfl (congrArg Value.bool (cdec_yes hl)) ?_
      obtain ⟨b, hb⟩ : ∃ b, s[at1]? = some b := ⟨s[at1]'(by omega), List.getElem?_eq_getElem (by omega)⟩
      have hsa : sepAt s at1 ↔ ((b.toNat : Int) = 32 ∨ (b.toNat : Int) = 9 ∨ (b.toNat : Int) = 13) := by
        rw [← sep_int]
        exact ⟨fun ⟨b', h1, h2⟩ => by rw [hb] at h1; obtain rfl := Option.some.inj h1; exact h2, fun h => ⟨b, hb, h⟩⟩
      refine JL_run [4] rfl ?_
      refine JL_val [4] (OpV_chr rfl rfl rfl rfl hb) rfl ?_
      refine JL_run [4] rfl ?_
      by_cases h1 : (b.toNat : Int) = 32
      · refine JL_set 39 (v' := .bool true) rfl (congrArg Value.bool (cdec_yes h1)) ?_
        refine JL_run [4, 9] rfl ?_
        refine JL_all [4, 9, 15] rfl ?_
        exact ⟨[0, 1, 2, 3], ⟨congrArg some (congrArg Value.bool (cdec_yes (hsa.2 (.inl h1))).symm), rfl, rfl, rfl, rfl, trivial⟩, by decide, rfl⟩
      refine JL_set 39 (v' := .bool false) rfl (congrArg Value.bool (cdec_no h1)) ?_
      refine JL_run [4, 9] rfl ?_
      refine JL_val [4, 9] (OpV_chr rfl rfl rfl rfl hb) rfl ?_
      refine JL_run [4, 9] rfl ?_
      by_cases h2 : (b.toNat : Int) = 9
      · refine JL_set 45 (v' := .bool true) rfl (congrArg Value.bool (cdec_yes h2)) ?_
        refine JL_all [4, 9, 15] rfl ?_
        exact ⟨[0, 1, 2, 3], ⟨congrArg some (congrArg Value.bool (cdec_yes (hsa.2 (.inr (.inl h2)))).symm), rfl, rfl, rfl, rfl, trivial⟩, by decide, rfl⟩
      refine JL_set 45 (v' := .bool false) rfl (congrArg Value.bool (cdec_no h2)) ?_
      refine JL_run [4, 9, 15] rfl ?_
      refine JL_val [4, 9, 15] (OpV_chr rfl rfl rfl rfl hb) rfl ?_
      refine JL_all [4, 9, 15] rfl ?_
      exact ⟨[0, 1, 2, 3], ⟨congrArg some (congrArg Value.bool (cdec_iff ⟨fun h => hsa.2 (.inr (.inr h)), fun h => (hsa.1 h).elim (fun k => absurd k h1) fun k => k.elim (fun k => absurd k h2) id⟩)), rfl, rfl, rfl, rfl, trivial⟩, by decide, rfl⟩
    refine J_dec rfl (fun hsep => J_skip ?_) (fun hnsep => J_exit ?_)
    · have hl : at1 < s.length := by
        obtain ⟨b, hb, _⟩ := hsep
        exact (List.getElem?_eq_some_iff.1 hb).1
      refine J_block ?_
      (repeat' (first | refine J_seq ?_ | refine J_skip ?_ | refine J_yes rfl ?_ | refine J_no rfl ?_))
      refine J_region ?_
      refine JL_all [] rfl ?_
      refine ⟨at1 + 1, [0, 1, 2, 3], ⟨?_, rfl, rfl, rfl, trivial⟩, by decide, rfl, ⟨by omega, by rw [skip_sep hsep]; exact hinv⟩, by omega⟩
      show some (Value.int .i64 (IntKind.i64.wrap ((at1 : Int) + 1))) = _
      rw [w64 (by omega)]; rfl
    obtain ⟨t, r, e1, e2, e3, e4, e5⟩ := word_at (t := []) hinv hilt hnsep
    have hlen : s.length = at1 + t.length + r.length := by
      have := congrArg List.length e1
      rw [List.length_drop, List.length_append] at this
      omega
    obtain rfl := hAw' (by rintro rfl; simp at hilt)
    have htake : (s.drop at1).take (at1 + t.length - at1) = t := by rw [e1, Nat.add_sub_cancel_left]; simp
    have hdr : s.drop (at1 + t.length) = r := by rw [← List.drop_drop, e1]; simp
    have hnwi : i < nw := by omega
    (repeat' (first | refine J_seq ?_ | refine J_skip ?_ | refine J_yes rfl ?_ | refine J_no rfl ?_))
    refine J_walk 34 [(0, true), (1, true), (2, true), (3, true), (4, true), (5, true), (6, true), (7, true), (8, true), (9, true), (10, true), (11, true), (12, true), (13, true), (14, true), (15, true), (16, true), (17, true), (18, true), (19, true), (20, true), (21, true), (22, true), (23, true), (24, true), (25, true), (26, true), (27, true), (28, true), (29, true), (30, true), (31, true), (32, true), (33, true)] [0, 1, 2, 3] (by kernel_rfl) (by decide) rfl ?_
    refine JW_run [] rfl ?_
    refine JW_still [] rfl (idx1 rfl rfl rfl rfl rfl hnwi) rfl ?_
    refine JW_still [] rfl (OpV_load_of (b := gw) (off := 0) (i := i) (cs := strs W) (v := str t) (c := .own (.slice (some ⟨gw, 0, none⟩) nw nw) 9 1 nw (strs W)) 0 rfl rfl rfl shows_own (strs_get e3)) rfl ?_
    refine JW_still [] rfl (OpV_eqs (m := []) rfl rfl rfl) rfl ?_
    refine JW_evO (gs := []) rfl rfl ?_
    refine JW_set 59 (v' := .bool false) rfl (congrArg Value.bool (cdec_no e2)) ?_
    refine JW_run [5] rfl ?_
    refine JW_still [5] rfl (idx1 rfl rfl rfl rfl rfl hnwi) rfl ?_
    refine JW_still [5] rfl (OpV_load_of (b := gw) (off := 0) (i := i) (cs := strs W) (v := str t) (c := .own (.slice (some ⟨gw, 0, none⟩) nw nw) 9 1 nw (strs W)) 0 rfl rfl rfl shows_own (strs_get e3)) rfl ?_
    refine JW_evO (gs := [5]) rfl rfl ?_
    refine JW_evO (gs := [5]) rfl rfl ?_
    refine JW_set 66 (v' := .int .i64 ((at1 + t.length : Nat) : Int)) rfl (congrArg (Value.int .i64) ((w64 (n := (at1 : Int) + t.length) (by omega)).trans (by omega))) ?_
    refine JW_run [5] rfl ?_
    refine JW_set 71 (v' := .bool false) rfl (congrArg Value.bool (cdec_no (show ¬ (s.length : Int) < ((at1 + t.length : Nat) : Int) by omega))) ?_
    refine JW_run [5, 17] rfl ?_
    refine JW_still [5, 17] rfl (idx1 rfl rfl rfl rfl rfl hnwi) rfl ?_
    refine JW_still [5, 17] rfl (OpV_load_of (b := gw) (off := 0) (i := i) (cs := strs W) (v := str t) (c := .own (.slice (some ⟨gw, 0, none⟩) nw nw) 9 1 nw (strs W)) 0 rfl rfl rfl shows_own (strs_get e3)) rfl ?_
    refine JW_evO (gs := [5, 17]) rfl rfl ?_
    refine JW_evO (gs := [5, 17]) rfl rfl ?_
    refine JW_set 80 (v' := .int .i64 ((at1 + t.length : Nat) : Int)) rfl (congrArg (Value.int .i64) ((w64 (n := (at1 : Int) + t.length) (by omega)).trans (by omega))) ?_
    refine JW_still [5, 17] rfl (OpV_sub rfl rfl rfl rfl rfl (by omega) (by omega)) rfl ?_
    refine JW_set 81 (v' := str t) rfl (congrArg str htake) ?_
    refine JW_run [5, 17] rfl ?_
    refine JW_still [5, 17] rfl (idx1 rfl rfl rfl rfl rfl hnwi) rfl ?_
    refine JW_still [5, 17] rfl (OpV_load_of (b := gw) (off := 0) (i := i) (cs := strs W) (v := str t) (c := .own (.slice (some ⟨gw, 0, none⟩) nw nw) 9 1 nw (strs W)) 0 rfl rfl rfl shows_own (strs_get e3)) rfl ?_
    refine JW_still [5, 17] rfl (OpV_nes rfl rfl rfl) rfl ?_
    refine JW_all [5, 17] rfl ?_
    refine JL_nil ?_
    refine J_dec rfl (fun h => absurd rfl h) (fun _ => J_skip ?_)
    (repeat' (first | refine J_seq ?_ | refine J_skip ?_ | refine J_yes rfl ?_ | refine J_no rfl ?_))
    refine J_region ?_
    refine JL_run [] rfl ?_
    refine JL_val [] (idx1 rfl rfl rfl rfl rfl hnwi) rfl ?_
    refine JL_val [] (OpV_load_of (b := gw) (off := 0) (i := i) (cs := strs W) (v := str t) (c := .own (.slice (some ⟨gw, 0, none⟩) nw nw) 9 1 nw (strs W)) 0 rfl rfl rfl shows_own (strs_get e3)) rfl ?_
    refine JL_evO (gs := [999]) rfl ?_
    refine JL_evO (gs := [999]) rfl ?_
    refine JL_set 94 (v' := .int .i64 ((at1 + t.length : Nat) : Int)) rfl (congrArg (Value.int .i64) ((w64 (n := (at1 : Int) + t.length) (by omega)).trans (by omega))) ?_
    refine JL_all [] rfl ?_
    refine J_cut [(116, .bool false), (5, .int .i64 ((at1 + t.length : Nat) : Int)), (6, .int .i64 i), (4, .slice (some ⟨gw, 0, none⟩) nw nw), (0, str s)] ([.own (.slice (some ⟨gw, 0, none⟩) nw nw) 9 1 nw (strs W)] ++ V.heap) ?_ ?_
    · (repeat' (first | refine J_seq ?_ | refine J_skip ?_ | refine J_yes rfl ?_ | refine J_no rfl ?_))
      refine J_region ?_
      refine JL_evO (gs := [999]) rfl ?_
      refine JL_evO (gs := [999]) rfl ?_
      refine JL_evO (gs := [999]) rfl ?_
      refine JL_evO (gs := [999]) rfl ?_
      refine JL_evO (gs := [999]) rfl ?_
      by_cases hl : ((at1 + t.length : Nat) : Int) < (s.length : Int)
      case neg =>
        refine JL_set 99 (v' := .bool false) rfl (congrArg Value.bool (cdec_no hl)) ?_
        refine JL_all [4, 10, 16] rfl ?_
        exact ⟨[0, 1, 2, 3], ⟨rfl, rfl, rfl, rfl, rfl, trivial⟩, by decide, rfl⟩
      refine JL_set 99 (v' := .bool true) rfl (congrArg Value.bool (cdec_yes hl)) ?_
      obtain ⟨b, hb⟩ : ∃ b, s[at1 + t.length]? = some b := ⟨s[at1 + t.length]'(by omega), List.getElem?_eq_getElem (by omega)⟩
      have hbs := (sep_int b).1 (e5 b _ (hdr.symm.trans (drop_cons hb)))
      refine JL_run [4] rfl ?_
      refine JL_val [4] (OpV_chr rfl rfl rfl rfl hb) rfl ?_
      refine JL_run [4] rfl ?_
      by_cases h1 : (b.toNat : Int) = 32
      · refine JL_set 105 (v' := .bool false) rfl (congrArg Value.bool (cdec_no (fun k => k h1))) ?_
        refine JL_all [4, 10, 16] rfl ?_
        exact ⟨[0, 1, 2, 3], ⟨rfl, rfl, rfl, rfl, rfl, trivial⟩, by decide, rfl⟩
      refine JL_set 105 (v' := .bool true) rfl (congrArg Value.bool (cdec_yes h1)) ?_
      refine JL_run [4, 10] rfl ?_
      refine JL_val [4, 10] (OpV_chr rfl rfl rfl rfl hb) rfl ?_
      refine JL_run [4, 10] rfl ?_
      by_cases h2 : (b.toNat : Int) = 9
      · refine JL_set 111 (v' := .bool false) rfl (congrArg Value.bool (cdec_no (fun k => k h2))) ?_
        refine JL_all [4, 10, 16] rfl ?_
        exact ⟨[0, 1, 2, 3], ⟨rfl, rfl, rfl, rfl, rfl, trivial⟩, by decide, rfl⟩
      refine JL_set 111 (v' := .bool true) rfl (congrArg Value.bool (cdec_yes h2)) ?_
      refine JL_run [4, 10, 16] rfl ?_
      refine JL_val [4, 10, 16] (OpV_chr rfl rfl rfl rfl hb) rfl ?_
      refine JL_all [4, 10, 16] rfl ?_
      have h3 : (b.toNat : Int) = 13 := hbs.elim (fun k => absurd k h1) fun k => k.elim (fun k => absurd k h2) id
      exact ⟨[0, 1, 2, 3], ⟨congrArg some (congrArg Value.bool (cdec_no (fun k => k h3))), rfl, rfl, rfl, rfl, trivial⟩, by decide, rfl⟩
    refine J_no rfl (J_skip ?_)
    (repeat' (first | refine J_seq ?_ | refine J_skip ?_ | refine J_yes rfl ?_ | refine J_no rfl ?_))
    refine J_region ?_
    refine JL_all [] rfl ?_
    refine ⟨(i + 1, at1 + t.length), [0, 1, 2, 3], ⟨?_, rfl, rfl, rfl, trivial⟩, by decide, rfl, ⟨by simp only; omega, by simp only; omega, by simp only; rw [hdr]; exact e4⟩, by simp only; omega⟩
    show some (Value.int .i64 (IntKind.i64.wrap ((i : Int) + 1))) = _
    rw [w64 (by omega)]; rfl
  have hend : wordsL (s.drop at0) = [] := by
    rw [hinv, List.drop_eq_nil_iff]
    have h' : ¬ (i : Int) < nw := hge
    omega
  clear hinv hi hge
  refine J_drop [1, 2, 3] (by decide) rfl ?_
  refine J_seq ?_
  refine J_block ?_
  refine J_loop (σ := Nat) (fun at1 => [(5, .int .i64 at1), (0, str s)]) (fun _ => V.heap) (fun at1 => at1 ≤ s.length ∧ wordsL (s.drop at1) = []) (fun at1 => s.length - at1)
    at0 [0, 1, 2] ⟨rfl, rfl, trivial⟩ (by decide) rfl ⟨hat, hend⟩ ?_
  clear hat hend at0
  rintro at1 ⟨hat, hend⟩
  (repeat' (first | refine J_seq ?_ | refine J_skip ?_ | refine J_yes rfl ?_ | refine J_no rfl ?_))
  refine J_region ?_
  refine JL_all [] rfl ?_
  refine J_dec rfl (fun hl => J_skip ?_) (fun _ => J_exit ?_)
  · have hl' : at1 < s.length := by
      have h' : (at1 : Int) < s.length := hl
      omega
    obtain ⟨b, hb⟩ : ∃ b, s[at1]? = some b := ⟨s[at1], List.getElem?_eq_getElem hl'⟩
    have hbs := no_words hend hb
    have hbi := (sep_int b).1 hbs
    refine J_block ?_
    refine J_seq ?_
    refine J_cut [(136, .bool false), (5, .int .i64 at1), (0, str s)] V.heap ?_ ?_
    · (repeat' (first | refine J_seq ?_ | refine J_skip ?_ | refine J_yes rfl ?_ | refine J_no rfl ?_))
      refine J_region ?_
      refine JL_evO (gs := [999]) rfl ?_
      refine JL_evO (gs := [999]) rfl ?_
      refine JL_val [] (OpV_chr rfl rfl rfl rfl hb) rfl ?_
      refine JL_evO (gs := [999]) rfl ?_
      refine JL_evO (gs := [999]) rfl ?_
      by_cases h1 : (b.toNat : Int) = 32
      · refine JL_set 125 (v' := .bool false) rfl (congrArg Value.bool (cdec_no (fun k => k h1))) ?_
        refine JL_all [4, 10] rfl ?_
        exact ⟨[0, 1, 2], ⟨rfl, rfl, rfl, trivial⟩, by decide, rfl⟩
      refine JL_set 125 (v' := .bool true) rfl (congrArg Value.bool (cdec_yes h1)) ?_
      refine JL_run [4] rfl ?_
      refine JL_val [4] (OpV_chr rfl rfl rfl rfl hb) rfl ?_
      refine JL_run [4] rfl ?_
      by_cases h2 : (b.toNat : Int) = 9
      · refine JL_set 131 (v' := .bool false) rfl (congrArg Value.bool (cdec_no (fun k => k h2))) ?_
        refine JL_all [4, 10] rfl ?_
        exact ⟨[0, 1, 2], ⟨rfl, rfl, rfl, trivial⟩, by decide, rfl⟩
      refine JL_set 131 (v' := .bool true) rfl (congrArg Value.bool (cdec_yes h2)) ?_
      refine JL_run [4, 10] rfl ?_
      refine JL_val [4, 10] (OpV_chr rfl rfl rfl rfl hb) rfl ?_
      refine JL_all [4, 10] rfl ?_
      have h3 : (b.toNat : Int) = 13 := hbi.elim (fun k => absurd k h1) fun k => k.elim (fun k => absurd k h2) id
      exact ⟨[0, 1, 2], ⟨congrArg some (congrArg Value.bool (cdec_no (fun k => k h3))), rfl, rfl, trivial⟩, by decide, rfl⟩
    refine J_no rfl (J_skip ?_)
    (repeat' (first | refine J_seq ?_ | refine J_skip ?_ | refine J_yes rfl ?_ | refine J_no rfl ?_))
    refine J_region ?_
    refine JL_all [] rfl ?_
    refine ⟨at1 + 1, [0, 1, 2], ⟨?_, rfl, trivial⟩, by decide, rfl, ⟨by omega, by rw [skip_sep ⟨b, hb, hbs⟩]; exact hend⟩, by omega⟩
    show some (Value.int .i64 (IntKind.i64.wrap ((at1 : Int) + 1))) = _
    rw [w64 (by omega)]; rfl
  (repeat' (first | refine J_seq ?_ | refine J_skip ?_ | refine J_yes rfl ?_ | refine J_no rfl ?_))
  refine J_region ?_
  refine JL_all [] rfl ?_
  (repeat' (first | refine J_seq ?_ | refine J_skip ?_ | refine J_yes rfl ?_ | refine J_no rfl ?_))
  refine J_region ?_
  refine JL_all [] rfl ?_
  refine J_block ?_
  refine J_loop (σ := Nat) (fun i => [(8, .int .i64 i), (7, .int .i64 (((s.take i).count 10 : Nat) : Int)), (0, str s)]) (fun _ => V.heap) (fun i => i ≤ s.length) (fun i => s.length - i)
    0 [0, 1, 2] ⟨rfl, rfl, rfl, trivial⟩ (by decide) rfl (Nat.zero_le _) ?_
  intro i hi
  have hcl := List.count_le_length (a := (10 : UInt8)) (l := s.take i)
  rw [List.length_take] at hcl
  (repeat' (first | refine J_seq ?_ | refine J_skip ?_ | refine J_yes rfl ?_ | refine J_no rfl ?_))
  refine J_region ?_
  refine JL_all [] rfl ?_
  refine J_dec rfl (fun hl => J_skip ?_) (fun hge => J_exit ?_)
  · have hl' : i < s.length := by
      have h' : (i : Int) < s.length := hl
      omega
    obtain ⟨b, hb⟩ : ∃ b, s[i]? = some b := ⟨s[i], List.getElem?_eq_getElem hl'⟩
    have hcs := count_succ hb
    refine J_seq (J_block ?_)
    (repeat' (first | refine J_seq ?_ | refine J_skip ?_ | refine J_yes rfl ?_ | refine J_no rfl ?_))
    refine J_region ?_
    refine JL_evO (gs := [999]) rfl ?_
    refine JL_evO (gs := [999]) rfl ?_
    refine JL_val [] (OpV_chr rfl rfl rfl rfl hb) rfl ?_
    refine JL_all [] rfl ?_
    refine J_dec rfl (fun h10 => ?_) (fun h10 => J_skip ?_)
    · have hb10 : b = 10 := UInt8.toNat_inj.1 (by have h' : (b.toNat : Int) = 10 := h10; show b.toNat = 10; omega)
      rw [if_pos hb10] at hcs
      (repeat' (first | refine J_seq ?_ | refine J_skip ?_ | refine J_yes rfl ?_ | refine J_no rfl ?_))
      refine J_region ?_
      refine JL_all [] rfl ?_
      (repeat' (first | refine J_seq ?_ | refine J_skip ?_ | refine J_yes rfl ?_ | refine J_no rfl ?_))
      refine J_region ?_
      refine JL_all [] rfl ?_
      refine ⟨i + 1, [0, 1, 2], ⟨?_, ?_, rfl, trivial⟩, by decide, rfl, by omega, by omega⟩
      · show some (Value.int .i64 (IntKind.i64.wrap ((i : Int) + 1))) = _
        rw [w64 (by omega)]; rfl
      · show some (Value.int .i64 (IntKind.i64.wrap ((((s.take i).count 10 : Nat) : Int) + 1))) = _
        rw [w64 (by omega), hcs]; rfl
    · have hb10 : ¬ b = 10 := by
        rintro rfl
        exact h10 (by decide)
      rw [if_neg hb10] at hcs
      (repeat' (first | refine J_seq ?_ | refine J_skip ?_ | refine J_yes rfl ?_ | refine J_no rfl ?_))
      refine J_region ?_
      refine JL_all [] rfl ?_
      refine ⟨i + 1, [0, 1, 2], ⟨?_, ?_, rfl, trivial⟩, by decide, rfl, by omega, by omega⟩
      · show some (Value.int .i64 (IntKind.i64.wrap ((i : Int) + 1))) = _
        rw [w64 (by omega)]; rfl
      · rw [hcs]; rfl
  have hil : i = s.length := by
    have h' : ¬ (i : Int) < s.length := hge
    omega
  subst hil
  rw [List.take_length] at hcl ⊢
  obtain ⟨mo, hmo⟩ : ∃ mo : Nat, mo = (if s ≠ [] ∧ s.getLast? ≠ some 10 then 1 else 0) := ⟨_, rfl⟩
  have hmo1 : mo ≤ 1 := by rw [hmo]; split <;> omega
  (repeat' (first | refine J_seq ?_ | refine J_skip ?_ | refine J_yes rfl ?_ | refine J_no rfl ?_))
  refine J_region ?_
  refine JL_all [] rfl ?_
  refine J_cut [(9, .int .i64 mo), (7, .int .i64 ((s.count 10 : Nat) : Int)), (0, str s)] V.heap ?_ ?_
  · refine J_seq ?_
    (repeat' (first | refine J_seq ?_ | refine J_skip ?_ | refine J_yes rfl ?_ | refine J_no rfl ?_))
    refine J_region ?_
    refine JL_evO (gs := [999]) rfl ?_
    refine JL_val [] (OpV_nes (m := []) rfl rfl rfl) rfl ?_
    refine JL_evO (gs := [999]) rfl ?_
    by_cases h0 : s = []
    · refine JL_set 153 (v' := .bool false) rfl (congrArg Value.bool (cdec_no (fun k => k h0))) ?_
      refine JL_all [2] rfl ?_
      refine J_no rfl (J_skip ?_)
      exact ⟨[0, 1, 2], ⟨by rw [hmo, if_neg (fun k => k.1 h0)]; rfl, rfl, rfl, trivial⟩, by decide, rfl⟩
    have hpos := List.length_pos_iff.2 h0
    obtain ⟨b, hb⟩ : ∃ b, s[s.length - 1]? = some b := ⟨s[s.length - 1]'(by omega), List.getElem?_eq_getElem (by omega)⟩
    have hlast : s.getLast? = some b := by rw [List.getLast?_eq_getElem?, hb]
    refine JL_set 153 (v' := .bool true) rfl (congrArg Value.bool (cdec_yes h0)) ?_
    refine JL_evO (gs := [2]) rfl ?_
    refine JL_evO (gs := [2]) rfl ?_
    refine JL_evO (gs := [2]) rfl ?_
    refine JL_evO (gs := [2]) rfl ?_
    refine JL_set 157 (v' := .int .i64 ((s.length - 1 : Nat) : Int)) rfl (congrArg (Value.int .i64) ((w64 (n := (s.length : Int) - 1) (by omega)).trans (by omega))) ?_
    refine JL_val [2] (OpV_chr rfl rfl rfl rfl hb) rfl ?_
    refine JL_all [2] rfl ?_
    refine J_dec rfl (fun h10 => ?_) (fun h10 => J_skip ?_)
    · have hb10 : ¬ b = 10 := by
        rintro rfl
        exact h10 (by decide)
      (repeat' (first | refine J_seq ?_ | refine J_skip ?_ | refine J_yes rfl ?_ | refine J_no rfl ?_))
      refine J_region ?_
      refine JL_all [] rfl ?_
      exact ⟨[0, 1, 2], ⟨by rw [hmo, if_pos ⟨h0, by rw [hlast]; simpa using hb10⟩]; rfl, rfl, rfl, trivial⟩, by decide, rfl⟩
    · have hb10 : b = 10 := UInt8.toNat_inj.1 (by have h' : (b.toNat : Int) = 10 := Classical.not_not.1 h10; show b.toNat = 10; omega)
      exact ⟨[0, 1, 2], ⟨by rw [hmo, if_neg (fun k => k.2 (by rw [hlast, hb10]))]; rfl, rfl, rfl, trivial⟩, by decide, rfl⟩
  obtain ⟨L, hL⟩ : ∃ L, linesL s = L := ⟨_, rfl⟩
  have hLl := lines_le s
  have hLn := lines_len s
  have hLj := lines_join s
  rw [← hmo] at hLn
  rw [hL] at hLl hLn hLj
  have hLt : ((L.map (· ++ [10])).flatten).length ≤ s.length + 1 := by rcases hLj with h | h <;> rw [h] <;> simp
  (repeat' (first | refine J_seq ?_ | refine J_skip ?_ | refine J_yes rfl ?_ | refine J_no rfl ?_))
  refine J_region ?_
  refine JL_evO (gs := [999]) rfl ?_
  refine JL_callR [] (lines_fn V s (by omega)) rfl rfl rfl rfl (by kernel_rfl) ⟨⟨0, by simp, rfl⟩, ⟨1, by simp, rfl⟩, ⟨2, by simp, rfl⟩, trivial⟩ (fun _ => rfl) ?_
  rintro v H' ⟨Al, nl, hnl, rfl, rfl⟩
  refine ⟨rfl, ?_⟩
  rw [hL] at hnl ⊢
  refine JL_all [] rfl ?_
  refine J_know (own_is 0 rfl) fun ⟨_, _, hAl, hll⟩ => ?_
  obtain ⟨gl, hAl⟩ := own_at hAl hll
  have hAl' := strs_nat hAl
  (repeat' (first | refine J_seq ?_ | refine J_skip ?_ | refine J_yes rfl ?_ | refine J_no rfl ?_))
  refine J_region ?_
  refine JL_all [] rfl ?_
  (repeat' (first | refine J_seq ?_ | refine J_skip ?_ | refine J_yes rfl ?_ | refine J_no rfl ?_))
  refine J_region ?_
  refine JL_all [] rfl ?_
  refine J_block ?_
  refine J_loop (σ := Nat) (fun i => [(12, .int .i64 i), (11, str (endsT L i)), (10, .slice Al nl nl), (9, .int .i64 mo), (7, .int .i64 ((s.count 10 : Nat) : Int)), (0, str s)]) (fun _ => [.own (.slice Al nl nl) 9 1 nl (strs L)] ++ V.heap) (fun i => i ≤ L.length) (fun i => L.length - i)
    0 [0, 1, 2, 3] ⟨rfl, rfl, rfl, rfl, rfl, rfl, trivial⟩ (by decide) rfl (Nat.zero_le _) ?_
  intro i hi
  have hel := endsT_le L i
  (repeat' (first | refine J_seq ?_ | refine J_skip ?_ | refine J_yes rfl ?_ | refine J_no rfl ?_))
  refine J_region ?_
  refine JL_all [] rfl ?_
  refine J_dec rfl (fun hl => J_skip ?_) (fun hge => J_exit ?_)
  · have hl' : i < L.length := by
      have h' : (i : Int) < nl := hl
      omega
    obtain ⟨x, hx⟩ : ∃ x, L[i]? = some x := ⟨L[i], List.getElem?_eq_getElem hl'⟩
    have hel2 := endsT_le L (i + 1)
    rw [endsT_succ hx] at hel2
    simp only [List.length_append, List.length_cons, List.length_nil] at hel2
    obtain rfl := hAl' (by rintro rfl; simp at hl')
    refine J_seq (J_block ?_)
    (repeat' (first | refine J_seq ?_ | refine J_skip ?_ | refine J_yes rfl ?_ | refine J_no rfl ?_))
    refine J_region ?_
    refine JL_run [] rfl ?_
    refine JL_val [] (idx1 rfl rfl rfl rfl rfl (by omega)) rfl ?_
    refine JL_val [] (OpV_load_of (b := gl) (off := 0) (i := i) (cs := strs L) (v := str x) (c := .own (.slice (some ⟨gl, 0, none⟩) nl nl) 9 1 nl (strs L)) 0 rfl rfl rfl shows_own (strs_get hx)) rfl ?_
    refine JL_val [] (OpV_cat rfl rfl rfl (by omega)) rfl ?_
    refine JL_val [] (OpV_cat (m := [10]) rfl rfl rfl (by simp; omega)) rfl ?_
    refine JL_all [] rfl ?_
    (repeat' (first | refine J_seq ?_ | refine J_skip ?_ | refine J_yes rfl ?_ | refine J_no rfl ?_))
    refine J_region ?_
    refine JL_all [] rfl ?_
    refine ⟨i + 1, [0, 1, 2, 3], ⟨?_, ?_, rfl, rfl, rfl, rfl, trivial⟩, by decide, rfl, by omega, by omega⟩
    · show some (Value.int .i64 (IntKind.i64.wrap ((i : Int) + 1))) = _
      rw [w64 (by omega)]; rfl
    · rw [endsT_succ hx]; rfl
  have hil : i = L.length := by
    have h' : ¬ (i : Int) < nl := hge
    omega
  subst hil
  have hall : endsT L L.length = (L.map (· ++ [10])).flatten := by unfold endsT; rw [List.take_length]
  (repeat' (first | refine J_seq ?_ | refine J_skip ?_ | refine J_yes rfl ?_ | refine J_no rfl ?_))
  refine J_region ?_
  refine JL_evO (gs := [999]) rfl ?_
  refine JL_evO (gs := [999]) rfl ?_
  refine JL_evO (gs := [999]) rfl ?_
  refine JL_evO (gs := [999]) rfl ?_
  refine JL_evO (gs := [999]) rfl ?_
  refine JL_set 180 (v' := .int .i64 ((s.count 10 + mo : Nat) : Int)) rfl (congrArg (Value.int .i64) ((w64 (n := ((s.count 10 : Nat) : Int) + mo) (by omega)).trans (by omega))) ?_
  refine JL_evO (gs := [999]) rfl ?_
  refine JL_evO (gs := [999]) rfl ?_
  refine JL_set 182 (v' := .bool true) rfl (congrArg Value.bool (cdec_yes (show (nl : Int) = ((s.count 10 + mo : Nat) : Int) by omega))) ?_
  refine JL_evO (gs := [6]) rfl ?_
  refine JL_evO (gs := [6]) rfl ?_
  refine JL_val [6] (OpV_eqs rfl rfl rfl) rfl ?_
  refine JL_evO (gs := [6]) rfl ?_
  rw [hall]
  by_cases hsame : s = (L.map (· ++ [10])).flatten
  · refine JL_set 186 (v' := .bool true) rfl (congrArg Value.bool (cdec_yes hsame)) ?_
    refine JL_all [6, 10] rfl ?_
    exact J_ret ⟨_, rfl, rfl⟩
  · have hs10 := hLj.resolve_left (fun h => hsame h.symm)
    refine JL_set 186 (v' := .bool false) rfl (congrArg Value.bool (cdec_no hsame)) ?_
    refine JL_evO (gs := [6, 10]) rfl ?_
    refine JL_val [6, 10] (OpV_cat (m := [10]) rfl rfl rfl (by simp; omega)) rfl ?_
    refine JL_evO (gs := [6, 10]) rfl ?_
    refine JL_val [6, 10] (OpV_eqs rfl rfl rfl) rfl ?_
    refine JL_all [6, 10] rfl ?_
    exact J_ret ⟨_, rfl, congrArg Value.bool (cdec_yes hs10.symm)⟩
theorem textOrder_fn (V : LibV) (a : ByteArray) (wa : a.size ≤ 140737488351232) : Fn 5 [.string a] [] V.heap fun v _ => v = .bool true := by
  rw [← str_data a]
  exact textOrderL_fn V _ (by rw [← Lib.size_eq]; exact wa)
end Go.Proofs.YtkiadfpkgpgbiaaDoor
