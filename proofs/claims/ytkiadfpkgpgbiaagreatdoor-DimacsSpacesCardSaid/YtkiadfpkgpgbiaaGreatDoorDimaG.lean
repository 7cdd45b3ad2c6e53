
/- Networks read line by line: the whole text. -/
import Derived.Test.YtkiadfpkgpgbiaaGreatDoorDimaF
set_option linter.unusedVariables false
set_option linter.unusedSimpArgs false
namespace Go.Proofs.YtkiadfpkgpgbiaaGreatDoor
open Go.RowKit
def parseR (q : Net × Nat × Int) (v : Value) (H' : Heap) : Prop := ∃ (A : Option Addr) (c : Nat), v = .tuple #[netV q.1 A c, .int .i64 q.2.1, .int .i64 q.2.2] ∧ H' = [.own (.slice A q.1.arcs.length c) 44 3 q.1.arcs.length (arcs q.1.arcs)]
theorem wordsGo_each : ∀ (l cur : List UInt8), ∀ x ∈ wordsGo cur l, x.length ≤ cur.length + l.length
  | [], cur, x, hx => by
    unfold wordsGo at hx
    split at hx
    · cases hx
    · obtain rfl := List.mem_singleton.1 hx; simp
  | b :: l, cur, x, hx => by
    unfold wordsGo at hx
    rw [List.length_cons]
    split at hx
    · split at hx
      · have := wordsGo_each l [] x hx
        simp at this; omega
      · rcases List.mem_cons.1 hx with rfl | hx
        · omega
        · have := wordsGo_each l [] x hx
          simp at this; omega
    · have := wordsGo_each l _ x hx
      simp at this; omega
theorem words_each (l : List UInt8) : ∀ x ∈ wordsL l, x.length ≤ l.length := fun x hx => by
  have := wordsGo_each l [] x hx
  simpa using this
theorem splitGo_each (c : UInt8) : ∀ (l cur : List UInt8), ∀ x ∈ splitGo c cur l, x.length ≤ cur.length + l.length
  | [], cur, x, hx => by
    obtain rfl := List.mem_singleton.1 hx; simp
  | b :: l, cur, x, hx => by
    unfold splitGo at hx
    rw [List.length_cons]
    split at hx
    · rcases List.mem_cons.1 hx with rfl | hx
      · omega
      · have := splitGo_each c l [] x hx
        simp at this; omega
    · have := splitGo_each c l _ x hx
      simp at this; omega
theorem lines_each (l : List UInt8) : ∀ x ∈ linesL l, x.length ≤ l.length := fun x hx => by
  unfold linesL at hx
  split at hx
  · cases hx
  · have h1 := splitGo_each 10 _ [] x hx
    have h2 : (Lib.trimSuffix l [10]).length ≤ l.length := by
      unfold Lib.trimSuffix
      split <;> simp
    simp at h1; omega
theorem parse_fn (V : LibV) (l : List UInt8) (hl : l.length ≤ 9999999) : Fn 13 [str l] [] V.heap (parseR (parseL l)) := by
  have hll := lines_le l
  refine Fn_ofC Tryz.func13 rfl rfl fun w0 => ?_
  (repeat' (first | refine J_seq ?_ | refine J_skip ?_ | refine J_yes rfl ?_ | refine J_no rfl ?_))
  refine J_region ?_
  refine JL_alloc rfl rfl rfl (fun _ => rfl) fun p2 => ?_
  refine JL_all [] rfl ?_
  (repeat' (first | refine J_seq ?_ | refine J_skip ?_ | refine J_yes rfl ?_ | refine J_no rfl ?_))
  refine J_region ?_
  refine JL_val [] (v := .agg (rdC rd0 none 0).toArray) (OpV_build rfl rfl rfl rfl rfl rfl) rfl ?_
  refine JL_box (cs := rdC rd0 none 0) rfl rfl rfl (fun _ => rfl) fun p => ?_
  refine JL_addnil 44 3 ?_
  refine JL_all [] rfl ?_
  (repeat' (first | refine J_seq ?_ | refine J_skip ?_ | refine J_yes rfl ?_ | refine J_no rfl ?_))
  refine J_region ?_
  refine JL_run [] rfl ?_
  refine JL_callR [] (lines_fn V l (by omega)) rfl rfl rfl rfl (by kernel_rfl) ⟨⟨3, by simp, rfl⟩, ⟨4, by simp, rfl⟩, ⟨5, by simp, rfl⟩, trivial⟩ (fun _ => rfl) ?_
  rintro v H' ⟨Al, n, hn, rfl, rfl⟩
  refine ⟨rfl, ?_⟩
  subst hn
  refine JL_all [] rfl ?_
  (repeat' (first | refine J_seq ?_ | refine J_skip ?_ | refine J_yes rfl ?_ | refine J_no rfl ?_))
  refine J_region ?_
  refine JL_all [] rfl ?_
  refine J_block ?_
  refine J_loop (σ := Nat × Rd × Option Addr × Nat) (fun s => [(17, .int .i64 s.1), (16, .int .i64 (linesL l).length), (15, .slice Al (linesL l).length (linesL l).length), (6, .slice Al (linesL l).length (linesL l).length), (5, .pointer (some ⟨p, 0, none⟩)), (2, .pointer (some ⟨p2, 0, none⟩))])
    (fun s => rdH p s.2.2.1 s.2.2.2 s.2.1 ++ [blk p2 24 (netC net0 none 0), .own (.slice Al (linesL l).length (linesL l).length) 9 1 (linesL l).length (strs (linesL l))] ++ V.heap)
    (fun s => s.1 ≤ (linesL l).length ∧ s.2.1.OK ∧ readL rd0 0 (linesL l) = readL s.2.1 s.1 ((linesL l).drop s.1)) (fun s => (linesL l).length - s.1) (0, rd0, none, 0) [2, 1, 3, 0, 4, 5, 6] ⟨rfl, rfl, rfl, rfl, rfl, rfl, trivial⟩ (by decide) rfl ⟨Nat.zero_le _, rd0_ok, rfl⟩ ?_
  rintro ⟨k, r, A, c⟩ ⟨hk, ok, hrd⟩
  simp only at hk ok hrd ⊢
  (repeat' (first | refine J_seq ?_ | refine J_skip ?_ | refine J_yes rfl ?_ | refine J_no rfl ?_))
  refine J_region ?_
  refine JL_all [] rfl ?_
  refine J_seq (J_dec rfl (fun hlt => J_skip ?_) (fun hge => J_exit ?_))
  · have hlt' : k < (linesL l).length := by omega
    obtain ⟨x, hx⟩ : ∃ x, (linesL l)[k]? = some x := ⟨(linesL l)[k], List.getElem?_eq_getElem hlt'⟩
    have hxl := lines_each l x (List.mem_of_getElem? hx)
    refine J_know (own_is 3 rfl) (fun ho => ?_)
    obtain ⟨gl, rfl⟩ := ho.2.2.1 (by omega)
    have hrd2 : readL rd0 0 (linesL l) = if (r.line (wordsL x)).2 ≠ 0 then (r, k + 1, (r.line (wordsL x)).2) else readL (r.line (wordsL x)).1 (k + 1) ((linesL l).drop (k + 1)) := by
      rw [hrd, List.drop_eq_getElem_cons hlt']
      have : (linesL l)[k] = x := by
        have := List.getElem?_eq_getElem hlt'
        rw [hx] at this; exact (Option.some.inj this).symm
      rw [this]
      rfl
    refine J_seq (J_block ?_)
    (repeat' (first | refine J_seq ?_ | refine J_skip ?_ | refine J_yes rfl ?_ | refine J_no rfl ?_))
    refine J_region ?_
    refine JL_run [] rfl ?_
    refine JL_val [] (idx1z rfl rfl rfl rfl rfl hlt') rfl ?_
    refine JL_val [] (OpV_own 3 rfl rfl rfl (readT_str hx)) rfl ?_
    refine JL_all [] rfl ?_
    (repeat' (first | refine J_seq ?_ | refine J_skip ?_ | refine J_yes rfl ?_ | refine J_no rfl ?_))
    refine J_region ?_
    refine JL_run [] rfl ?_
    refine JL_callR [] (words_fn x (by omega)) rfl rfl rfl rfl (by kernel_rfl) trivial (fun _ => rfl) ?_
    rintro v H' ⟨B, n, hn, rfl, rfl⟩
    subst hn
    refine ⟨rfl, ?_⟩
    refine JL_know (own_is 0 rfl) (fun hw => ?_)
    obtain ⟨gB, hB⟩ : ∃ gB, wordsL x ≠ [] → B = some ⟨gB, 0, none⟩ := by
      by_cases h : wordsL x = []
      · exact ⟨0, fun k => absurd h k⟩
      · obtain ⟨g, e⟩ := hw.2.2.1 (List.length_pos_iff.2 h)
        exact ⟨g, fun _ => e⟩
    have hB' : strs (wordsL x) ≠ [] → B = some ⟨gB, 0, none⟩ := fun h => hB (by rintro e; rw [e] at h; exact h rfl)
    have hwl := words_le x
    have hwe := words_each x
    refine JL_callR [] (of_fn (wordsL x) (by omega) B gB 0 hB) rfl rfl rfl rfl (by kernel_rfl) ⟨⟨0, _, by simp, rfl, shows_ownS hB', seen_ownS hB'⟩, trivial⟩ (fun _ => rfl) ?_
    rintro v H' ⟨rfl, rfl⟩
    refine ⟨rfl, ?_⟩
    refine JL_alloc rfl rfl rfl (fun _ => rfl) fun p9 => ?_
    refine JL_store 0 rfl rfl rfl rfl rfl [] rfl ?_
    refine JL_all [] rfl ?_
    (repeat' (first | refine J_seq ?_ | refine J_skip ?_ | refine J_yes rfl ?_ | refine J_no rfl ?_))
    refine J_region ?_
    refine JL_run [] rfl ?_
    refine JL_val [] (OpV_blk (i := 1) 0 rfl rfl rfl rfl) rfl ?_
    refine JL_run [] rfl ?_
    refine JL_val [] (OpV_blk (i := 0) 0 rfl rfl rfl rfl) rfl ?_
    refine JL_callK (fst := []) (cap := []) [] (line_fn V (wordsL x) (fun y hy => by have := hwe y hy; omega) (by omega) B gB 0 hB p r ok A c) rfl rfl rfl rfl (doF_call _) (K := [.own (.slice B (wordsL x).length (wordsL x).length) 9 1 (wordsL x).length (strs (wordsL x)), blk p2 24 (netC net0 none 0), .own (.slice (some ⟨gl, 0, none⟩) (linesL l).length (linesL l).length) 9 1 (linesL l).length (strs (linesL l))] ++ V.heap) (Fit.picks [2, 3, 1, 4, 5, 6, 7, 8] (by decide) rfl)
      ⟨⟨0, _, by simp, rfl, shows_ownS hB', seen_ownS hB'⟩, ⟨3, by simp, rfl⟩, ⟨4, by simp, rfl⟩, ⟨5, by simp, rfl⟩, trivial⟩ (fun _ => rfl) ?_
    rintro v H' ⟨rfl, A', c', rfl⟩
    refine ⟨rfl, ?_⟩
    refine JL_all [] rfl ?_
    (repeat' (first | refine J_seq ?_ | refine J_skip ?_ | refine J_yes rfl ?_ | refine J_no rfl ?_))
    refine J_region ?_
    refine JL_all [] rfl ?_
    refine J_dec rfl (fun he => ?_) (fun he => J_skip ?_)
    · rw [if_pos he] at hrd2
      (repeat' (first | refine J_seq ?_ | refine J_skip ?_ | refine J_yes rfl ?_ | refine J_no rfl ?_))
      refine J_region ?_
      refine JL_run [] rfl ?_
      refine JL_val [] (v := netV net0 none 0) (OpV_build rfl rfl rfl rfl rfl rfl) rfl ?_
      refine JL_run [] rfl ?_
      refine JL_store 3 rfl rfl rfl rfl rfl [] rfl ?_
      refine JL_run [] rfl ?_
      refine JL_addnil 44 3 ?_
      refine JL_nil ?_
      (repeat' (first | refine J_seq ?_ | refine J_skip ?_ | refine J_yes rfl ?_ | refine J_no rfl ?_))
      refine J_ret ⟨[_, _, _], [0], _, ⟨⟨p2, 4, _, _, rfl, rfl, rfl⟩, rfl, rfl, trivial⟩, by decide, rfl, ?_⟩
      unfold parseR parseL
      rw [hrd2, if_pos he]
      refine ⟨none, 0, ?_, rfl⟩
      rw [w64 (by omega)]
      rfl
    · rw [if_neg he] at hrd2
      (repeat' (first | refine J_seq ?_ | refine J_skip ?_ | refine J_yes rfl ?_ | refine J_no rfl ?_))
      refine J_region ?_
      refine JL_all [] rfl ?_
      refine ⟨(k + 1, (r.line (wordsL x)).1, A', c'), [0, 1, 3, 4, 5, 6, 7], ⟨?_, rfl, rfl, rfl, rfl, rfl, trivial⟩, by decide, rfl, ⟨by simp only; omega, ok.line _, hrd2⟩, by simp only; omega⟩
      show some (Value.int .i64 (IntKind.i64.wrap ((k : Int) + 1))) = _
      rw [w64 (by omega)]; rfl
  have hkl : k = (linesL l).length := by omega
  subst hkl
  rw [List.drop_length] at hrd
  have hrd3 : readL rd0 0 (linesL l) = (r, 0, 0) := hrd
  have hlen := ok.len
  have pbad : (r.most = -1 ∨ r.src = 0 ∨ r.snk = 0) → parseL l = (net0, (linesL l).length + 1, 2) := fun h => by
    unfold parseL
    rw [hrd3, if_neg (by simp), if_pos h]
  refine J_seq (J_block ?_)
  refine J_seq ?_
  (repeat' (first | refine J_seq ?_ | refine J_skip ?_ | refine J_yes rfl ?_ | refine J_no rfl ?_))
  refine J_region ?_
  refine JL_run [] rfl ?_
  refine JL_val [] (OpV_blk (i := 4) (v := .int .i64 r.most) 0 rfl rfl rfl rfl) rfl ?_
  refine JL_run [] rfl ?_
  by_cases h1 : r.most = -1
  · refine JL_set 44 (v' := .bool true) rfl (congrArg Value.bool (cdec_yes h1)) ?_
    refine JL_run [5] rfl ?_
    refine JL_set 52 (v' := .bool true) rfl rfl ?_
    refine JL_all [5, 13] rfl ?_
    refine J_yes rfl ?_
    (repeat' (first | refine J_seq ?_ | refine J_skip ?_ | refine J_yes rfl ?_ | refine J_no rfl ?_))
    refine J_region ?_
    refine JL_run [] rfl ?_
    refine JL_val [] (v := netV net0 none 0) (OpV_build rfl rfl rfl rfl rfl rfl) rfl ?_
    refine JL_run [] rfl ?_
    refine JL_store 2 rfl rfl rfl rfl rfl [] rfl ?_
    refine JL_run [] rfl ?_
    refine JL_addnil 44 3 ?_
    refine JL_nil ?_
    (repeat' (first | refine J_seq ?_ | refine J_skip ?_ | refine J_yes rfl ?_ | refine J_no rfl ?_))
    refine J_ret ⟨[_, _, _], [0], _, ⟨⟨p2, 3, _, _, rfl, rfl, rfl⟩, rfl, rfl, trivial⟩, by decide, rfl, ?_⟩
    rw [pbad (.inl h1)]
    refine ⟨none, 0, ?_, rfl⟩
    rw [w64 (by omega)]
    rfl
  refine JL_set 44 (v' := .bool false) rfl (congrArg Value.bool (cdec_no h1)) ?_
  refine JL_run [5] rfl ?_
  refine JL_val [5] (OpV_blk (i := 1) (v := .int .i64 r.src) 0 rfl rfl rfl rfl) rfl ?_
  refine JL_run [5] rfl ?_
  by_cases h2 : r.src = 0
  · refine JL_set 52 (v' := .bool true) rfl (congrArg Value.bool (cdec_yes h2)) ?_
    refine JL_all [5, 13] rfl ?_
    refine J_yes rfl ?_
    (repeat' (first | refine J_seq ?_ | refine J_skip ?_ | refine J_yes rfl ?_ | refine J_no rfl ?_))
    refine J_region ?_
    refine JL_run [] rfl ?_
    refine JL_val [] (v := netV net0 none 0) (OpV_build rfl rfl rfl rfl rfl rfl) rfl ?_
    refine JL_run [] rfl ?_
    refine JL_store 2 rfl rfl rfl rfl rfl [] rfl ?_
    refine JL_run [] rfl ?_
    refine JL_addnil 44 3 ?_
    refine JL_nil ?_
    (repeat' (first | refine J_seq ?_ | refine J_skip ?_ | refine J_yes rfl ?_ | refine J_no rfl ?_))
    refine J_ret ⟨[_, _, _], [0], _, ⟨⟨p2, 3, _, _, rfl, rfl, rfl⟩, rfl, rfl, trivial⟩, by decide, rfl, ?_⟩
    rw [pbad (.inr (.inl h2))]
    refine ⟨none, 0, ?_, rfl⟩
    rw [w64 (by omega)]
    rfl
  refine JL_set 52 (v' := .bool false) rfl (congrArg Value.bool (cdec_no h2)) ?_
  refine JL_run [5, 13] rfl ?_
  refine JL_val [5, 13] (OpV_blk (i := 2) (v := .int .i64 r.snk) 0 rfl rfl rfl rfl) rfl ?_
  refine JL_all [5, 13] rfl ?_
  refine J_dec rfl (fun h3 => ?_) (fun h3 => ?_)
  · (repeat' (first | refine J_seq ?_ | refine J_skip ?_ | refine J_yes rfl ?_ | refine J_no rfl ?_))
    refine J_region ?_
    refine JL_run [] rfl ?_
    refine JL_val [] (v := netV net0 none 0) (OpV_build rfl rfl rfl rfl rfl rfl) rfl ?_
    refine JL_run [] rfl ?_
    refine JL_store 2 rfl rfl rfl rfl rfl [] rfl ?_
    refine JL_run [] rfl ?_
    refine JL_addnil 44 3 ?_
    refine JL_nil ?_
    (repeat' (first | refine J_seq ?_ | refine J_skip ?_ | refine J_yes rfl ?_ | refine J_no rfl ?_))
    refine J_ret ⟨[_, _, _], [0], _, ⟨⟨p2, 3, _, _, rfl, rfl, rfl⟩, rfl, rfl, trivial⟩, by decide, rfl, ?_⟩
    rw [pbad (.inr (.inr h3))]
    refine ⟨none, 0, ?_, rfl⟩
    rw [w64 (by omega)]
    rfl
  (repeat' (first | refine J_seq ?_ | refine J_skip ?_ | refine J_yes rfl ?_ | refine J_no rfl ?_))
  refine J_walk 12 [(0, true), (1, true), (2, true), (3, true), (4, true), (5, true), (6, true), (7, true), (8, true), (9, true), (10, true), (11, true)] [0] (by kernel_rfl) (by decide) rfl ?_
  refine JW_run [] rfl ?_
  refine JW_still [] rfl (OpV_blk (i := 3) (v := .slice A r.arcs.length c) 0 rfl rfl rfl rfl) rfl ?_
  refine JW_run [] rfl ?_
  refine JW_still [] rfl (OpV_blk (i := 4) (v := .int .i64 r.most) 0 rfl rfl rfl rfl) rfl ?_
  refine JW_all [] rfl ?_
  refine JL_nil ?_
  have fold : parseL l = if (r.arcs.length : Int) < r.most then (net0, (linesL l).length + 1, 6) else (⟨r.nodes, r.src, r.snk, r.arcs⟩, 0, 0) := by
    unfold parseL
    rw [hrd3, if_neg (by simp), if_neg (by rintro (k | k | k); exact h1 k; exact h2 k; exact h3 k)]
  refine J_dec rfl (fun h4 => ?_) (fun h4 => J_skip ?_)
  · (repeat' (first | refine J_seq ?_ | refine J_skip ?_ | refine J_yes rfl ?_ | refine J_no rfl ?_))
    refine J_region ?_
    refine JL_run [] rfl ?_
    refine JL_val [] (v := netV net0 none 0) (OpV_build rfl rfl rfl rfl rfl rfl) rfl ?_
    refine JL_run [] rfl ?_
    refine JL_store 2 rfl rfl rfl rfl rfl [] rfl ?_
    refine JL_run [] rfl ?_
    refine JL_addnil 44 3 ?_
    refine JL_nil ?_
    (repeat' (first | refine J_seq ?_ | refine J_skip ?_ | refine J_yes rfl ?_ | refine J_no rfl ?_))
    refine J_ret ⟨[_, _, _], [0], _, ⟨⟨p2, 3, _, _, rfl, rfl, rfl⟩, rfl, rfl, trivial⟩, by decide, rfl, ?_⟩
    rw [fold.trans (if_pos h4)]
    refine ⟨none, 0, ?_, rfl⟩
    rw [w64 (by omega)]
    rfl
  rw [if_neg h4] at fold
  (repeat' (first | refine J_seq ?_ | refine J_skip ?_ | refine J_yes rfl ?_ | refine J_no rfl ?_))
  refine J_region ?_
  refine JL_run [] rfl ?_
  refine JL_val [] (v := netV ⟨r.nodes, r.src, r.snk, r.arcs⟩ A c) (OpV_blk (i := 0) 0 rfl rfl rfl rfl) rfl ?_
  refine JL_run [] rfl ?_
  refine JL_store 2 rfl rfl rfl rfl rfl [] rfl ?_
  refine JL_all [] rfl ?_
  (repeat' (first | refine J_seq ?_ | refine J_skip ?_ | refine J_yes rfl ?_ | refine J_no rfl ?_))
  refine J_ret ⟨[_, _, _], [1], _, ⟨⟨p2, 2, _, _, rfl, rfl, rfl⟩, rfl, rfl, trivial⟩, by decide, rfl, ?_⟩
  rw [fold]
  exact ⟨A, c, rfl, rfl⟩
end Go.Proofs.YtkiadfpkgpgbiaaGreatDoor
