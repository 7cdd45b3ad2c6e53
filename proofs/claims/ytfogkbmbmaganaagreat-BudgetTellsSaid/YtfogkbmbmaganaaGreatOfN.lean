
/- A search's record, made. -/
import Derived.Test.YtfogkbmbmaganaaGreatPushN
set_option linter.unusedVariables false
set_option linter.unusedSimpArgs false
namespace Go.Proofs.YtfogkbmbmaganaaGreat
open Go.RowKit
theorem ldAt_app (N : Net) (ls : List Nat) (r v : Nat) : ldAt N (ls ++ [r]) v = ldAt N ls v ++ (if frN N r = v then [r] else []) := by
  unfold ldAt
  rw [List.filter_append]
  congr 1
  by_cases h : frN N r = v
  · rw [if_pos h, List.filter_cons, if_pos (decide_eq_true h)]; rfl
  · rw [if_neg h, List.filter_cons, if_neg (by simpa using h)]; rfl
theorem ldAt_length (N : Net) (ls : List Nat) (v : Nat) : (ldAt N ls v).length ≤ ls.length := List.length_filter_le _ _
set_option maxHeartbeats 1000000 in
theorem of_fn (N : Net) (hR : N.Right) (A : Option Addr) (c b o : Nat) (hA : N.arcs ≠ [] → A = some ⟨b, o, none⟩) (Ar : Option Addr) (cr : Nat) (ls : List Nat) (hls : ∀ r ∈ ls, r < 2 * N.arcs.length) (hlsl : ls.length ≤ 4000) (B : Option Addr) (cb bb ob : Nat) (hB : ls ≠ [] → B = some ⟨bb, ob, none⟩)
    (least : Int) (n : Nat) (hn : N.nodes = n) : Fn 116 [netV N A c, .slice Ar (2 * N.arcs.length) cr, .slice B ls.length cb, .int .i64 least] [] [.seg b o (arcs N.arcs), .seg bb ob (natsI ls)] fun v H' => ∃ (pw gl : Nat) (rows : List Row), v = .pointer (some ⟨pw, 0, none⟩) ∧ rows.length = n + 1 ∧
      (∀ (v : Nat) (row : Row), rows[v]? = some row → row.l = (ldAt N ls v).map fun (i : Nat) => (i : Int)) ∧
      H' = [blk pw 190 (wkC N A c Ar cr least gl n none 0 0), .own (.slice (some ⟨gl, 0, none⟩) (n + 1) (n + 1)) 50 1 (n + 1) (rows.map rowV)] ++ rows.map (rowC 3) := by
  have hnn := hR.nodes
  have hl2 := hR.len
  refine Fn_of Tryz.func116 rfl rfl fun w0 => ?_
  (repeat' (first | refine J_seq ?_ | refine J_skip ?_ | refine J_yes rfl ?_ | refine J_no rfl ?_))
  refine J_region ?_
  refine JL_box (cs := netC N A c) rfl rfl rfl (fun _ => rfl) fun p => ?_
  refine JL_all [] rfl ?_
  (repeat' (first | refine J_seq ?_ | refine J_skip ?_ | refine J_yes rfl ?_ | refine J_no rfl ?_))
  refine J_walk 10 [(0, true), (1, true), (2, true), (3, true), (4, true), (5, true), (6, false), (7, true), (8, false), (9, true)] [0] (by kernel_rfl) (by decide) rfl ?_
  refine JW_still [] rfl (OpV_blk (v := netV N A c) 0 rfl rfl rfl rfl) rfl ?_
  refine JW_run [] rfl ?_
  refine JW_still [] rfl (OpV_blk (v := .int .i64 N.nodes) 0 rfl rfl rfl rfl) rfl ?_
  refine JW_run [] rfl ?_
  refine JW_set 19 (v' := .int .i64 ((n + 1 : Nat) : Int)) rfl (congrArg (Value.int .i64) ((w64 (n := N.nodes + 1) (by omega)).trans (by omega))) ?_
  refine JW_eff rfl ?_
  refine JL_make (n := n + 1) (c := n + 1) rfl rfl rfl rfl rfl rfl (by omega) (by omega) (by omega) (fun _ => rfl) fun gl => ?_
  refine JL_nil ⟨⟨[1], by decide, rfl⟩, ?_⟩
  refine JW_still [] rfl (OpV_build rfl rfl rfl rfl rfl rfl) rfl ?_
  refine JW_eff rfl ?_
  refine JL_box (cs := wkC N A c Ar cr least gl n none 0 0) rfl rfl rfl (fun _ => rfl) fun pw => ?_
  refine JL_nil ⟨⟨[2], by decide, rfl⟩, ?_⟩
  refine JW_all [] rfl ?_
  refine JL_nil ?_
  rw [show made [Value.slice none 0 0] ((n + 1) * 1) = (List.replicate (n + 1) nilRow).map rowV by rw [made_one, Nat.mul_one, List.map_replicate]; rfl]
  (repeat' (first | refine J_seq ?_ | refine J_skip ?_ | refine J_yes rfl ?_ | refine J_no rfl ?_))
  refine J_region ?_
  refine JL_all [] rfl ?_
  refine J_block ?_
  refine J_fit (Fit.nils 3 (n + 1)) ?_
  refine J_loopF (σ := Nat × List Row) (fun s => [(25, .int .i64 s.1), (24, .int .i64 ls.length), (23, .slice B ls.length cb), (9, .pointer (some ⟨pw, 0, none⟩)), (4, .pointer (some ⟨p, 0, none⟩))])
    (fun s => [blk pw 190 (wkC N A c Ar cr least gl n none 0 0), .own (.slice (some ⟨gl, 0, none⟩) (n + 1) (n + 1)) 50 1 (n + 1) (s.2.map rowV), blk p 24 (netC N A c), .seg b o (arcs N.arcs), .seg bb ob (natsI ls)] ++ s.2.map (rowC 3))
    (fun s => s.1 ≤ ls.length ∧ s.2.length = n + 1 ∧ ∀ (v : Nat) (r : Row), s.2[v]? = some r → r.l = (ldAt N (ls.take s.1) v).map fun (i : Nat) => (i : Int)) (fun s => ls.length - s.1)
    (0, List.replicate (n + 1) nilRow) ⟨rfl, rfl, rfl, rfl, rfl, trivial⟩ Fit.refl ⟨Nat.zero_le _, by simp, fun v r h => ?_⟩ ?_
  · rw [List.getElem?_replicate] at h
    split at h
    · simp only [Option.some.injEq] at h; subst h; rfl
    · cases h
  rintro ⟨k, rows⟩ ⟨hk, hrows, htr⟩
  simp only at hk hrows htr ⊢
  (repeat' (first | refine J_seq ?_ | refine J_skip ?_ | refine J_yes rfl ?_ | refine J_no rfl ?_))
  refine J_region ?_
  refine JL_all [] rfl ?_
  refine J_seq (J_dec rfl (fun hlt => J_skip ?_) (fun hge => J_exit ?_))
  · have hlt : k < ls.length := by omega
    obtain ⟨r, hr⟩ : ∃ r, ls[k]? = some r := ⟨ls[k], List.getElem?_eq_getElem hlt⟩
    have hrl := hls r (List.mem_of_getElem? hr)
    obtain ⟨he, hf1, hf2⟩ := frN_eq hR hrl
    obtain ⟨v, hv⟩ : ∃ v, frN N r = v := ⟨_, rfl⟩
    rw [hv] at he hf1 hf2
    obtain rfl := hB (by rintro rfl; simp at hlt)
    have hvn : v < rows.length := by omega
    obtain ⟨row, hrow⟩ : ∃ r, rows[v]? = some r := ⟨rows[v], List.getElem?_eq_getElem hvn⟩
    have hrl' := htr v row hrow
    have hlen := ldAt_length N (ls.take k) v
    have htake : (ls.take k).length ≤ ls.length := by rw [List.length_take]; omega
    have hrowl : row.l.length = (ldAt N (ls.take k) v).length := by rw [hrl', List.length_map]
    have htk : ls.take (k + 1) = ls.take k ++ [r] := by rw [List.take_add_one, hr]; rfl
    refine J_seq (J_block ?_)
    (repeat' (first | refine J_seq ?_ | refine J_skip ?_ | refine J_yes rfl ?_ | refine J_no rfl ?_))
    refine J_region ?_
    refine JL_run [] rfl ?_
    refine JL_val [] (idx1 rfl rfl rfl rfl rfl hlt) rfl ?_
    refine JL_val [] (ldseg 4 rfl rfl rfl rfl (natsI_get hr)) rfl ?_
    refine JL_all [] rfl ?_
    (repeat' (first | refine J_seq ?_ | refine J_skip ?_ | refine J_yes rfl ?_ | refine J_no rfl ?_))
    refine J_region ?_
    refine JL_val [] (v := netV N A c) (OpV_blk 2 rfl rfl rfl rfl) rfl ?_
    refine JL_run [] rfl ?_
    refine JL_callR [] (ends_fn N A c b o hA hl2 r hrl) rfl rfl rfl rfl (by kernel_rfl) ⟨⟨3, _, by simp, rfl, shows_seg _ _ _, seen_seg⟩, trivial⟩ (fun _ => rfl) ?_
    rintro v' H' ⟨rfl, rfl⟩
    refine ⟨rfl, ?_⟩
    refine JL_all [] rfl ?_
    refine J_set 12 (v' := .int .i64 (v : Int)) rfl (congrArg (Value.int .i64) he) ?_
    show J _ _ _ _ ([_, _, _, _, _] ++ rows.map (rowC 3))
    refine J_fit (Fit.front (i := v) (c := rowC 3 row) (by rw [List.getElem?_map, hrow]; rfl)) ?_
    (repeat' (first | refine J_seq ?_ | refine J_skip ?_ | refine J_yes rfl ?_ | refine J_no rfl ?_))
    refine J_walk 16 [(0, true), (1, true), (2, true), (3, true), (4, true), (5, true), (6, true), (7, true), (8, true), (9, true), (10, true), (11, true), (12, true), (13, false), (14, false), (15, true)] [1, 2] (by kernel_rfl) (by decide) rfl ?_
    refine JW_run [] rfl ?_
    refine JW_still [] rfl (OpV_blk (v := .slice (some ⟨gl, 0, none⟩) (n + 1) (n + 1)) 0 rfl rfl rfl rfl) rfl ?_
    refine JW_run [] rfl ?_
    refine JW_still [] rfl (OpV_blk (v := .slice (some ⟨gl, 0, none⟩) (n + 1) (n + 1)) 0 rfl rfl rfl rfl) rfl ?_
    refine JW_run [] rfl ?_
    refine JW_still [] rfl (idx1z rfl rfl rfl rfl rfl (by omega)) rfl ?_
    refine JW_still [] rfl (OpV_own (v := rowV row) 1 rfl rfl rfl (show (rows.map rowV)[v]? = some (rowV row) by rw [List.getElem?_map, hrow]; rfl)) rfl ?_
    refine JW_run [] rfl ?_
    refine JW_eff rfl ?_
    refine JL_lit rfl rfl rfl rfl rfl rfl rfl (fun _ => rfl) fun g2 => ?_
    refine JL_nil ⟨⟨[2, 3], by decide, rfl⟩, ?_⟩
    refine JW_eff rfl ?_
    refine JL_appendS (n := row.l.length) (m := 1) (off := 0) (news := ints [(r : Int)]) 1 0 rfl rfl rfl rfl rfl rfl (by decide) rfl rfl (shows_blk g2 _ _ (0, 0)) (fun _ => rfl) rfl rfl (by omega) (by omega) (fun _ _ => rfl) fun A2 c2 => ?_
    rw [show row.l.length + 1 = (row.l ++ [(r : Int)]).length by simp, show ints row.l ++ ints [(r : Int)] = ints (row.l ++ [(r : Int)]) by simp [ints]]
    refine JL_nil ⟨⟨[2, 3], by decide, rfl⟩, ?_⟩
    refine JW_still [] rfl (idx1z rfl rfl rfl rfl rfl (by omega)) rfl ?_
    refine JW_nil ?_
    refine JL_store_own 3 rfl rfl rfl rfl (put_one rfl rfl rfl (by rw [List.length_map]; omega)) [] rfl ?_
    refine JL_nil ?_
    (repeat' (first | refine J_seq ?_ | refine J_skip ?_ | refine J_yes rfl ?_ | refine J_no rfl ?_))
    refine J_region ?_
    refine JL_all [] rfl ?_
    refine ⟨(k + 1, rows.set v ⟨A2, c2, row.l ++ [(r : Int)]⟩), ⟨?_, rfl, rfl, rfl, rfl, trivial⟩, ?_, ⟨by simp only; omega, by simp only [List.length_set]; omega, fun u q hu => ?_⟩, by simp only; omega⟩
    · show some (Value.int .i64 (IntKind.i64.wrap ((k : Int) + 1))) = _
      rw [w64 (by omega)]; rfl
    · simp only [List.map_set]
      refine Fit.trans (Fit.sub (List.sublist_cons_self _ _)) (Fit.back (A := [_, _, _, _, _]) (by rw [List.length_map]; exact hvn))
    · simp only at hu ⊢
      rw [htk, ldAt_app, List.map_append]
      by_cases huv : v = u
      · subst huv
        rw [List.getElem?_set_self hvn] at hu
        simp only [Option.some.injEq] at hu
        rw [← hu, if_pos hv, hrl']; rfl
      · rw [List.getElem?_set_ne huv] at hu
        rw [if_neg (fun e => huv (hv.symm.trans e)), List.map_nil, List.append_nil]
        exact htr u q hu
  · obtain rfl : k = ls.length := by omega
    rw [List.take_length] at htr
    (repeat' (first | refine J_seq ?_ | refine J_skip ?_ | refine J_yes rfl ?_ | refine J_no rfl ?_))
    refine J_region ?_
    refine JL_all [] rfl ?_
    refine J_fit (Fit.re [0, 1] rfl (by decide)) (J_ret ⟨_, rfl, pw, gl, rows, rfl, hrows, htr, rfl⟩)
end Go.Proofs.YtfogkbmbmaganaaGreat
