
/- The engine by trees is made, step by step. -/
import Derived.Test.YtfogkbmbmaganaaGreatTreF
import Derived.Test.YtfogkbmbmaganaaGreatNewN
import Derived.Test.YtfogkbmbmaganaaGreatOfN
set_option linter.unusedVariables false
set_option linter.unusedSimpArgs false
namespace Go.Proofs.YtfogkbmbmaganaaGreat
open Go.RowKit
def engL (N : Net) (A : Option Addr) (c : Nat) (Ar : Option Addr) (cr : Nat) (least : Int) (n gl gu : Nat) (fp : Value) (k w : Nat) : List Value := [.int .i64 N.nodes, .int .i64 N.src, .int .i64 N.snk, .slice A N.arcs.length c, .slice Ar (2 * N.arcs.length) cr, .int .i64 least, .slice (some ⟨gl, 0, none⟩) (n + 1) (n + 1), .slice (some ⟨gu, 0, none⟩) (n + 1) (n + 1), fp, .int .i64 (W64 k), .int .i64 (W64 w)]
theorem tickL_fn (N : Net) (A : Option Addr) (c : Nat) (Ar : Option Addr) (cr : Nat) (least : Int) (n gl gu : Nat) (fp : Value) (k w pe : Nat) : Fn 128 [.pointer (some ⟨pe, 0, none⟩)] (mines [blk pe 199 (engL N A c Ar cr least n gl gu fp k w)]) ([] ++ [blk pe 199 (engL N A c Ar cr least n gl gu fp k w)]) fun _ H' => H' = [blk pe 199 (engL N A c Ar cr least n gl gu fp (k + 1) w)] := by
  generalize hM : mines _ = M
  refine Fn_of Tryz.func128 rfl rfl fun w0 => ?_
  (repeat' (first | refine J_seq ?_ | refine J_skip ?_ | refine J_yes rfl ?_ | refine J_no rfl ?_))
  refine J_region ?_
  (repeat' (first
    | refine JL_evO (gs := [999]) rfl ?_
    | refine JL_val [999] (OpV_blk 0 rfl rfl rfl rfl) rfl ?_))
  refine JL_set 6 (v' := .int .i64 (W64 ((k + 1 : Nat) : Int))) rfl (congrArg (Value.int .i64) (w64_w64 _ _)) ?_
  (repeat' (refine JL_evO (gs := [999]) rfl ?_))
  refine JL_store 0 rfl rfl rfl rfl rfl [] rfl ?_
  exact JL_nil ⟨_, rfl, rfl⟩
set_option maxHeartbeats 2000000 in
theorem tof_fn (N : Net) (hR : N.Right) (A : Option Addr) (c b o : Nat) (hA : N.arcs ≠ [] → A = some ⟨b, o, none⟩) (Ar : Option Addr) (cr : Nat) (ls : List Nat) (hls : ∀ r ∈ ls, r < 2 * N.arcs.length) (hll : ls.length ≤ 4000) (B : Option Addr) (cb bb ob : Nat) (hB : ls ≠ [] → B = some ⟨bb, ob, none⟩) (least : Int) (n : Nat) (hn : N.nodes = n) :
    Fn 125 [netV N A c, .slice Ar (2 * N.arcs.length) cr, .slice B ls.length cb, .int .i64 least] [] [.seg b o (arcs N.arcs), .seg bb ob (natsI ls)]
      fun r H' => ∃ (pe gl gu pt ps gn go co cap : Nat) (rows : List Row), r = .pointer (some ⟨pe, 0, none⟩) ∧ rows.length = n + 1 ∧ (∀ (v : Nat) (row : Row), rows[v]? = some row → row.l = (ldAt N ls v).map fun (i : Nat) => (i : Int)) ∧
        H' = (foC pt ps go gn co cap (n + 1) ⟨fun _ => newNd 4611686018427387904, fun _ => none, 0⟩ ++ [blk pe 199 (engL N A c Ar cr least n gl gu (.pointer (some ⟨pt, 0, none⟩)) ls.length 0), .own (.slice (some ⟨gl, 0, none⟩) (n + 1) (n + 1)) 50 1 (n + 1) (rows.map rowV), .own (.slice (some ⟨gu, 0, none⟩) (n + 1) (n + 1)) 50 1 (n + 1) ((List.replicate (n + 1) nilRow).map rowV)]) ++ (rows ++ List.replicate (n + 1) nilRow).map (rowC 3) := by
  have hnn := hR.nodes
  have hl2 := hR.len
  refine Fn_of Tryz.func125 rfl rfl fun w0 => ?_
  (repeat' (first | refine J_seq ?_ | refine J_skip ?_ | refine J_yes rfl ?_ | refine J_no rfl ?_))
  refine J_region ?_
  refine JL_box (cs := netC N A c) rfl rfl rfl (fun _ => rfl) fun p => ?_
  refine JL_all [] rfl ?_
  refine J_cutE (σ := Nat × Nat × Nat) (fun t => [(9, .pointer (some ⟨t.1, 0, none⟩)), (21, .slice (some ⟨t.2.1, 0, none⟩) (n + 1) (n + 1)), (25, .slice (some ⟨t.2.2, 0, none⟩) (n + 1) (n + 1)), (2, .slice B ls.length cb), (4, .pointer (some ⟨p, 0, none⟩))]) (fun t => [blk t.1 199 (engL N A c Ar cr least n t.2.1 t.2.2 (.pointer none) 0 0), .own (.slice (some ⟨t.2.1, 0, none⟩) (n + 1) (n + 1)) 50 1 (n + 1) ((List.replicate (n + 1) nilRow).map rowV), .own (.slice (some ⟨t.2.2, 0, none⟩) (n + 1) (n + 1)) 50 1 (n + 1) ((List.replicate (n + 1) nilRow).map rowV), blk p 24 (netC N A c), .seg b o (arcs N.arcs), .seg bb ob (natsI ls)]) ?_ ?_
  · refine J_draw (Sf := [blk p 24 (netC N A c)]) ?_
    refine JA_pre [0, 1, 2, 3, 4, 5, 7, 8, 9] (by decide +kernel) [0] (by decide) rfl ?_
    (repeat' (first
      | refine JW_evO (gs := [999]) rfl rfl ?_
      | refine JW_still [999] rfl (OpV_blk 0 rfl rfl rfl rfl) rfl ?_))
    refine JW_nil ?_
    refine JA_set 20 (v' := .int .i64 ((n + 1 : Nat) : Int)) rfl (congrArg (Value.int .i64) ((w64 (n := N.nodes + 1) (by omega)).trans (by omega))) ?_
    refine JA_set 24 (v' := .int .i64 ((n + 1 : Nat) : Int)) rfl (congrArg (Value.int .i64) ((w64 (n := N.nodes + 1) (by omega)).trans (by omega))) ?_
    refine JA_step 6 [10] (by decide +kernel) (by decide) ?_
    (repeat' (first
      | exact trivial
      | refine JA_step 10 [] (by decide +kernel) (by decide) ?_
      | refine JA_step 6 [] (by decide +kernel) (by decide) ?_
      | refine JA_step 11 [] (by decide +kernel) (by decide) ?_
      | refine JA_step 12 [] (by decide +kernel) (by decide) ?_
      | refine JA_step 13 [] (by decide +kernel) (by decide) ?_
      | refine ⟨⟨_, rfl, ?_⟩, ?_⟩
      | refine JL_make (n := n + 1) (c := n + 1) rfl rfl rfl rfl rfl rfl (by omega) (by omega) (by omega) (fun _ => rfl) fun go => ?_
      | refine JL_box rfl rfl rfl (fun _ => rfl) fun pe => ?_
      | refine JL_val [] (OpV_build rfl rfl rfl rfl rfl rfl) rfl ?_
      | refine JL_nil ⟨⟨[1], by decide, rfl⟩, ?_⟩
      | refine JL_nil ⟨⟨[2], by decide, rfl⟩, ?_⟩
      | refine JL_nil ⟨⟨[3], by decide, rfl⟩, ?_⟩
      | refine JL_all [] rfl ⟨⟨[3], by decide, rfl⟩, ?_⟩))
    all_goals refine JA_done (by decide +kernel) ⟨(_, _, _), ⟨rfl, rfl, rfl, rfl, rfl, trivial⟩, ?_⟩
    all_goals rw [show made [Value.slice none 0 0] ((n + 1) * 1) = (List.replicate (n + 1) nilRow).map rowV by rw [made_one, Nat.mul_one, List.map_replicate]; rfl]
    all_goals (first | exact Fit.re (A := [_, _, _, _, _, _]) (R := []) [0, 2, 1, 3, 4, 5] rfl (by decide) | exact Fit.re (A := [_, _, _, _, _, _]) (R := []) [0, 1, 2, 3, 4, 5] rfl (by decide))
  rintro ⟨pe, gl, gu⟩
  simp only
  (repeat' (first | refine J_seq ?_ | refine J_skip ?_ | refine J_yes rfl ?_ | refine J_no rfl ?_))
  refine J_region ?_
  refine JL_all [] rfl ?_
  (repeat' (first | refine J_seq ?_ | refine J_skip ?_ | refine J_yes rfl ?_ | refine J_no rfl ?_))
  refine J_region ?_
  refine JL_all [] rfl ?_
  refine J_block ?_
  refine J_fit (Fit.nils 3 (n + 1)) ?_
  refine J_loopF (σ := Nat × List Row) (fun s => [(32, .int .i64 (s.1 : Int)), (31, .int .i64 (ls.length : Int)), (30, .slice B ls.length cb), (10, .func (.func 128) #[.pointer (some ⟨pe, 0, none⟩)] #[]), (9, .pointer (some ⟨pe, 0, none⟩)), (4, .pointer (some ⟨p, 0, none⟩))])
    (fun s => [blk pe 199 (engL N A c Ar cr least n gl gu (.pointer none) s.1 0), .own (.slice (some ⟨gl, 0, none⟩) (n + 1) (n + 1)) 50 1 (n + 1) (s.2.map rowV), .own (.slice (some ⟨gu, 0, none⟩) (n + 1) (n + 1)) 50 1 (n + 1) ((List.replicate (n + 1) nilRow).map rowV), blk p 24 (netC N A c), .seg b o (arcs N.arcs), .seg bb ob (natsI ls)] ++ s.2.map (rowC 3))
    (fun s => s.1 ≤ ls.length ∧ s.2.length = n + 1 ∧ ∀ (v : Nat) (r : Row), s.2[v]? = some r → r.l = (ldAt N (ls.take s.1) v).map fun (i : Nat) => (i : Int)) (fun s => ls.length - s.1)
    (0, List.replicate (n + 1) nilRow) ⟨rfl, rfl, rfl, rfl, rfl, rfl, trivial⟩ Fit.refl ⟨Nat.zero_le _, by simp, fun v r h => ?_⟩ ?_
  · rw [List.getElem?_replicate] at h
    split at h
    · simp only [Option.some.injEq] at h; subst h; rfl
    · cases h
  rintro ⟨k, rows⟩ ⟨hk, hrows, htr⟩
  simp only at hk hrows htr ⊢
  (repeat' (first | refine J_seq ?_ | refine J_skip ?_ | refine J_yes rfl ?_ | refine J_no rfl ?_))
  refine J_region ?_
  refine JL_all [] rfl ?_
  refine J_seq (J_dec rfl (fun hlt => J_skip ?_) (fun hge => J_exit ?_))
  · have hlt : k < ls.length := by omega
    obtain ⟨r, hr⟩ : ∃ r, ls[k]? = some r := ⟨ls[k], List.getElem?_eq_getElem hlt⟩
    have hrl := hls r (List.mem_of_getElem? hr)
    obtain ⟨he, hf1, hf2⟩ := frN_eq hR hrl
    obtain ⟨v, hv⟩ : ∃ v, frN N r = v := ⟨_, rfl⟩
    rw [hv] at he hf1 hf2
    obtain rfl := hB (by rintro rfl; simp at hlt)
    have hvn : v < rows.length := by omega
    obtain ⟨row, hrow⟩ : ∃ r, rows[v]? = some r := ⟨rows[v], List.getElem?_eq_getElem hvn⟩
    have hrl' := htr v row hrow
    have hlen := ldAt_length N (ls.take k) v
    have htake : (ls.take k).length ≤ ls.length := by rw [List.length_take]; omega
    have hrowl : row.l.length = (ldAt N (ls.take k) v).length := by rw [hrl', List.length_map]
    have htk : ls.take (k + 1) = ls.take k ++ [r] := by rw [List.take_add_one, hr]; rfl
    refine J_seq (J_block ?_)
    (repeat' (first | refine J_seq ?_ | refine J_skip ?_ | refine J_yes rfl ?_ | refine J_no rfl ?_))
    refine J_region ?_
    refine JL_run [] rfl ?_
    refine JL_val [] (idx1 rfl rfl rfl rfl rfl hlt) rfl ?_
    refine JL_val [] (ldseg 5 rfl rfl rfl rfl (natsI_get hr)) rfl ?_
    refine JL_all [] rfl ?_
    (repeat' (first | refine J_seq ?_ | refine J_skip ?_ | refine J_yes rfl ?_ | refine J_no rfl ?_))
    refine J_region ?_
    refine JL_evO (gs := [999]) rfl ?_
    refine JL_callK (fst := [.pointer (some ⟨pe, 0, none⟩)]) (cap := []) [999] (tickL_fn N A c Ar cr least n gl gu (.pointer none) k 0 pe) rfl rfl rfl rfl (by kernel_rfl) Fit.refl trivial (fun _ => rfl) ?_
    rintro v0 H' rfl
    refine ⟨rfl, ?_⟩
    refine JL_nil ?_
    (repeat' (first | refine J_seq ?_ | refine J_skip ?_ | refine J_yes rfl ?_ | refine J_no rfl ?_))
    refine J_region ?_
    refine JL_val [] (v := netV N A c) (OpV_blk 3 rfl rfl rfl rfl) rfl ?_
    refine JL_run [] rfl ?_
    refine JL_callR [] (ends_fn N A c b o hA hl2 r hrl) rfl rfl rfl rfl (by kernel_rfl) ⟨⟨4, _, by simp, rfl, shows_seg _ _ _, seen_seg⟩, trivial⟩ (fun _ => rfl) ?_
    rintro v' H' ⟨rfl, rfl⟩
    refine ⟨rfl, ?_⟩
    refine JL_all [] rfl ?_
    refine J_set 13 (v' := .int .i64 (v : Int)) rfl (congrArg (Value.int .i64) he) ?_
    show J _ _ _ _ ([_, _, _, _, _, _] ++ rows.map (rowC 3))
    refine J_fit (Fit.front (i := v) (c := rowC 3 row) (by rw [List.getElem?_map, hrow]; rfl)) ?_
    (repeat' (first | refine J_seq ?_ | refine J_skip ?_ | refine J_yes rfl ?_ | refine J_no rfl ?_))
    refine J_walk 16 [(0, true), (1, true), (2, true), (3, true), (4, true), (5, true), (6, true), (7, true), (8, true), (9, true), (10, true), (11, true), (12, true), (13, false), (14, false), (15, true)] [1, 2] (by kernel_rfl) (by decide) rfl ?_
    refine JW_run [] rfl ?_
    refine JW_still [] rfl (OpV_blk (v := .slice (some ⟨gl, 0, none⟩) (n + 1) (n + 1)) 0 rfl rfl rfl rfl) rfl ?_
    refine JW_run [] rfl ?_
    refine JW_still [] rfl (OpV_blk (v := .slice (some ⟨gl, 0, none⟩) (n + 1) (n + 1)) 0 rfl rfl rfl rfl) rfl ?_
    refine JW_run [] rfl ?_
    refine JW_still [] rfl (idx1z rfl rfl rfl rfl rfl (by omega)) rfl ?_
    refine JW_still [] rfl (OpV_own (v := rowV row) 1 rfl rfl rfl (show (rows.map rowV)[v]? = some (rowV row) by rw [List.getElem?_map, hrow]; rfl)) rfl ?_
    refine JW_run [] rfl ?_
    refine JW_eff rfl ?_
    refine JL_lit rfl rfl rfl rfl rfl rfl rfl (fun _ => rfl) fun g2 => ?_
    refine JL_nil ⟨⟨[2, 3], by decide, rfl⟩, ?_⟩
    refine JW_eff rfl ?_
    refine JL_appendS (n := row.l.length) (m := 1) (off := 0) (news := ints [(r : Int)]) 1 0 rfl rfl rfl rfl rfl rfl (by decide) rfl rfl (shows_blk g2 _ _ (0, 0)) (fun _ => rfl) rfl rfl (by omega) (by omega) (fun _ _ => rfl) fun A2 c2 => ?_
    rw [show row.l.length + 1 = (row.l ++ [(r : Int)]).length by simp, show ints row.l ++ ints [(r : Int)] = ints (row.l ++ [(r : Int)]) by simp [ints]]
    refine JL_nil ⟨⟨[2, 3], by decide, rfl⟩, ?_⟩
    refine JW_still [] rfl (idx1z rfl rfl rfl rfl rfl (by omega)) rfl ?_
    refine JW_nil ?_
    refine JL_store_own 3 rfl rfl rfl rfl (put_one rfl rfl rfl (by rw [List.length_map]; omega)) [] rfl ?_
    refine JL_nil ?_
    (repeat' (first | refine J_seq ?_ | refine J_skip ?_ | refine J_yes rfl ?_ | refine J_no rfl ?_))
    refine J_region ?_
    refine JL_all [] rfl ?_
    refine ⟨(k + 1, rows.set v ⟨A2, c2, row.l ++ [(r : Int)]⟩), ⟨?_, rfl, rfl, rfl, rfl, rfl, trivial⟩, ?_, ⟨by simp only; omega, by simp only [List.length_set]; omega, fun u q hu => ?_⟩, by simp only; omega⟩
    · show some (Value.int .i64 (IntKind.i64.wrap ((k : Int) + 1))) = _
      rw [w64 (by omega)]; rfl
    · simp only [List.map_set]
      refine Fit.trans (Fit.sub (List.sublist_cons_self _ _)) (Fit.back (A := [_, _, _, _, _, _]) (by rw [List.length_map]; exact hvn))
    · simp only at hu ⊢
      rw [htk, ldAt_app, List.map_append]
      by_cases huv : v = u
      · subst huv
        rw [List.getElem?_set_self hvn] at hu
        simp only [Option.some.injEq] at hu
        rw [← hu, if_pos hv, hrl']; rfl
      · rw [List.getElem?_set_ne huv] at hu
        rw [if_neg (fun e => huv (hv.symm.trans e)), List.map_nil, List.append_nil]
        exact htr u q hu
  · obtain rfl : k = ls.length := by omega
    rw [List.take_length] at htr
    refine J_fit (Fit.nils 3 (n + 1)) ?_
    rw [List.append_assoc, ← List.map_append]
    obtain ⟨R, hR2⟩ : ∃ R, R = (rows ++ List.replicate (n + 1) nilRow).map (rowC 3) := ⟨_, rfl⟩
    rw [← hR2]
    (repeat' (first | refine J_seq ?_ | refine J_skip ?_ | refine J_yes rfl ?_ | refine J_no rfl ?_))
    refine J_region ?_
    refine JL_evO (gs := [999]) rfl ?_
    refine JL_lit rfl rfl rfl rfl rfl rfl rfl (fun _ => rfl) fun g2 => ?_
    refine JL_evO (gs := [999]) rfl ?_
    refine JL_val [] (v := .int .i64 N.nodes) (OpV_blk 4 rfl rfl rfl rfl) rfl ?_
    refine JL_evO (gs := [999]) rfl ?_
    refine JL_set 66 (v' := .int .i64 ((n + 1 : Nat) : Int)) rfl (congrArg (Value.int .i64) ((w64 (n := N.nodes + 1) (by omega)).trans (by omega))) ?_
    refine JL_callR [] (repL_fn 4611686018427387904 g2 1 (n + 1) (by omega) (by omega)) rfl rfl rfl rfl (by kernel_rfl) ⟨⟨0, _, by simp, rfl, shows_blk _ _ _ (0, 0), .inr rfl⟩, trivial⟩ (fun _ => rfl) ?_
    rintro _ H' ⟨g3, rfl, rfl⟩
    refine ⟨rfl, ?_⟩
    refine JL_callR [] (newF_fn 4611686018427387904 (by decide) (n + 1) (by omega) (by omega) g3 (n + 1)) rfl rfl rfl rfl (by kernel_rfl) ⟨⟨0, _, by simp, rfl, shows_own, .inr rfl⟩, trivial⟩ (fun _ => rfl) ?_
    rintro _ H' ⟨pt, ps, gn, go, co, cap, rfl, rfl⟩
    refine ⟨rfl, ?_⟩
    refine JL_evO (gs := [999]) rfl ?_
    refine JL_evO (gs := [999]) rfl ?_
    refine JL_evO (gs := [999]) rfl ?_
    refine JL_evO (gs := [999]) rfl ?_
    refine JL_evO (gs := [999]) rfl ?_
    refine JL_store 6 rfl rfl rfl rfl rfl [] rfl ?_
    refine JL_nil ?_
    (repeat' (first | refine J_seq ?_ | refine J_skip ?_ | refine J_yes rfl ?_ | refine J_no rfl ?_))
    refine J_region ?_
    refine JL_all [] rfl ?_
    refine J_fit (Fit.re (A := foC pt ps go gn co cap (n + 1) ⟨fun _ => newNd 4611686018427387904, fun _ => none, 0⟩ ++ [.own (.slice (some ⟨g3, 0, none⟩) (n + 1) (n + 1)) 2 1 (n + 1) (ints (List.replicate (n + 1) 4611686018427387904)), blk g2 2 [.int .i64 4611686018427387904], blk pe 199 (engL N A c Ar cr least n gl gu (.pointer (some ⟨pt, 0, none⟩)) ls.length 0),
      .own (.slice (some ⟨gl, 0, none⟩) (n + 1) (n + 1)) 50 1 (n + 1) (rows.map rowV), .own (.slice (some ⟨gu, 0, none⟩) (n + 1) (n + 1)) 50 1 (n + 1) ((List.replicate (n + 1) nilRow).map rowV), blk p 24 (netC N A c), .seg b o (arcs N.arcs), .seg bb ob (natsI ls)]) (R := R) [0, 1, 2, 3, 6, 7, 8] rfl (by decide)) ?_
    exact J_ret ⟨_, rfl, pe, gl, gu, pt, ps, gn, go, co, cap, rows, rfl, hrows, htr, by rw [hR2]; rfl⟩
end Go.Proofs.YtfogkbmbmaganaaGreat
