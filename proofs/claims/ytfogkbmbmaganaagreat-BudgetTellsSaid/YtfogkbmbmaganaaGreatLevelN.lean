
/- The levels of a network's nodes. -/
import Derived.Test.YtfogkbmbmaganaaGreatQB
import Derived.Test.YtfogkbmbmaganaaGreatQF
set_option linter.unusedVariables false
set_option linter.unusedSimpArgs false
namespace Go.Proofs.YtfogkbmbmaganaaGreat
open Go.RowKit
theorem turn_fn (px pn : Nat) (Ax An : Option Addr) (lx cx ln cn : Nat) : Fn 92 [.pointer (some ⟨px, 0, none⟩), .pointer (some ⟨pn, 0, none⟩)] (mines [blk px 50 [.slice Ax lx cx], blk pn 50 [.slice An ln cn]])
    ([] ++ [blk px 50 [.slice Ax lx cx], blk pn 50 [.slice An ln cn]]) fun v H' => v = .bool (cdec (0 < lx)) ∧ H' = [blk px 50 [.slice An 0 cn], blk pn 50 [.slice Ax lx cx]] := by
  refine Fn_of Tryz.func92 rfl rfl fun w0 => ?_
  (repeat' (first | refine J_seq ?_ | refine J_skip ?_ | refine J_yes rfl ?_ | refine J_no rfl ?_))
  refine J_region ?_
  refine JL_all [] rfl ?_
  refine J_cut [(0, .pointer (some ⟨px, 0, none⟩)), (1, .pointer (some ⟨pn, 0, none⟩))] [blk px 50 [.slice An 0 cn], blk pn 50 [.slice Ax lx cx]] ?_ ?_
  · refine J_any ?_
    (repeat' (first
      | exact trivial
      | refine JO_done (by decide +kernel) ⟨[0, 1], ⟨rfl, rfl, trivial⟩, by decide, rfl⟩
      | refine JO_step 0 [1] (by decide +kernel) ?_
      | refine JO_step 0 [2] (by decide +kernel) ?_
      | refine JO_step 2 [3] (by decide +kernel) ?_
      | refine JO_step 0 [] (by decide +kernel) ?_
      | refine JO_step 1 [] (by decide +kernel) ?_
      | refine JO_step 2 [] (by decide +kernel) ?_
      | refine JO_step 3 [] (by decide +kernel) ?_
      | refine JO_step 4 [] (by decide +kernel) ?_
      | refine ⟨⟨_, rfl, ?_⟩, ?_⟩
      | refine JL_val [] (OpV_blk 0 rfl rfl rfl rfl) rfl ?_
      | refine JL_val [] (OpV_blk 1 rfl rfl rfl rfl) rfl ?_
      | refine JL_val [] (OpV_upto (i := 0) rfl rfl rfl rfl rfl (Nat.zero_le _)) rfl ?_
      | refine JL_store 1 rfl rfl rfl rfl rfl [] rfl ?_
      | refine JL_store 0 rfl rfl rfl rfl rfl [] rfl ?_
      | refine JL_nil ?_))
  (repeat' (first | refine J_seq ?_ | refine J_skip ?_ | refine J_yes rfl ?_ | refine J_no rfl ?_))
  refine J_region ?_
  refine JL_run [] rfl ?_
  refine JL_val [] (OpV_blk 1 rfl rfl rfl rfl) rfl ?_
  refine JL_all [] rfl ?_
  refine J_drop [0, 1] (by decide) rfl (J_ret ⟨_, rfl, congrArg Value.bool (cdec_iff (by omega)), rfl⟩)
def levR (N : Net) (f : List Int) (least : Int) (n : Nat) (v : Value) (H' : Heap) : Prop :=
  (IsFlow N f ∧ 1 ≤ least ∧ ∃ (lv : List Int) (g : Nat), IsLev N (roomL (N.arcs.zip f)) least lv ∧ v = .tuple #[.slice (some ⟨g, 0, none⟩) (n + 1) (n + 1), .int .i64 0] ∧
    H' = [.own (.slice (some ⟨g, 0, none⟩) (n + 1) (n + 1)) 3 1 (n + 1) (ints lv)]) ∨
  (¬ IsFlow N f ∧ v = .tuple #[.slice none 0 0, .int .i64 (flowZ N f)] ∧ H' = []) ∨ (IsFlow N f ∧ least < 1 ∧ v = .tuple #[.slice none 0 0, .int .i64 3] ∧ H' = [])
structure LS where
  k : Nat
  fr : List Nat
  Ax : Option Addr
  cx : Nat
  nw : List Int
  An : Option Addr
  cn : Nat
  lv : List Int
set_option maxHeartbeats 1000000 in
theorem levels_fn (N : Net) (hN : N.Fits) (hR : N.Right) (A : Option Addr) (c b o : Nat) (hA : N.arcs ≠ [] → A = some ⟨b, o, none⟩) (f : List Int) (F : Option Addr) (cf bf of : Nat) (hF : f ≠ [] → F = some ⟨bf, of, none⟩) (hf : ∀ x ∈ f, inB x) (hfl : f.length * 8 ≤ 140737488351232) (least : Int)
    (n : Nat) (hn : N.nodes = n) : Fn 80 [netV N A c, .slice F f.length cf, .int .i64 least] [] [.seg b o (arcs N.arcs), .seg bf of (ints f)] (levR N f least n) := by
  have hnn := hR.nodes
  have hl2 := hR.len
  refine Fn_of Tryz.func80 rfl rfl fun w0 => ?_
  (repeat' (first | refine J_seq ?_ | refine J_skip ?_ | refine J_yes rfl ?_ | refine J_no rfl ?_))
  refine J_region ?_
  refine JL_box (cs := netC N A c) rfl rfl rfl (fun _ => rfl) fun p => ?_
  refine JL_all [] rfl ?_
  (repeat' (first | refine J_seq ?_ | refine J_skip ?_ | refine J_yes rfl ?_ | refine J_no rfl ?_))
  refine J_region ?_
  refine JL_val [] (v := netV N A c) (OpV_blk 0 rfl rfl rfl rfl) rfl ?_
  refine JL_run [] rfl ?_
  refine JL_callR [] (room_fn N hN hR A c b o hA f F cf bf of hF hf hfl) rfl rfl rfl rfl (by kernel_rfl) ⟨⟨1, _, by simp, rfl, shows_seg _ _ _, seen_seg⟩, ⟨2, _, by simp, rfl, shows_seg _ _ _, seen_seg⟩, trivial⟩ (fun _ => rfl) ?_
  rintro v H' (⟨hW, A1, c1, rfl, rfl⟩ | ⟨hW, rfl, rfl⟩)
  case inr =>
    refine ⟨rfl, ?_⟩
    refine JL_all [] rfl ?_
    (repeat' (first | refine J_seq ?_ | refine J_skip ?_ | refine J_yes rfl ?_ | refine J_no rfl ?_))
    refine J_block ?_
    (repeat' (first | refine J_seq ?_ | refine J_skip ?_ | refine J_yes rfl ?_ | refine J_no rfl ?_))
    refine J_region ?_
    refine JL_all [] rfl ?_
    refine J_dec rfl (fun h => ?_) (fun h => absurd (flowZ_zero.1 (Classical.not_not.1 h)) hW)
    (repeat' (first | refine J_seq ?_ | refine J_skip ?_ | refine J_yes rfl ?_ | refine J_no rfl ?_))
    refine J_region ?_
    refine JL_all [] rfl ?_
    refine J_drop [] (by decide) rfl (J_ret ⟨_, rfl, .inr (.inl ⟨hW, rfl, rfl⟩)⟩)
  refine ⟨rfl, ?_⟩
  refine JL_all [] rfl ?_
  (repeat' (first | refine J_seq ?_ | refine J_skip ?_ | refine J_yes rfl ?_ | refine J_no rfl ?_))
  refine J_block ?_
  (repeat' (first | refine J_seq ?_ | refine J_skip ?_ | refine J_yes rfl ?_ | refine J_no rfl ?_))
  refine J_region ?_
  refine JL_all [] rfl ?_
  refine J_dec rfl (fun h => absurd rfl h) (fun _ => ?_)
  (repeat' (first | refine J_seq ?_ | refine J_skip ?_ | refine J_yes rfl ?_ | refine J_no rfl ?_))
  refine J_region ?_
  refine JL_all [] rfl ?_
  refine J_dec rfl (fun h => ?_) (fun hle => J_skip ?_)
  · (repeat' (first | refine J_seq ?_ | refine J_skip ?_ | refine J_yes rfl ?_ | refine J_no rfl ?_))
    refine J_region ?_
    refine JL_all [] rfl ?_
    refine J_drop [] (by decide) rfl (J_ret ⟨_, rfl, .inr (.inr ⟨hW, h, rfl, rfl⟩)⟩)
  obtain ⟨rm, hrm⟩ : ∃ rm, rm = roomL (N.arcs.zip f) := ⟨_, rfl⟩
  have hrl : rm.length = 2 * N.arcs.length := by rw [hrm, roomL_length, List.length_zip, hW.len, Nat.min_self]
  rw [← hrm]
  (repeat' (first | refine J_seq ?_ | refine J_skip ?_ | refine J_yes rfl ?_ | refine J_no rfl ?_))
  refine J_region ?_
  refine JL_run [] rfl ?_
  refine JL_val [] (OpV_blk 1 rfl rfl rfl rfl) rfl ?_
  refine JL_run [] rfl ?_
  refine JL_set 41 (v' := .int .i64 ((n + 1 : Nat) : Int)) rfl (congrArg (Value.int .i64) ((w64 (n := N.nodes + 1) (by omega)).trans (by omega))) ?_
  refine JL_make (n := n + 1) (c := n + 1) rfl rfl rfl rfl rfl rfl (by omega) (by omega) (by omega) (fun _ => rfl) fun g => ?_
  refine JL_all [] rfl ?_
  (repeat' (first | refine J_seq ?_ | refine J_skip ?_ | refine J_yes rfl ?_ | refine J_no rfl ?_))
  refine J_region ?_
  refine JL_run [] rfl ?_
  refine JL_val [] (OpV_blk 2 rfl rfl rfl rfl) rfl ?_
  refine JL_run [] rfl ?_
  refine JL_set 45 (v' := .int .i64 ((n + 1 : Nat) : Int)) rfl (congrArg (Value.int .i64) ((w64 (n := N.nodes + 1) (by omega)).trans (by omega))) ?_
  refine JL_make (n := n + 1) (c := n + 1) rfl rfl rfl rfl rfl rfl (by omega) (by omega) (by omega) (fun _ => rfl) fun go => ?_
  refine JL_all [] rfl ?_
  rw [show made [Value.slice none 0 0] ((n + 1) * 1) = (List.replicate (n + 1) nilRow).map rowV by rw [made_one, Nat.mul_one, List.map_replicate]; rfl]
  rw [show made [Value.int .i64 0] ((n + 1) * 1) = ints (List.replicate (n + 1) 0) by rw [made_one, Nat.mul_one]; simp [ints]]
  (repeat' (first | refine J_seq ?_ | refine J_skip ?_ | refine J_yes rfl ?_ | refine J_no rfl ?_))
  refine J_region ?_
  refine JL_all [] rfl ?_
  refine J_block ?_
  refine J_loop (σ := Nat) (fun k => [(49, .int .i64 k), (48, .int .i64 ((n + 1 : Nat) : Int)), (11, .slice (some ⟨go, 0, none⟩) (n + 1) (n + 1)), (10, .slice (some ⟨g, 0, none⟩) (n + 1) (n + 1)), (8, .slice A1 (2 * N.arcs.length) c1), (3, .pointer (some ⟨p, 0, none⟩)), (2, .int .i64 least)])
    (fun k => [.own (.slice (some ⟨go, 0, none⟩) (n + 1) (n + 1)) 3 1 (n + 1) (ints (List.replicate k (-1) ++ List.replicate (n + 1 - k) 0)), .own (.slice (some ⟨g, 0, none⟩) (n + 1) (n + 1)) 50 1 (n + 1) ((List.replicate (n + 1) nilRow).map rowV), .own (.slice A1 (2 * N.arcs.length) c1) 2 1 (2 * N.arcs.length) (ints rm), blk p 24 (netC N A c), .seg b o (arcs N.arcs), .seg bf of (ints f)])
    (fun k => k ≤ n + 1) (fun k => n + 1 - k) 0 [0, 1, 2, 3, 4, 5] ⟨rfl, rfl, rfl, rfl, rfl, rfl, rfl, trivial⟩ (by decide) rfl (Nat.zero_le _) ?_
  · intro k hk
    (repeat' (first | refine J_seq ?_ | refine J_skip ?_ | refine J_yes rfl ?_ | refine J_no rfl ?_))
    refine J_region ?_
    refine JL_all [] rfl ?_
    refine J_seq (J_dec rfl (fun hlt => J_skip ?_) (fun hge => J_exit ?_))
    · have hlt : k < n + 1 := by omega
      refine J_seq (J_block ?_)
      (repeat' (first | refine J_seq ?_ | refine J_skip ?_ | refine J_yes rfl ?_ | refine J_no rfl ?_))
      refine J_region ?_
      refine JL_all [] rfl ?_
      (repeat' (first | refine J_seq ?_ | refine J_skip ?_ | refine J_yes rfl ?_ | refine J_no rfl ?_))
      refine J_region ?_
      refine JL_run [] rfl ?_
      refine JL_val [] (idx1z rfl rfl rfl rfl rfl hlt) rfl ?_
      refine JL_store_own 0 rfl rfl rfl rfl (put_ints rfl (by simp; omega)) [] rfl ?_
      refine JL_nil ?_
      (repeat' (first | refine J_seq ?_ | refine J_skip ?_ | refine J_yes rfl ?_ | refine J_no rfl ?_))
      refine J_region ?_
      refine JL_all [] rfl ?_
      refine ⟨k + 1, [0, 1, 2, 3, 4, 5], ⟨?_, rfl, rfl, rfl, rfl, rfl, rfl, trivial⟩, by decide, ?_, by omega, by omega⟩
      · show some (Value.int .i64 (IntKind.i64.wrap ((k : Int) + 1))) = _
        rw [w64 (by omega)]; rfl
      · rw [show List.replicate (k + 1) (-1 : Int) ++ List.replicate (n + 1 - (k + 1)) 0 = (List.replicate k (-1) ++ List.replicate (n + 1 - k) 0).set k (-1) by
          rw [List.set_append_right _ _ (by simp), List.length_replicate, Nat.sub_self, show n + 1 - k = (n + 1 - (k + 1)) + 1 by omega, List.replicate_succ (n := n + 1 - (k + 1)), List.set_cons_zero, List.replicate_succ' (n := k), List.append_assoc]
          rfl]
        rfl
    · obtain rfl : k = n + 1 := by omega
      rw [Nat.sub_self, List.replicate_zero, List.append_nil]
      (repeat' (first | refine J_seq ?_ | refine J_skip ?_ | refine J_yes rfl ?_ | refine J_no rfl ?_))
      refine J_region ?_
      refine JL_all [] rfl ?_
      refine J_block ?_
      refine J_fit (Fit.nils 3 (n + 1)) ?_
      refine J_loopF (σ := Nat × List Row) (fun s => [(58, .int .i64 s.1), (57, .int .i64 ((2 * N.arcs.length : Nat) : Int)), (56, .slice A1 (2 * N.arcs.length) c1), (11, .slice (some ⟨go, 0, none⟩) (n + 1) (n + 1)), (10, .slice (some ⟨g, 0, none⟩) (n + 1) (n + 1)), (8, .slice A1 (2 * N.arcs.length) c1), (3, .pointer (some ⟨p, 0, none⟩)), (2, .int .i64 least)])
        (fun s => [.own (.slice (some ⟨go, 0, none⟩) (n + 1) (n + 1)) 3 1 (n + 1) (ints (List.replicate (n + 1) (-1))), .own (.slice (some ⟨g, 0, none⟩) (n + 1) (n + 1)) 50 1 (n + 1) (s.2.map rowV), .own (.slice A1 (2 * N.arcs.length) c1) 2 1 (2 * N.arcs.length) (ints rm), blk p 24 (netC N A c), .seg b o (arcs N.arcs), .seg bf of (ints f)] ++ s.2.map (rowC 3))
        (fun s => s.1 ≤ 2 * N.arcs.length ∧ s.2.length = n + 1 ∧ ∀ (v : Nat) (r : Row), s.2[v]? = some r → r.l = tr N s.1 v) (fun s => 2 * N.arcs.length - s.1)
        (0, List.replicate (n + 1) nilRow) ⟨rfl, rfl, rfl, rfl, rfl, rfl, rfl, rfl, trivial⟩ Fit.refl ⟨Nat.zero_le _, by simp, fun v r h => ?_⟩ ?_
      · rw [List.getElem?_replicate] at h
        split at h
        · simp only [Option.some.injEq] at h; subst h; rfl
        · cases h
      rintro ⟨k, rows⟩ ⟨hk, hrows, htr⟩
      simp only at hk hrows htr ⊢
      (repeat' (first | refine J_seq ?_ | refine J_skip ?_ | refine J_yes rfl ?_ | refine J_no rfl ?_))
      refine J_region ?_
      refine JL_all [] rfl ?_
      refine J_seq (J_dec rfl (fun hlt => J_skip ?_) (fun hge => J_exit ?_))
      · have hlt : k < 2 * N.arcs.length := by omega
        have he := endsZ_in hR hlt
        obtain ⟨v, hv⟩ : ∃ v : Nat, (endsZ N k).1 = v := ⟨(endsZ N k).1.toNat, by omega⟩
        have hvn : v < rows.length := by omega
        obtain ⟨row, hrow⟩ : ∃ r, rows[v]? = some r := ⟨rows[v], List.getElem?_eq_getElem hvn⟩
        have hrl' := htr v row hrow
        have hlen := tr_length N k v
        rw [← hrl'] at hlen
        refine J_seq (J_block ?_)
        (repeat' (first | refine J_seq ?_ | refine J_skip ?_ | refine J_yes rfl ?_ | refine J_no rfl ?_))
        refine J_region ?_
        refine JL_all [] rfl ?_
        (repeat' (first | refine J_seq ?_ | refine J_skip ?_ | refine J_yes rfl ?_ | refine J_no rfl ?_))
        refine J_region ?_
        refine JL_val [] (v := netV N A c) (OpV_blk 3 rfl rfl rfl rfl) rfl ?_
        refine JL_run [] rfl ?_
        refine JL_callR [] (ends_fn N A c b o hA hl2 k hlt) rfl rfl rfl rfl (by kernel_rfl) ⟨⟨4, _, by simp, rfl, shows_seg _ _ _, seen_seg⟩, trivial⟩ (fun _ => rfl) ?_
        rintro v' H' ⟨rfl, rfl⟩
        refine ⟨rfl, ?_⟩
        refine JL_all [] rfl ?_
        refine J_set 14 (v' := .int .i64 (v : Int)) rfl (congrArg (Value.int .i64) hv) ?_
        (repeat' (first | refine J_seq ?_ | refine J_skip ?_ | refine J_yes rfl ?_ | refine J_no rfl ?_))
        refine J_region ?_
        refine JL_run [] rfl ?_
        refine JL_val [] (idx1z rfl rfl rfl rfl rfl (by omega)) rfl ?_
        refine JL_val [] (OpV_own (v := rowV row) 1 rfl rfl rfl (show (rows.map rowV)[v]? = some (rowV row) by rw [List.getElem?_map, hrow]; rfl)) rfl ?_
        refine JL_run [] rfl ?_
        refine JL_lit rfl rfl rfl rfl rfl rfl rfl (fun _ => rfl) fun g2 => ?_
        show JL _ _ _ _ _ ([_, _, _, _, _, _, _] ++ rows.map (rowC 3))
        refine JL_fit (Fit.front (i := v) (c := rowC 3 row) (by rw [List.getElem?_map, hrow]; rfl)) ?_
        refine JL_appendS (n := row.l.length) (m := 1) (off := 0) (news := ints [(k : Int)]) 0 1 rfl rfl rfl rfl rfl rfl (by decide) rfl rfl (shows_blk g2 _ _ (0, 0)) (fun _ => rfl) rfl rfl (by omega) (by omega) (fun _ _ => rfl) fun A2 c2 => ?_
        rw [show row.l.length + 1 = (row.l ++ [(k : Int)]).length by simp, show ints row.l ++ ints [(k : Int)] = ints (row.l ++ [(k : Int)]) by simp [ints]]
        refine JL_val [] (idx1z rfl rfl rfl rfl rfl (by omega)) rfl ?_
        refine JL_store_own 3 rfl rfl rfl rfl (put_one rfl rfl rfl (by rw [List.length_map]; omega)) [] rfl ?_
        refine JL_nil ?_
        (repeat' (first | refine J_seq ?_ | refine J_skip ?_ | refine J_yes rfl ?_ | refine J_no rfl ?_))
        refine J_region ?_
        refine JL_all [] rfl ?_
        refine ⟨(k + 1, rows.set v ⟨A2, c2, row.l ++ [(k : Int)]⟩), ⟨?_, rfl, rfl, rfl, rfl, rfl, rfl, rfl, trivial⟩, ?_, ⟨by simp only; omega, by simp only [List.length_set]; omega, fun u r hu => ?_⟩, by simp only; omega⟩
        · show some (Value.int .i64 (IntKind.i64.wrap ((k : Int) + 1))) = _
          rw [w64 (by omega)]; rfl
        · simp only [List.map_set]
          refine Fit.trans (Fit.sub (List.Sublist.cons_cons _ (List.sublist_cons_self _ _))) (Fit.back (A := [_, _, _, _, _, _]) (by rw [List.length_map]; exact hvn))
        · rw [tr_succ]
          by_cases huv : v = u
          · subst huv
            rw [List.getElem?_set_self hvn] at hu
            simp only [Option.some.injEq] at hu
            rw [← hu, if_pos hv, hrl']
          · rw [List.getElem?_set_ne huv] at hu
            rw [if_neg (by omega), List.append_nil]
            exact htr u r hu
      · have hk' : k = 2 * N.arcs.length := by omega
        subst hk'
        have hrowA0 : ∀ w, Has w0 [] w ([.own (.slice (some ⟨go, 0, none⟩) (n + 1) (n + 1)) 3 1 (n + 1) (ints (List.replicate (n + 1) (-1))), .own (.slice (some ⟨g, 0, none⟩) (n + 1) (n + 1)) 50 1 (n + 1) (rows.map rowV), .own (.slice A1 (2 * N.arcs.length) c1) 2 1 (2 * N.arcs.length) (ints rm), blk p 24 (netC N A c), .seg b o (arcs N.arcs), .seg bf of (ints f)] ++ rows.map (rowC 3)) →
            ∀ v : Nat, ∃ gv : Nat, ∀ row, rows[v]? = some row → row.l.length ≤ row.c ∧ (ints row.l ≠ [] → row.A = some ⟨gv, 0, none⟩) := by
          intro w hw v
          cases hv : rows[v]? with
          | none => exact ⟨0, fun row h => by cases h⟩
          | some row =>
            obtain ⟨_, h2, h3, h4⟩ := own_is (X := ⟨w0, [], ⟨0, []⟩⟩) (v + 6) (show _ = some (rowC 3 row) by show (rows.map (rowC 3))[v]? = _; rw [List.getElem?_map, hv]; rfl) w hw
            obtain ⟨gv, hgv⟩ := own_at h3 h4
            exact ⟨gv, fun row' h => by simp only [Option.some.injEq] at h; subst h; exact ⟨h2, hgv⟩⟩
        refine J_know hrowA0 fun hrowA => ?_
        obtain ⟨gv, hgv⟩ : ∃ gv : Nat → Nat, ∀ (v : Nat) (row : Row), rows[v]? = some row → row.l.length ≤ row.c ∧ (ints row.l ≠ [] → row.A = some ⟨gv v, 0, none⟩) := ⟨fun v => Classical.choose (hrowA v), fun v => Classical.choose_spec (hrowA v)⟩
        refine J_know (own_is 2 rfl) fun ⟨_, _, hA1, _⟩ => ?_
        clear hrowA hrowA0
        have hsrc := hR.src
        obtain ⟨s0, hs0⟩ : ∃ s : Nat, N.src = s := ⟨N.src.toNat, by omega⟩
        (repeat' (first | refine J_seq ?_ | refine J_skip ?_ | refine J_yes rfl ?_ | refine J_no rfl ?_))
        refine J_region ?_
        refine JL_alloc rfl rfl rfl (fun _ => rfl) fun pw => ?_
        refine JL_alloc rfl rfl rfl (fun _ => rfl) fun px => ?_
        refine JL_all [] rfl ?_
        (repeat' (first | refine J_seq ?_ | refine J_skip ?_ | refine J_yes rfl ?_ | refine J_no rfl ?_))
        refine J_region ?_
        refine JL_run [] rfl ?_
        (first | refine JL_val [] (OpV_blk 0 rfl rfl rfl rfl) rfl ?_ | refine JL_val [] (OpV_blk 1 rfl rfl rfl rfl) rfl ?_ | refine JL_val [] (OpV_blk 2 rfl rfl rfl rfl) rfl ?_ | refine JL_val [] (OpV_blk 3 rfl rfl rfl rfl) rfl ?_ | refine JL_val [] (OpV_blk 4 rfl rfl rfl rfl) rfl ?_ | refine JL_val [] (OpV_blk 5 rfl rfl rfl rfl) rfl ?_ | refine JL_val [] (OpV_blk 6 rfl rfl rfl rfl) rfl ?_ | refine JL_val [] (OpV_blk 7 rfl rfl rfl rfl) rfl ?_)
        refine JL_set 80 (v' := .int .i64 (s0 : Int)) rfl (congrArg (Value.int .i64) hs0) ?_
        refine JL_val [] (idx1z rfl rfl rfl rfl rfl (by omega)) rfl ?_
        refine JL_store_own 2 rfl rfl rfl rfl (put_ints rfl (by simp; omega)) [] rfl ?_
        refine JL_nil ?_
        refine J_addnil 3 1 ?_
        (repeat' (first | refine J_seq ?_ | refine J_skip ?_ | refine J_yes rfl ?_ | refine J_no rfl ?_))
        refine J_region ?_
        refine JL_run [] rfl ?_
        refine JL_val [] (v := .slice none 0 0) (OpV_blk 1 rfl rfl rfl rfl) rfl ?_
        refine JL_run [] rfl ?_
        (first | refine JL_val [] (OpV_blk 0 rfl rfl rfl rfl) rfl ?_ | refine JL_val [] (OpV_blk 1 rfl rfl rfl rfl) rfl ?_ | refine JL_val [] (OpV_blk 2 rfl rfl rfl rfl) rfl ?_ | refine JL_val [] (OpV_blk 3 rfl rfl rfl rfl) rfl ?_ | refine JL_val [] (OpV_blk 4 rfl rfl rfl rfl) rfl ?_ | refine JL_val [] (OpV_blk 5 rfl rfl rfl rfl) rfl ?_ | refine JL_val [] (OpV_blk 6 rfl rfl rfl rfl) rfl ?_ | refine JL_val [] (OpV_blk 7 rfl rfl rfl rfl) rfl ?_)
        refine JL_set 84 (v' := .int .i64 (s0 : Int)) rfl (congrArg (Value.int .i64) hs0) ?_
        refine JL_lit rfl rfl rfl rfl rfl rfl rfl (fun _ => rfl) fun g3 => ?_
        refine JL_appendS (n := 0) (m := 1) (off := 0) (news := ints [(s0 : Int)]) 1 0 rfl rfl rfl rfl rfl rfl (by decide) rfl rfl (shows_blk g3 _ _ (0, 0)) (fun _ => rfl) rfl rfl (by omega) (by omega) (fun _ _ => rfl) fun A3 c3 => ?_
        refine JL_store 2 rfl rfl rfl rfl rfl [] rfl ?_
        refine JL_nil ?_
        (repeat' (first | refine J_seq ?_ | refine J_skip ?_ | refine J_yes rfl ?_ | refine J_no rfl ?_))
        refine J_region ?_
        refine JL_all [] rfl ?_
        (repeat' (first | refine J_seq ?_ | refine J_skip ?_ | refine J_yes rfl ?_ | refine J_no rfl ?_))
        refine J_region ?_
        refine JL_all [] rfl ?_
        (repeat' (first | refine J_seq ?_ | refine J_skip ?_ | refine J_yes rfl ?_ | refine J_no rfl ?_))
        refine J_addnil 3 1 ?_
        refine J_block ?_
        have hgl : ∀ (v : Nat) (row : Row), rows[v]? = some row → row.l = tr N (2 * N.arcs.length) v := fun v row h => htr v row h
        show J _ _ _ _ ([_, _, _, _, _, _, _, _, _, _, _] ++ rows.map (rowC 3))
        refine J_loopF (σ := LS) (fun s => [(19, .int .i64 s.k), (18, .func (.func 92) #[] #[.pointer (some ⟨px, 0, none⟩), .pointer (some ⟨pw, 0, none⟩)]), (17, .pointer (some ⟨px, 0, none⟩)), (16, .pointer (some ⟨pw, 0, none⟩)), (11, .slice (some ⟨go, 0, none⟩) (n + 1) (n + 1)), (10, .slice (some ⟨g, 0, none⟩) (n + 1) (n + 1)), (8, .slice A1 (2 * N.arcs.length) c1), (3, .pointer (some ⟨p, 0, none⟩)), (2, .int .i64 least)])
          (fun s => [blk px 50 [.slice s.Ax s.fr.length s.cx], blk pw 50 [.slice s.An s.nw.length s.cn], .own (.slice s.Ax s.fr.length s.cx) 3 1 s.fr.length (ints (s.fr.map fun (i : Nat) => (i : Int))), .own (.slice s.An s.nw.length s.cn) 3 1 s.nw.length (ints s.nw),
            .own (.slice (some ⟨go, 0, none⟩) (n + 1) (n + 1)) 3 1 (n + 1) (ints s.lv), .own (.slice (some ⟨g, 0, none⟩) (n + 1) (n + 1)) 50 1 (n + 1) (rows.map rowV), .own (.slice A1 (2 * N.arcs.length) c1) 2 1 (2 * N.arcs.length) (ints rm), blk p 24 (netC N A c), .seg b o (arcs N.arcs), .seg bf of (ints f)] ++ rows.map (rowC 3))
          (fun s => LH N rm least s.k s.fr s.lv) (fun s => 2 * s.lv.count (-1) + s.fr.length)
          ⟨1, [s0], A3, c3, [], none, 0, (List.replicate (n + 1) (-1)).set s0 0⟩ ⟨rfl, rfl, rfl, rfl, rfl, rfl, rfl, rfl, rfl, trivial⟩ (Fit.re [3, 4, 2, 0, 5, 6, 7, 8, 9, 10] rfl (by decide)) ?_ ?_
        · have := LH.init (rm := rm) (least := least) hR
          rw [hs0, hn, Int.toNat_natCast, Int.toNat_natCast] at this
          exact this
        rintro ⟨k, fr, Ax, cx, nw, An, cn, lv⟩ hI
        simp only at hI ⊢
        have hcnt := hI.cnt
        have hk1 := hI.k1
        rw [hn, Int.toNat_natCast] at hcnt
        (repeat' (first | refine J_seq ?_ | refine J_skip ?_ | refine J_yes rfl ?_ | refine J_no rfl ?_))
        refine J_region ?_
        refine JL_run [] rfl ?_
        show JL _ _ _ _ _ ([_, _] ++ ([_, _, _, _, _, _, _, _] ++ rows.map (rowC 3)))
        refine JL_callK (fst := []) (vs := []) (cap := [.pointer (some ⟨px, 0, none⟩), .pointer (some ⟨pw, 0, none⟩)]) [] (turn_fn px pw Ax An fr.length cx nw.length cn) rfl rfl rfl rfl (by kernel_rfl) Fit.refl trivial (fun _ => rfl) ?_
        rintro v H' ⟨rfl, rfl⟩
        refine ⟨rfl, ?_⟩
        refine JL_nil ?_
        refine J_dec rfl (fun hne => J_skip ?_) (fun hne => J_exit ?_)
        · have hfne : fr ≠ [] := by rintro rfl; simp at hne
          refine J_fit (Fit.shrink (m := 0) 3 rfl (Nat.zero_le _)) ?_
          show J _ _ _ _ ([_, _, _, _, _, _, _, _, _, _] ++ rows.map (rowC 3))
          refine J_know (own_is 2 rfl) fun ⟨_, _, hAx, _⟩ => ?_
          obtain ⟨gx, rfl⟩ := hAx (List.length_pos_iff.2 hfne)
          refine J_seq (J_block ?_)
          (repeat' (first | refine J_seq ?_ | refine J_skip ?_ | refine J_yes rfl ?_ | refine J_no rfl ?_))
          refine J_region ?_
          refine JL_run [] rfl ?_
          (first | refine JL_val [] (OpV_blk 0 rfl rfl rfl rfl) rfl ?_ | refine JL_val [] (OpV_blk 1 rfl rfl rfl rfl) rfl ?_ | refine JL_val [] (OpV_blk 2 rfl rfl rfl rfl) rfl ?_ | refine JL_val [] (OpV_blk 3 rfl rfl rfl rfl) rfl ?_ | refine JL_val [] (OpV_blk 4 rfl rfl rfl rfl) rfl ?_ | refine JL_val [] (OpV_blk 5 rfl rfl rfl rfl) rfl ?_ | refine JL_val [] (OpV_blk 6 rfl rfl rfl rfl) rfl ?_ | refine JL_val [] (OpV_blk 7 rfl rfl rfl rfl) rfl ?_)
          refine JL_all [] rfl ?_
          refine J_block ?_
          refine J_loopF (σ := Nat × List Nat × Option Addr × Nat × List Int) (fun s => [(94, .int .i64 s.1), (93, .int .i64 fr.length), (92, .slice (some ⟨gx, 0, none⟩) fr.length cx), (19, .int .i64 k), (18, .func (.func 92) #[] #[.pointer (some ⟨px, 0, none⟩), .pointer (some ⟨pw, 0, none⟩)]), (17, .pointer (some ⟨px, 0, none⟩)), (16, .pointer (some ⟨pw, 0, none⟩)), (11, .slice (some ⟨go, 0, none⟩) (n + 1) (n + 1)), (10, .slice (some ⟨g, 0, none⟩) (n + 1) (n + 1)), (8, .slice A1 (2 * N.arcs.length) c1), (3, .pointer (some ⟨p, 0, none⟩)), (2, .int .i64 least)])
            (fun s => [blk px 50 [.slice s.2.2.1 s.2.1.length s.2.2.2.1], blk pw 50 [.slice (some ⟨gx, 0, none⟩) fr.length cx], .own (.slice (some ⟨gx, 0, none⟩) fr.length cx) 3 1 fr.length (ints (fr.map fun (i : Nat) => (i : Int))), .own (.slice s.2.2.1 s.2.1.length s.2.2.2.1) 3 1 s.2.1.length (ints (s.2.1.map fun (i : Nat) => (i : Int))),
              .own (.slice (some ⟨go, 0, none⟩) (n + 1) (n + 1)) 3 1 (n + 1) (ints s.2.2.2.2), .own (.slice (some ⟨g, 0, none⟩) (n + 1) (n + 1)) 50 1 (n + 1) (rows.map rowV), .own (.slice A1 (2 * N.arcs.length) c1) 2 1 (2 * N.arcs.length) (ints rm), blk p 24 (netC N A c), .seg b o (arcs N.arcs), .seg bf of (ints f)] ++ rows.map (rowC 3))
            (fun s => s.1 ≤ fr.length ∧ LV N rm least k fr s.1 0 s.2.1 s.2.2.2.2 ∧ 2 * s.2.2.2.2.count (-1) + 2 * s.2.1.length = 2 * lv.count (-1)) (fun s => fr.length - s.1)
            (0, [], An, cn, lv) ⟨rfl, rfl, rfl, rfl, rfl, rfl, rfl, rfl, rfl, rfl, rfl, rfl, trivial⟩ (Fit.re [0, 1, 2, 3, 4, 5, 6, 7, 8, 9] rfl (by decide)) ⟨Nat.zero_le _, hI.turn hfne, rfl⟩ ?_
          rintro ⟨i, nxt, Ay, cy, lw⟩ ⟨hil, hV, hct⟩
          simp only at hil hV hct ⊢
          have hvc := hV.cnt
          rw [hn, Int.toNat_natCast] at hvc
          have hwl := hV.len
          rw [hn, Int.toNat_natCast] at hwl
          (repeat' (first | refine J_seq ?_ | refine J_skip ?_ | refine J_yes rfl ?_ | refine J_no rfl ?_))
          refine J_region ?_
          refine JL_all [] rfl ?_
          refine J_seq (J_dec rfl (fun hlt => J_skip ?_) (fun hge => J_exit ?_))
          · have hlt : i < fr.length := by omega
            obtain ⟨v, hv⟩ : ∃ v, fr[i]? = some v := ⟨fr[i], List.getElem?_eq_getElem hlt⟩
            have hvm : (fr.map fun (i : Nat) => (i : Int))[i]? = some (v : Int) := by rw [List.getElem?_map, hv]; rfl
            have hvl := (hV.old v).2 (List.mem_of_getElem? hv)
            have hvn : v < rows.length := by
              refine Nat.lt_of_not_le fun h => ?_
              rw [lvZ_out (by omega)] at hvl
              omega
            obtain ⟨row, hrow⟩ : ∃ row, rows[v]? = some row := ⟨rows[v], List.getElem?_eq_getElem hvn⟩
            have hrowl := hgl v row hrow
            have hrowlen := tr_length N (2 * N.arcs.length) v
            rw [← hrowl] at hrowlen
            refine J_seq (J_block ?_)
            (repeat' (first | refine J_seq ?_ | refine J_skip ?_ | refine J_yes rfl ?_ | refine J_no rfl ?_))
            refine J_region ?_
            refine JL_run [] rfl ?_
            refine JL_val [] (idx1z rfl rfl rfl rfl rfl hlt) rfl ?_
            refine JL_val [] (OpV_own (v := .int .i64 (v : Int)) 2 rfl rfl rfl (ints_get hvm)) rfl ?_
            refine JL_all [] rfl ?_
            (repeat' (first | refine J_seq ?_ | refine J_skip ?_ | refine J_yes rfl ?_ | refine J_no rfl ?_))
            refine J_region ?_
            refine JL_run [] rfl ?_
            refine JL_val [] (idx1z rfl rfl rfl rfl rfl (by omega)) rfl ?_
            refine JL_val [] (OpV_own (v := .slice row.A row.l.length row.c) 5 rfl rfl rfl (show (rows.map rowV)[v]? = some (rowV row) by rw [List.getElem?_map, hrow]; rfl)) rfl ?_
            refine JL_all [] rfl ?_
            refine J_block ?_
            refine J_loopF (σ := Nat × List Nat × Option Addr × Nat × List Int) (fun s => [(103, .int .i64 s.1), (102, .int .i64 row.l.length), (101, .slice row.A row.l.length row.c), (94, .int .i64 i), (93, .int .i64 fr.length), (92, .slice (some ⟨gx, 0, none⟩) fr.length cx), (19, .int .i64 k), (18, .func (.func 92) #[] #[.pointer (some ⟨px, 0, none⟩), .pointer (some ⟨pw, 0, none⟩)]), (17, .pointer (some ⟨px, 0, none⟩)), (16, .pointer (some ⟨pw, 0, none⟩)), (11, .slice (some ⟨go, 0, none⟩) (n + 1) (n + 1)), (10, .slice (some ⟨g, 0, none⟩) (n + 1) (n + 1)), (8, .slice A1 (2 * N.arcs.length) c1), (3, .pointer (some ⟨p, 0, none⟩)), (2, .int .i64 least)])
              (fun s => [blk px 50 [.slice s.2.2.1 s.2.1.length s.2.2.2.1], blk pw 50 [.slice (some ⟨gx, 0, none⟩) fr.length cx], .own (.slice (some ⟨gx, 0, none⟩) fr.length cx) 3 1 fr.length (ints (fr.map fun (i : Nat) => (i : Int))), .own (.slice s.2.2.1 s.2.1.length s.2.2.2.1) 3 1 s.2.1.length (ints (s.2.1.map fun (i : Nat) => (i : Int))),
                .own (.slice (some ⟨go, 0, none⟩) (n + 1) (n + 1)) 3 1 (n + 1) (ints s.2.2.2.2), .own (.slice (some ⟨g, 0, none⟩) (n + 1) (n + 1)) 50 1 (n + 1) (rows.map rowV), .own (.slice A1 (2 * N.arcs.length) c1) 2 1 (2 * N.arcs.length) (ints rm), blk p 24 (netC N A c), .seg b o (arcs N.arcs), .seg bf of (ints f)] ++ rows.map (rowC 3))
              (fun s => s.1 ≤ row.l.length ∧ LV N rm least k fr i s.1 s.2.1 s.2.2.2.2 ∧ 2 * s.2.2.2.2.count (-1) + 2 * s.2.1.length = 2 * lv.count (-1)) (fun s => row.l.length - s.1)
              (0, nxt, Ay, cy, lw) ⟨rfl, rfl, rfl, rfl, rfl, rfl, rfl, rfl, rfl, rfl, rfl, rfl, rfl, rfl, rfl, trivial⟩ Fit.refl ⟨Nat.zero_le _, hV, hct⟩ ?_
            clear hvc hwl hV hct
            rintro ⟨j, nxt, Ay, cy, lw⟩ ⟨hjl, hV, hct⟩
            simp only at hjl hV hct ⊢
            have hvc := hV.cnt
            rw [hn, Int.toNat_natCast] at hvc
            have hwl := hV.len
            rw [hn, Int.toNat_natCast] at hwl
            (repeat' (first | refine J_seq ?_ | refine J_skip ?_ | refine J_yes rfl ?_ | refine J_no rfl ?_))
            refine J_region ?_
            refine JL_all [] rfl ?_
            refine J_seq (J_dec rfl (fun hlt2 => J_skip ?_) (fun hge => J_exit ?_))
            · have hlt2 : j < row.l.length := by omega
              obtain ⟨y, hy⟩ : ∃ y, row.l[j]? = some y := ⟨row.l[j], List.getElem?_eq_getElem hlt2⟩
              have hymem := List.mem_of_getElem? hy
              rw [hrowl] at hymem
              obtain ⟨r, hr, hru, rfl⟩ := mem_tr.1 hymem
              have hin := endsZ_in hR hr
              obtain ⟨te, htn1, htn2⟩ := toN_eq hR hr
              obtain ⟨t, ht⟩ : ∃ t, toN N r = t := ⟨_, rfl⟩
              rw [ht] at te htn1 htn2
              have hfr : frN N r = v := by unfold frN; omega
              obtain ⟨x, hxr⟩ : ∃ x, rm[r]? = some x := ⟨rm[r]'(by omega), List.getElem?_eq_getElem (by omega)⟩
              have hxd : rm.getD r 0 = x := by rw [List.getD_eq_getElem?_getD, hxr]; rfl
              have hlt3 : t < lw.length := by omega
              obtain ⟨gr, rfl⟩ := hA1 (by omega)
              have hrowne : ints row.l ≠ [] := by
                intro h0
                have : row.l.length = 0 := by rw [← ints_length, h0]; rfl
                omega
              have hrA := (hgv v row hrow).2 hrowne
              have hjr : ∃ u, fr[i]? = some u ∧ (tr N (2 * N.arcs.length) u)[j]? = some (r : Int) := ⟨v, hv, hrowl ▸ hy⟩
              have hnext : IntKind.i64.wrap ((j : Int) + 1) = ((j + 1 : Nat) : Int) := w64 (by omega)
              refine J_seq (J_block ?_)
              (repeat' (first | refine J_seq ?_ | refine J_skip ?_ | refine J_yes rfl ?_ | refine J_no rfl ?_))
              refine J_region ?_
              refine JL_run [] rfl ?_
              refine JL_val [] (idx1 (b := gv v) (off := 0) rfl (by rw [hrA]; rfl) rfl rfl rfl hlt2) rfl ?_
              refine JL_val [] (OpV_load_of (b := gv v) (off := 0) (i := j) (cs := ints row.l) (v := .int .i64 (r : Int)) (c := rowC 3 row) (v + 10) rfl rfl (show (rows.map (rowC 3))[v]? = _ by rw [List.getElem?_map, hrow]; rfl)
                (shows_ownS (e := 3) (sz := 1) (n := row.l.length) (cap := row.c) (fun _ => hrA)) (ints_get hy)) rfl ?_
              refine JL_all [] rfl ?_
              (repeat' (first | refine J_seq ?_ | refine J_skip ?_ | refine J_yes rfl ?_ | refine J_no rfl ?_))
              refine J_region ?_
              refine JL_val [] (v := netV N A c) (OpV_blk 7 rfl rfl rfl rfl) rfl ?_
              refine JL_run [] rfl ?_
              refine JL_callR [] (ends_fn N A c b o hA hl2 r hr) rfl rfl rfl rfl (by kernel_rfl) ⟨⟨8, _, by simp, rfl, shows_seg _ _ _, seen_seg⟩, trivial⟩ (fun _ => rfl) ?_
              rintro v' H' ⟨rfl, rfl⟩
              refine ⟨rfl, ?_⟩
              refine JL_all [] rfl ?_
              refine J_set 25 (v' := .int .i64 (t : Int)) rfl (congrArg (Value.int .i64) te) ?_
              (repeat' (first | refine J_seq ?_ | refine J_skip ?_ | refine J_yes rfl ?_ | refine J_no rfl ?_))
              refine J_region ?_
              refine JL_run [] rfl ?_
              refine JL_val [] (idx1z rfl rfl rfl rfl rfl (by omega)) rfl ?_
              refine JL_val [] (OpV_own 6 rfl rfl rfl (readT_int hxr)) rfl ?_
              refine JL_run [] rfl ?_
              have hyes : ∀ E2 : Env, True := fun _ => trivial
              have hskip : rm.getD r 0 < least ∨ lvZ lw (toN N r) ≠ -1 → LV N rm least k fr i (j + 1) nxt lw := fun h => hV.pass hjr h
              by_cases hge : least ≤ x
              · refine JL_set 119 (v' := .bool true) rfl (congrArg Value.bool (cdec_yes hge)) ?_
                refine JL_run [6] rfl ?_
                refine JL_val [6] (idx1z rfl rfl rfl rfl rfl (by omega)) rfl ?_
                refine JL_val [6] (OpV_own 4 rfl rfl rfl (readT_int' (lvZ_at hlt3))) rfl ?_
                refine JL_all [6] rfl ?_
                refine J_dec rfl (fun hnone => ?_) (fun hsome => J_skip ?_)
                · have hput := hV.put (r := r) ⟨v, hv, hfr, hrowl ▸ hy⟩ hr ⟨by omega, by omega⟩ (by omega) (by rw [ht]; exact hnone)
                  have hcs := count_set_int lw t (k : Int) (by rw [lvZ_at hlt3, hnone]) (by omega)
                  rw [ht] at hput
                  (repeat' (first | refine J_seq ?_ | refine J_skip ?_ | refine J_yes rfl ?_ | refine J_no rfl ?_))
                  refine J_region ?_
                  refine JL_run [] rfl ?_
                  refine JL_val [] (idx1z rfl rfl rfl rfl rfl (by omega)) rfl ?_
                  refine JL_store_own 4 rfl rfl rfl rfl (put_ints rfl hlt3) [] rfl ?_
                  refine JL_nil ?_
                  (repeat' (first | refine J_seq ?_ | refine J_skip ?_ | refine J_yes rfl ?_ | refine J_no rfl ?_))
                  refine J_region ?_
                  refine JL_run [] rfl ?_
                  refine JL_val [] (v := .slice Ay nxt.length cy) (OpV_blk 0 rfl rfl rfl rfl) rfl ?_
                  refine JL_run [] rfl ?_
                  refine JL_lit rfl rfl rfl rfl rfl rfl rfl (fun _ => rfl) fun g4 => ?_
                  refine JL_appendS (n := nxt.length) (m := 1) (off := 0) (news := ints [(t : Int)]) 4 0 rfl rfl rfl rfl rfl rfl (by decide) rfl rfl (shows_blk g4 _ _ (0, 0)) (fun _ => rfl) rfl rfl (by omega) (by omega) (fun _ _ => rfl) fun A4 c4 => ?_
                  rw [show nxt.length + 1 = (nxt ++ [t]).length by simp, show ints (nxt.map fun (i : Nat) => (i : Int)) ++ ints [(t : Int)] = ints ((nxt ++ [t]).map fun (i : Nat) => (i : Int)) by simp [ints]]
                  refine JL_store 1 rfl rfl rfl rfl rfl [] rfl ?_
                  refine JL_nil ?_
                  (repeat' (first | refine J_seq ?_ | refine J_skip ?_ | refine J_yes rfl ?_ | refine J_no rfl ?_))
                  refine J_region ?_
                  refine JL_all [] rfl ?_
                  show ∃ s', _ ∧ Fit _ ([_, _, _, _, _, _, _, _, _, _, _] ++ rows.map (rowC 3)) _ ∧ _
                  exact ⟨(j + 1, nxt ++ [t], A4, c4, lw.set t (k : Int)), ⟨congrArg some (congrArg (Value.int .i64) hnext), rfl, rfl, rfl, rfl, rfl, rfl, rfl, rfl, rfl, rfl, rfl, rfl, rfl, rfl, trivial⟩, Fit.re [1, 2, 3, 4, 5, 6, 7, 8, 9, 10] rfl (by decide), ⟨by simp only; omega, hput, by simp only [List.length_append, List.length_singleton]; omega⟩, by simp only; omega⟩
                · (repeat' (first | refine J_seq ?_ | refine J_skip ?_ | refine J_yes rfl ?_ | refine J_no rfl ?_))
                  refine J_region ?_
                  refine JL_all [] rfl ?_
                  exact ⟨(j + 1, nxt, Ay, cy, lw), ⟨congrArg some (congrArg (Value.int .i64) hnext), rfl, rfl, rfl, rfl, rfl, rfl, rfl, rfl, rfl, rfl, rfl, rfl, rfl, rfl, trivial⟩, Fit.refl, ⟨by simp only; omega, hskip (.inr (by rw [ht]; exact hsome)), hct⟩, by simp only; omega⟩
              · refine JL_set 119 (v' := .bool false) rfl (congrArg Value.bool (cdec_no hge)) ?_
                refine JL_all [6] rfl ?_
                refine J_no rfl (J_skip ?_)
                (repeat' (first | refine J_seq ?_ | refine J_skip ?_ | refine J_yes rfl ?_ | refine J_no rfl ?_))
                refine J_region ?_
                refine JL_all [] rfl ?_
                exact ⟨(j + 1, nxt, Ay, cy, lw), ⟨congrArg some (congrArg (Value.int .i64) hnext), rfl, rfl, rfl, rfl, rfl, rfl, rfl, rfl, rfl, rfl, rfl, rfl, rfl, rfl, trivial⟩, Fit.refl, ⟨by simp only; omega, hskip (.inl (by omega)), hct⟩, by simp only; omega⟩
            · have hV' := hV.row (fun u hu => by
                rw [hv] at hu
                simp only [Option.some.injEq] at hu
                rw [← hu, ← hrowl]; omega)
              (repeat' (first | refine J_seq ?_ | refine J_skip ?_ | refine J_yes rfl ?_ | refine J_no rfl ?_))
              refine J_region ?_
              refine JL_all [] rfl ?_
              exact ⟨(i + 1, nxt, Ay, cy, lw), ⟨congrArg some (congrArg (Value.int .i64) (w64 (by omega))), rfl, rfl, rfl, rfl, rfl, rfl, rfl, rfl, rfl, rfl, rfl, trivial⟩, Fit.refl, ⟨by simp only; omega, hV', hct⟩, by simp only; omega⟩
          · have hH := hV.final (by omega)
            (repeat' (first | refine J_seq ?_ | refine J_skip ?_ | refine J_yes rfl ?_ | refine J_no rfl ?_))
            refine J_region ?_
            refine JL_all [] rfl ?_
            exact ⟨⟨k + 1, nxt, Ay, cy, fr.map fun (i : Nat) => (i : Int), some ⟨gx, 0, none⟩, cx, lw⟩, ⟨congrArg some (congrArg (Value.int .i64) (w64 (by omega))), rfl, rfl, rfl, rfl, rfl, rfl, rfl, rfl, trivial⟩, by
              simp only [List.length_map]
              exact Fit.re [0, 1, 3, 2, 4, 5, 6, 7, 8, 9] rfl (by decide), hH, by simp only; have := List.length_pos_iff.2 hfne; omega⟩
        · have hf0 : fr = [] := List.length_eq_zero_iff.1 (by omega)
          subst hf0
          (repeat' (first | refine J_seq ?_ | refine J_skip ?_ | refine J_yes rfl ?_ | refine J_no rfl ?_))
          refine J_region ?_
          refine JL_all [] rfl ?_
          refine J_drop [4] (by decide) rfl (J_ret ⟨_, rfl, .inl ⟨hW, by omega, lv, go, ?_, rfl, rfl⟩⟩)
          rw [← hrm]
          exact hI.lev hR
end Go.Proofs.YtfogkbmbmaganaaGreat
