
/- A flow that is blocked, step by step. -/
import Derived.Test.YtfogkbmbmaganaaGreatOfN
import Derived.Test.YtfogkbmbmaganaaGreatQX11
set_option linter.unusedVariables false
set_option linter.unusedSimpArgs false
namespace Go.Proofs.YtfogkbmbmaganaaGreat
open Go.RowKit
def blockR (N : Net) (f : List Int) (least : Int) (m : Nat) (v : Value) (H' : Heap) : Prop :=
  (IsFlow N f ∧ 1 ≤ least ∧ ∃ (f' : List Int) (ws : List (List Nat × Int)) (g : Nat) (Ak : Option Addr) (ck : Nat) (xs : List Value), BlkOf N least f ws f' ∧
    v = .tuple #[.slice (some ⟨g, 0, none⟩) m m, .slice Ak ws.length ck, .int .i64 0] ∧
    H' = [.own (.slice (some ⟨g, 0, none⟩) m m) 2 1 m (ints f'), .own (.slice Ak ws.length ck) 187 2 ws.length xs]) ∨
  (¬ IsFlow N f ∧ v = .tuple #[.slice none 0 0, .slice none 0 0, .int .i64 (flowZ N f)] ∧ H' = []) ∨ (IsFlow N f ∧ least < 1 ∧ v = .tuple #[.slice none 0 0, .slice none 0 0, .int .i64 3] ∧ H' = [])
structure BS where
  ns : NS
  rm : List Int
  f : List Int
  acc : List (List Nat × Int)
  Ak : Option Addr
  ck : Nat
  xs : List Value
set_option maxHeartbeats 1000000 in
theorem block_fn (N : Net) (hN : N.Fits) (hR : N.Right) (A : Option Addr) (c b o : Nat) (hA : N.arcs ≠ [] → A = some ⟨b, o, none⟩) (f : List Int) (F : Option Addr) (cf bf of : Nat) (hF : f ≠ [] → F = some ⟨bf, of, none⟩) (hf : ∀ x ∈ f, inB x) (hfl : f.length * 8 ≤ 140737488351232) (least : Int) :
    Fn 114 [netV N A c, .slice F f.length cf, .int .i64 least] [] [.seg b o (arcs N.arcs), .seg bf of (ints f)] (blockR N f least f.length) := by
  have hnn := hR.nodes
  have hl2 := hR.len
  obtain ⟨n, hn⟩ : ∃ n : Nat, N.nodes = n := ⟨N.nodes.toNat, by omega⟩
  refine Fn_of Tryz.func114 rfl rfl fun w0 => ?_
  (repeat' (first | refine J_seq ?_ | refine J_skip ?_ | refine J_yes rfl ?_ | refine J_no rfl ?_))
  refine J_region ?_
  refine JL_box (cs := netC N A c) rfl rfl rfl (fun _ => rfl) fun p => ?_
  refine JL_all [] rfl ?_
  (repeat' (first | refine J_seq ?_ | refine J_skip ?_ | refine J_yes rfl ?_ | refine J_no rfl ?_))
  refine J_region ?_
  refine JL_val [] (v := netV N A c) (OpV_blk 0 rfl rfl rfl rfl) rfl ?_
  refine JL_run [] rfl ?_
  refine JL_callR [] (leads_fn N hN hR A c b o hA f F cf bf of hF hf hfl least) rfl rfl rfl rfl (by kernel_rfl) ⟨⟨1, _, by simp, rfl, shows_seg _ _ _, seen_seg⟩, ⟨2, _, by simp, rfl, shows_seg _ _ _, seen_seg⟩, trivial⟩ (fun _ => rfl) ?_
  rintro v H' (⟨hW, hle, lv, B, cb, hlv, rfl, rfl⟩ | ⟨hW, rfl, rfl⟩ | ⟨hW, hle, rfl, rfl⟩)
  case inr.inl =>
    refine ⟨rfl, ?_⟩
    refine JL_all [] rfl ?_
    (repeat' (first | refine J_seq ?_ | refine J_skip ?_ | refine J_yes rfl ?_ | refine J_no rfl ?_))
    refine J_region ?_
    refine JL_all [] rfl ?_
    refine J_dec rfl (fun h => ?_) (fun h => absurd (flowZ_zero.1 (Classical.not_not.1 h)) hW)
    (repeat' (first | refine J_seq ?_ | refine J_skip ?_ | refine J_yes rfl ?_ | refine J_no rfl ?_))
    refine J_region ?_
    refine JL_all [] rfl ?_
    refine J_drop [] (by decide) rfl (J_ret ⟨_, rfl, .inr (.inl ⟨hW, rfl, rfl⟩)⟩)
  case inr.inr =>
    refine ⟨rfl, ?_⟩
    refine JL_all [] rfl ?_
    (repeat' (first | refine J_seq ?_ | refine J_skip ?_ | refine J_yes rfl ?_ | refine J_no rfl ?_))
    refine J_region ?_
    refine JL_all [] rfl ?_
    refine J_dec rfl (fun h => ?_) (fun h => absurd h (by decide))
    (repeat' (first | refine J_seq ?_ | refine J_skip ?_ | refine J_yes rfl ?_ | refine J_no rfl ?_))
    refine J_region ?_
    refine JL_all [] rfl ?_
    refine J_drop [] (by decide) rfl (J_ret ⟨_, rfl, .inr (.inr ⟨hW, hle, rfl, rfl⟩)⟩)
  refine ⟨rfl, ?_⟩
  refine JL_all [] rfl ?_
  (repeat' (first | refine J_seq ?_ | refine J_skip ?_ | refine J_yes rfl ?_ | refine J_no rfl ?_))
  refine J_region ?_
  refine JL_all [] rfl ?_
  refine J_dec rfl (fun h => absurd rfl h) (fun _ => J_skip ?_)
  (repeat' (first | refine J_seq ?_ | refine J_skip ?_ | refine J_yes rfl ?_ | refine J_no rfl ?_))
  refine J_region ?_
  refine JL_val [] (v := netV N A c) (OpV_blk 1 rfl rfl rfl rfl) rfl ?_
  refine JL_run [] rfl ?_
  refine JL_callR [] (room_fn N hN hR A c b o hA f F cf bf of hF hf hfl) rfl rfl rfl rfl (by kernel_rfl) ⟨⟨2, _, by simp, rfl, shows_seg _ _ _, seen_seg⟩, ⟨3, _, by simp, rfl, shows_seg _ _ _, seen_seg⟩, trivial⟩ (fun _ => rfl) ?_
  rintro v H' (⟨_, A1, c1, rfl, rfl⟩ | ⟨h, _, _⟩)
  case inr => exact absurd hW h
  refine ⟨rfl, ?_⟩
  refine JL_all [] rfl ?_
  have hfN := hW.len
  obtain ⟨ls, hls⟩ : ∃ ls, ls = leadsL N (roomL (N.arcs.zip f)) least lv (2 * N.arcs.length) := ⟨_, rfl⟩
  rw [← hls]
  have hlsm : ∀ r ∈ ls, r < 2 * N.arcs.length := fun r hr => (mem_leads.1 (hls ▸ hr)).1
  have hlsl : ls.length ≤ 4000 := by rw [hls]; have := leadsL_length N (roomL (N.arcs.zip f)) least lv (2 * N.arcs.length); omega
  have hG := graded_leads hlv
  rw [← hls] at hG
  refine J_know (own_is 1 rfl) fun ⟨_, _, hB, hlB⟩ => ?_
  obtain ⟨gB, hB⟩ := own_at hB hlB
  refine J_know (own_is 0 rfl) fun ⟨_, _, hA1, hlA1⟩ => ?_
  obtain ⟨gr, hA1⟩ := own_at hA1 hlA1
  have hB' : ls ≠ [] → B = some ⟨gB, 0, none⟩ := fun h => hB (by intro h0; apply h; have := natsI_length ls; unfold natsI at this; rw [h0] at this; exact List.length_eq_zero_iff.1 this.symm)
  (repeat' (first | refine J_seq ?_ | refine J_skip ?_ | refine J_yes rfl ?_ | refine J_no rfl ?_))
  refine J_region ?_
  refine JL_val [] (v := netV N A c) (OpV_blk 2 rfl rfl rfl rfl) rfl ?_
  refine JL_run [] rfl ?_
  refine JL_callR [] (of_fn N hR A c b o hA A1 c1 ls hlsm hlsl B cb gB 0 hB' least n hn) rfl rfl rfl rfl (by kernel_rfl) ⟨⟨3, _, by simp, rfl, shows_seg _ _ _, seen_seg⟩, ⟨1, _, by simp, rfl, shows_ownS hB, seen_ownS hB⟩, trivial⟩ (fun _ => rfl) ?_
  rintro v H' ⟨pw, gl, rows, rfl, hrows, hL, rfl⟩
  refine ⟨noSeg_app rfl (noSeg_rows _ rows), ?_⟩
  refine JL_fit Fit.swap ?_
  show JL _ _ _ _ _ ([_, _, _, _, _, _, _] ++ rows.map (rowC 3))
  refine JL_all [] rfl ?_
  (repeat' (first | refine J_seq ?_ | refine J_skip ?_ | refine J_yes rfl ?_ | refine J_no rfl ?_))
  refine J_region ?_
  refine JL_all [] rfl ?_
  refine J_addnil 3 1 ?_
  refine J_addnil 187 2 ?_
  (repeat' (first | refine J_seq ?_ | refine J_skip ?_ | refine J_yes rfl ?_ | refine J_no rfl ?_))
  refine J_block ?_
  have hgvA : ∀ w, Has w0 [] w ([.own (.slice none 0 0) 187 2 0 [], .own (.slice none 0 0) 3 1 0 [], blk pw 190 (wkC N A c A1 c1 least gl n none 0 0), .own (.slice (some ⟨gl, 0, none⟩) (n + 1) (n + 1)) 50 1 (n + 1) (rows.map rowV), .own (.slice A1 (2 * N.arcs.length) c1) 2 1 (2 * N.arcs.length) (ints (roomL (N.arcs.zip f))), .own (.slice B ls.length cb) 3 1 ls.length (ints (ls.map fun (i : Nat) => (i : Int))), blk p 24 (netC N A c), .seg b o (arcs N.arcs), .seg bf of (ints f)] ++ rows.map (rowC 3)) →
      ∀ v : Nat, ∃ gv : Nat, ∀ row, rows[v]? = some row → row.l.length ≤ row.c ∧ (ints row.l ≠ [] → row.A = some ⟨gv, 0, none⟩) := by
    intro w hw v
    cases hv : rows[v]? with
    | none => exact ⟨0, fun row h => by cases h⟩
    | some row =>
      obtain ⟨_, h2, h3, h4⟩ := own_is (X := ⟨w0, [], ⟨0, []⟩⟩) (v + 9) (show _ = some (rowC 3 row) by show (rows.map (rowC 3))[v]? = _; rw [List.getElem?_map, hv]; rfl) w hw
      obtain ⟨gv, hgv⟩ := own_at h3 h4
      exact ⟨gv, fun row' h => by simp only [Option.some.injEq] at h; subst h; exact ⟨h2, hgv⟩⟩
  show J _ _ _ _ ([_, _, _, _, _, _, _, _, _] ++ rows.map (rowC 3))
  refine J_know hgvA fun hrowA => ?_
  obtain ⟨gv, hgv⟩ : ∃ gv : Nat → Nat, ∀ (v : Nat) (row : Row), rows[v]? = some row → row.l.length ≤ row.c ∧ (ints row.l ≠ [] → row.A = some ⟨gv v, 0, none⟩) := ⟨fun v => Classical.choose (hrowA v), fun v => Classical.choose_spec (hrowA v)⟩
  clear hrowA hgvA
  obtain ⟨rm0, hrm0⟩ : ∃ rm0, rm0 = roomL (N.arcs.zip f) := ⟨_, rfl⟩
  have hL' : ∀ (v : Nat) (row : Row), rows[v]? = some row → row.l = (ldAt N ls v).map fun (i : Nat) => (i : Int) := hL
  have hV0 : VOK rows gv (List.replicate (n + 1) 0) (rows.map rowV) := by
    refine ⟨by simp, fun v row q hr hq => ?_⟩
    rw [List.getElem?_replicate] at hq
    split at hq
    · simp only [Option.some.injEq] at hq
      subst hq
      have h1 := hgv v row hr
      refine ⟨row.A, row.c, by rw [List.getElem?_map, hr]; rfl, h1.1, fun hp => h1.2 (fun h0 => ?_)⟩
      have : row.l.length = 0 := by rw [← ints_length, h0]; rfl
      omega
    · cases hq
  refine J_loopF (σ := BS) (fun s => [(14, .slice s.Ak s.acc.length s.ck), (13, .pointer (some ⟨pw, 0, none⟩)), (11, .slice A1 (2 * N.arcs.length) c1), (1, .slice F f.length cf)])
    (fun s => [blk pw 190 (wkC N A c A1 c1 least gl n s.ns.Aw s.ns.W.length s.ns.cw), .own (.slice (some ⟨gl, 0, none⟩) (n + 1) (n + 1)) 50 1 (n + 1) s.ns.vals, .own (.slice s.ns.Aw s.ns.W.length s.ns.cw) 3 1 s.ns.W.length (natsI s.ns.W),
      .own (.slice A1 (2 * N.arcs.length) c1) 2 1 (2 * N.arcs.length) (ints s.rm), .own (.slice s.Ak s.acc.length s.ck) 187 2 s.acc.length s.xs, .seg b o (arcs N.arcs), .seg bf of (ints f)] ++ rows.map (rowC 3))
    (fun s => PI N (ldAt N ls) least s.rm s.ns.pos s.ns.W ∧ VOK rows gv s.ns.pos s.ns.vals ∧ IsFlow N s.f ∧ s.rm = roomL (N.arcs.zip s.f) ∧ s.acc.length + cntL ls least s.rm ≤ 4000 ∧
      ∀ ws rm', Bl N (ldAt N ls) least s.rm s.ns.pos s.ns.W ws rm' → Bl N (ldAt N ls) least rm0 (List.replicate (N.nodes.toNat + 1) 0) [] (s.acc ++ ws) rm')
    (fun s => cntL ls least s.rm) ⟨⟨List.replicate (n + 1) 0, [], rows.map rowV, none, 0⟩, rm0, f, [], none, 0, []⟩ ⟨rfl, rfl, rfl, rfl, trivial⟩ (by
      simp only [hrm0]
      exact Fit.re [2, 3, 1, 4, 0, 7, 8] rfl (by decide)) ⟨?_, hV0, hW, hrm0, ?_, fun ws rm' h => ?_⟩ ?_
  · have := PI.start (N := N) (L := ldAt N ls) (least := least) (rm := rm0)
    rw [hn, Int.toNat_natCast] at this
    exact this
  · have : cntL ls least rm0 ≤ ls.length := List.length_filter_le _ _
    simp only [List.length_nil]; omega
  · rw [hn, Int.toNat_natCast]; exact h
  rintro ⟨⟨pos, W, vals, Aw, cw⟩, rm, fc, acc, Ak, ck, xs⟩ ⟨hI, hV, hfc, hrm, hcnt, hX⟩
  simp only at hI hV hfc hrm hcnt hX ⊢
  have hrl : rm.length = 2 * N.arcs.length := by rw [hrm]; exact rooms_len hfc.len
  refine J_know (own_is 3 rfl) fun ⟨_, _, hA1x, hlA1x⟩ => ?_
  obtain ⟨grx, hA1x⟩ := own_at hA1x hlA1x
  have hArx : rm ≠ [] → A1 = some ⟨grx, 0, none⟩ := fun h => hA1x (by simpa [ints] using h)
  have hLl : ∀ v, (ldAt N ls v).length ≤ 4000 := fun v => Nat.le_trans (ldAt_length N ls v) hlsl
  (repeat' (first | refine J_seq ?_ | refine J_skip ?_ | refine J_yes rfl ?_ | refine J_no rfl ?_))
  refine J_region ?_
  refine JL_run [] rfl ?_
  refine JL_callK (fst := []) (cap := []) [] (next_fn N hR A c b o hA pw A1 c1 grx least gl n hn (ldAt N ls) (lvZ lv) hG hLl rm hrl hArx rows hrows hL gv (fun v row h => (hgv v row h).2) ⟨pos, W, vals, Aw, cw⟩ hI hV) rfl rfl rfl rfl (by kernel_rfl) (Fit.mid [0, 1, 2] [3, 4, 5, 6] rfl rfl (by decide))
    ⟨⟨2, _, by simp, rfl, shows_seg _ _ _, seen_seg⟩, ⟨0, _, by simp, rfl, shows_ownS hA1x, seen_ownS hA1x⟩, trivial⟩ (fun _ => rfl) ?_
  rintro v H' ⟨bb, ⟨pos2, W2, vals2, Aw2, cw2⟩, rfl, hnx, hI2, hV2, rfl⟩
  simp only at hnx hI2 hV2 ⊢
  refine ⟨noSeg_app rfl (noSeg_rows _ rows), ?_⟩
  refine JL_fit Fit.swap ?_
  refine JL_nil ?_
  cases bb with
  | false =>
    refine J_no rfl (J_exit ?_)
    have hbl := hX _ _ (.stop hnx)
    rw [List.append_nil] at hbl
    have hfcl := hfc.len
    obtain ⟨m, hm⟩ : ∃ m, f.length = m := ⟨_, rfl⟩
    rw [hm] at hfN ⊢
    (repeat' (first | refine J_seq ?_ | refine J_skip ?_ | refine J_yes rfl ?_ | refine J_no rfl ?_))
    refine J_region ?_
    refine JL_run [] rfl ?_
    refine JL_make (n := m) (c := m) rfl rfl rfl rfl rfl rfl (by omega) (by omega) (by omega) (fun _ => rfl) fun go => ?_
    refine JL_all [] rfl ?_
    rw [show made [Value.int .i64 0] (m * 1) = ints (List.replicate m 0) by rw [made_one, Nat.mul_one]; simp [ints]]
    (repeat' (first | refine J_seq ?_ | refine J_skip ?_ | refine J_yes rfl ?_ | refine J_no rfl ?_))
    refine J_region ?_
    refine JL_all [] rfl ?_
    refine J_block ?_
    refine J_loop (σ := Nat) (fun k => [(50, .int .i64 k), (49, .int .i64 m), (15, .slice (some ⟨go, 0, none⟩) m m), (14, .slice Ak acc.length ck), (11, .slice A1 (2 * N.arcs.length) c1)])
      (fun k => [.own (.slice (some ⟨go, 0, none⟩) m m) 2 1 m (ints (fc.take k ++ List.replicate (m - k) 0)), .own (.slice A1 (2 * N.arcs.length) c1) 2 1 (2 * N.arcs.length) (ints rm), .own (.slice Ak acc.length ck) 187 2 acc.length xs])
      (fun k => k ≤ m) (fun k => m - k) 0 [0, 4, 5] ⟨rfl, rfl, rfl, rfl, rfl, trivial⟩ (by decide) rfl (Nat.zero_le _) ?_
    intro k hk
    (repeat' (first | refine J_seq ?_ | refine J_skip ?_ | refine J_yes rfl ?_ | refine J_no rfl ?_))
    refine J_region ?_
    refine JL_all [] rfl ?_
    refine J_seq (J_dec rfl (fun hlt => J_skip ?_) (fun hge => J_exit ?_))
    · have hlt : k < m := by omega
      obtain ⟨x, hx⟩ : ∃ x, fc[k]? = some x := ⟨fc[k]'(by omega), List.getElem?_eq_getElem (by omega)⟩
      obtain ⟨ar, har⟩ : ∃ ar, N.arcs[k]? = some ar := ⟨N.arcs[k]'(by omega), List.getElem?_eq_getElem (by omega)⟩
      have hrx := (roomL_get (zip_some har hx)).2
      rw [← hrm] at hrx
      simp only at hrx
      obtain rfl := hArx (by intro h0; rw [h0] at hrl; simp at hrl; omega)
      refine J_seq (J_block ?_)
      (repeat' (first | refine J_seq ?_ | refine J_skip ?_ | refine J_yes rfl ?_ | refine J_no rfl ?_))
      refine J_region ?_
      refine JL_all [] rfl ?_
      (repeat' (first | refine J_seq ?_ | refine J_skip ?_ | refine J_yes rfl ?_ | refine J_no rfl ?_))
      refine J_region ?_
      refine JL_run [] rfl ?_
      refine JL_set 58 (v' := .int .i64 ((2 * k + 1 : Nat) : Int)) rfl (congrArg (Value.int .i64) (by rw [w64 (n := 2 * (k : Int)) (by omega), w64 (by omega)]; omega)) ?_
      refine JL_val [] (idx1z rfl rfl rfl rfl rfl (by omega)) rfl ?_
      refine JL_val [] (OpV_own 1 rfl rfl rfl (readT_int hrx)) rfl ?_
      refine JL_val [] (idx1z rfl rfl rfl rfl rfl hlt) rfl ?_
      refine JL_store_own 0 rfl rfl rfl rfl (put_ints rfl (by rw [List.length_append, List.length_take, List.length_replicate]; omega)) [] rfl ?_
      refine JL_nil ?_
      (repeat' (first | refine J_seq ?_ | refine J_skip ?_ | refine J_yes rfl ?_ | refine J_no rfl ?_))
      refine J_region ?_
      refine JL_all [] rfl ?_
      refine ⟨k + 1, [0, 1, 2], ⟨?_, rfl, rfl, rfl, rfl, trivial⟩, by decide, ?_, by omega, by omega⟩
      · show some (Value.int .i64 (IntKind.i64.wrap ((k : Int) + 1))) = _
        rw [w64 (by omega)]; rfl
      · rw [show fc.take (k + 1) ++ List.replicate (m - (k + 1)) 0 = (fc.take k ++ List.replicate (m - k) 0).set k x by
          rw [List.set_append_right _ _ (by simp; omega), List.length_take, Nat.min_eq_left (by omega), Nat.sub_self, show m - k = (m - (k + 1)) + 1 by omega, List.replicate_succ, List.set_cons_zero, List.take_add_one, hx, List.append_assoc]
          rfl]
        rfl
    · obtain rfl : k = m := by omega
      rw [Nat.sub_self, List.replicate_zero, List.append_nil, List.take_of_length_le (by omega)]
      (repeat' (first | refine J_seq ?_ | refine J_skip ?_ | refine J_yes rfl ?_ | refine J_no rfl ?_))
      refine J_region ?_
      refine JL_all [] rfl ?_
      refine J_drop [0, 2] (by decide) rfl (J_ret ⟨_, rfl, .inl ⟨hW, hle, fc, acc, go, Ak, ck, xs, ⟨lv, hlv, hfc, ?_⟩, rfl, rfl⟩⟩)
      rw [← hls, ← hrm0, ← hrm]
      exact hbl
  | true =>
    refine J_yes rfl (J_skip ?_)
    obtain ⟨_, hend, _⟩ := hnx.keeps hG hI
    obtain ⟨k1, k2, k3, k4, k5, k6, ⟨f', k7, k8⟩, k9, k10, r, v, k11, k12, k13⟩ := push_keeps hR hG hle hfc hrm hI2 (hend rfl)
    rw [hn, Int.toNat_natCast] at k5
    obtain ⟨r0, hr0⟩ := List.exists_mem_of_ne_nil _ k1
    have hr0l := k2 r0 hr0
    obtain rfl := hArx (by intro h0; rw [h0] at hrl; simp at hrl; omega)
    show J _ _ _ _ ([_, _, _, _, _, _, _] ++ rows.map (rowC 3))
    refine J_fit (Fit.re [0, 3, 2, 1, 4, 5, 6] rfl (by decide)) ?_
    refine J_block ?_
    (repeat' (first | refine J_seq ?_ | refine J_skip ?_ | refine J_yes rfl ?_ | refine J_no rfl ?_))
    refine J_region ?_
    refine JL_run [] rfl ?_
    show JL _ _ _ _ _ ([_, _, _] ++ ([_, _, _, _] ++ rows.map (rowC 3)))
    have hcl : cntL ls least (pushR (mostR rm W2) W2 rm) < cntL ls least rm := cntL_lt (fun q hq => k10 (frN N q) q (mem_ldAt.2 ⟨hq, rfl⟩)) r (mem_ldAt.1 k11).1 k12 k13
    refine JL_callK (fst := []) (cap := []) [] (push_fn N hl2 A c pw grx c1 least hle gl n Aw2 cw2 rm hrl (fun q => by rw [hrm]; exact rooms_bound hR hfc.toRanged q) W2 k2 (by omega) k3 k4 k1) rfl rfl rfl rfl (by kernel_rfl) Fit.refl trivial (fun _ => rfl) ?_
    rintro v' H' ⟨Aw3, cw3, At, ct, rfl, rfl⟩
    refine ⟨rfl, ?_⟩
    obtain ⟨kc, hkc⟩ : ∃ kc, kc = cutR least (pushR (mostR rm W2) W2 rm) W2 := ⟨_, rfl⟩
    have hkcl : kc ≤ W2.length := by rw [hkc]; exact List.findIdx_le_length
    rw [← hkc] at k9 ⊢
    refine JL_lit rfl rfl rfl rfl rfl rfl rfl (fun _ => rfl) fun gk => ?_
    refine JL_appendS (n := acc.length) (m := 1) (off := 0) (news := [.slice At W2.length ct, .int .i64 (mostR rm W2)]) 5 0 rfl rfl rfl rfl rfl rfl (by decide) rfl rfl (shows_blk gk _ _ (0, 0)) (fun _ => rfl) rfl rfl (by omega) (by omega) (fun _ _ => rfl) fun A4 c4 => ?_
    refine JL_all [] rfl ?_
    have htkl : (W2.take kc).length = kc := by rw [List.length_take]; omega
    refine ⟨⟨⟨pos2, W2.take kc, vals2, Aw3, cw3⟩, pushR (mostR rm W2) W2 rm, f', acc ++ [(W2, mostR rm W2)], A4, c4, xs ++ [.slice At W2.length ct, .int .i64 (mostR rm W2)]⟩, ⟨?_, rfl, rfl, rfl, trivial⟩, ?_, ⟨k9, hV2, k7, k8, ?_, fun ws rm' h => ?_⟩, hcl⟩
    · show some (Value.slice A4 (acc.length + 1) c4) = some (Value.slice A4 (acc ++ [(W2, mostR rm W2)]).length c4)
      rw [List.length_append, List.length_singleton]
    · simp only [htkl, List.length_append, List.length_singleton]
      show Fit _ ([_, _, _, _, _, _, _, _] ++ rows.map (rowC 3)) _
      exact Fit.re [1, 4, 3, 2, 5, 6, 7] rfl (by decide)
    · simp only [List.length_append, List.length_singleton]; omega
    · have := hX _ _ (.walk hnx (hkc ▸ h))
      rw [List.append_assoc]
      exact this
end Go.Proofs.YtfogkbmbmaganaaGreat
