
/- The references' words: a flow that blocks, each walk looked for anew. -/
import Derived.Test.YtfogkbmbmaganaaGreatQX21
import Derived.Test.YtfogkbmbmaganaaGreatQX23
set_option linter.unusedVariables false
set_option linter.unusedSimpArgs false
namespace Go.Proofs.YtfogkbmbmaganaaGreat
open Go.RowKit
def rblockR (N : Net) (f : List Int) (least : Int) (v : Value) (H' : Heap) : Prop :=
  (errZ N f least = 0 ∧ ∃ (f' : List Int) (ws : List (List Nat × Int)) (Ao : Option Addr) (co : Nat) (Ak : Option Addr) (ck : Nat), BlkOf N least f ws f' ∧
    v = .tuple #[.slice Ao f.length co, .slice Ak ws.length ck, .int .i64 0] ∧ H' = [.own (.slice Ao f.length co) 2 1 f.length (ints f')]) ∨
  (errZ N f least ≠ 0 ∧ v = .tuple #[.slice none 0 0, .slice none 0 0, .int .i64 (errZ N f least)] ∧ H' = [])
theorem natsI_at {l : List Nat} {A B : Option Addr} (h : natsI l ≠ [] → A = B) (hl : l ≠ []) : A = B := h fun h0 => hl (by
  have h5 : (natsI l).length = 0 := by rw [h0]; rfl
  unfold natsI at h5
  rw [ints_length, List.length_map] at h5
  exact List.length_eq_zero_iff.1 h5)
theorem ints_nat {l : List Int} {A B : Option Addr} (h : ints l ≠ [] → A = B) (hl : l ≠ []) : A = B := h fun h0 => hl (by
  have h5 : (ints l).length = 0 := by rw [h0]; rfl
  rw [ints_length] at h5
  exact List.length_eq_zero_iff.1 h5)
structure KS where
  g : List Int
  acc : List (List Nat × Int)
  Ao : Option Addr
  co : Nat
  Ak : Option Addr
  ck : Nat
  xs : List Value
set_option maxHeartbeats 4000000 in
theorem rblock_fn (N : Net) (hN : N.Fits) (A : Option Addr) (c b o : Nat) (hA : N.arcs ≠ [] → A = some ⟨b, o, none⟩) (f : List Int) (F : Option Addr) (cf bf of : Nat) (hF : f ≠ [] → F = some ⟨bf, of, none⟩) (hf : ∀ x ∈ f, inB x) (hfl : f.length * 8 ≤ 140737488351232) (least : Int) :
    Fn 70 [netV N A c, .slice F f.length cf, .int .i64 least] [] [.seg b o (arcs N.arcs), .seg bf of (ints f)] (rblockR N f least) := by
  refine Fn_of Tryz.func70 rfl rfl fun w0 => ?_
  (repeat' (first | refine J_seq ?_ | refine J_skip ?_ | refine J_yes rfl ?_ | refine J_no rfl ?_))
  refine J_region ?_
  refine JL_box (cs := netC N A c) rfl rfl rfl (fun _ => rfl) fun p => ?_
  refine JL_all [] rfl ?_
  (repeat' (first | refine J_seq ?_ | refine J_skip ?_ | refine J_yes rfl ?_ | refine J_no rfl ?_))
  refine J_region ?_
  refine JL_val [] (v := netV N A c) (OpV_blk 0 rfl rfl rfl rfl) rfl ?_
  refine JL_run [] rfl ?_
  refine JL_callR [] (rleads_fn N hN A c b o hA f F cf bf of hF hf hfl least) rfl rfl rfl rfl (by kernel_rfl) ⟨⟨1, _, by simp, rfl, shows_seg _ _ _, seen_seg⟩, ⟨2, _, by simp, rfl, shows_seg _ _ _, seen_seg⟩, trivial⟩ (fun _ => rfl) ?_
  rintro v H' (⟨he0, lv, Al, cl, hlv, rfl, rfl⟩ | ⟨he, rfl, rfl⟩)
  case inr =>
    refine ⟨rfl, ?_⟩
    refine JL_all [] rfl ?_
    (repeat' (first | refine J_seq ?_ | refine J_skip ?_ | refine J_yes rfl ?_ | refine J_no rfl ?_))
    refine J_region ?_
    refine JL_all [] rfl ?_
    refine J_dec rfl (fun h => ?_) (fun h => absurd he h)
    (repeat' (first | refine J_seq ?_ | refine J_skip ?_ | refine J_yes rfl ?_ | refine J_no rfl ?_))
    refine J_region ?_
    refine JL_all [] rfl ?_
    exact J_drop [] (by decide) rfl (J_ret ⟨_, rfl, .inr ⟨he, rfl, rfl⟩⟩)
  obtain ⟨hR, hW, hle⟩ := errZ_zero.1 he0
  have hnn := hR.nodes
  have hsr := hR.src
  have hsk := hR.snk
  have hdf := hR.diff
  have hl2 := hR.len
  have hfl2 := hW.len
  refine ⟨rfl, ?_⟩
  have hG := graded_leads hlv
  have hll := leadsL_length N (roomL (N.arcs.zip f)) least lv (2 * N.arcs.length)
  have hlm : ∀ r ∈ leadsL N (roomL (N.arcs.zip f)) least lv (2 * N.arcs.length), r < 2 * N.arcs.length ∧ lvZ lv (toN N r) = lvZ lv (frN N r) + 1 := fun r hr => ⟨(mem_leads.1 hr).1, (mem_leads.1 hr).2.2.2⟩
  have hsort : (leadsL N (roomL (N.arcs.zip f)) least lv (2 * N.arcs.length)).Pairwise (· < ·) := List.pairwise_lt_range.filter _
  have hbl : ∀ (g : List Int) (ws : List (List Nat × Int)), IsFlow N g → TR N (ldAt N (leadsL N (roomL (N.arcs.zip f)) least lv (2 * N.arcs.length))) least (roomL (N.arcs.zip f)) ws (roomL (N.arcs.zip g)) → BlkOf N least f ws g := fun g ws hg hT => ⟨lv, hlv, hg, hT.bl hR hG hle hW rfl PI.start⟩
  obtain ⟨ls, hls⟩ : ∃ ls, ls = leadsL N (roomL (N.arcs.zip f)) least lv (2 * N.arcs.length) := ⟨_, rfl⟩
  rw [← hls] at hG hll hlm hsort hbl ⊢
  show JL _ _ _ _ _ ([.own (.slice Al ls.length cl) 3 1 ls.length (natsI ls)] ++ _)
  refine JL_all [] rfl ?_
  (repeat' (first | refine J_seq ?_ | refine J_skip ?_ | refine J_yes rfl ?_ | refine J_no rfl ?_))
  refine J_region ?_
  refine JL_all [] rfl ?_
  refine J_dec rfl (fun h => absurd rfl h) (fun _ => J_skip ?_)
  (repeat' (first | refine J_seq ?_ | refine J_skip ?_ | refine J_yes rfl ?_ | refine J_no rfl ?_))
  refine J_region ?_
  refine JL_lit rfl rfl rfl rfl rfl rfl rfl (fun _ => rfl) fun gx => ?_
  refine JL_fit (fun w h => h.blkOwn (sz := 1) (n := 0) rfl (by decide)) ?_
  refine JL_evO (gs := [999]) rfl ?_
  refine JL_appendS (n := 0) (m := f.length) (off := of) (news := ints f) 0 4 rfl rfl rfl rfl rfl rfl (by decide) rfl rfl (shows_seg _ _ _) (fun hne => hF (by rintro rfl; exact hne rfl)) (by rw [ints_length]; simp) (one_ints' _) (by omega) (by omega) (fun _ _ => rfl) fun A3 c3 => ?_
  refine JL_all [] rfl ?_
  rw [show ([] : List Value) ++ ints f = ints f from rfl, Nat.zero_add]
  (repeat' (first | refine J_seq ?_ | refine J_skip ?_ | refine J_yes rfl ?_ | refine J_no rfl ?_))
  refine J_region ?_
  refine JL_all [] rfl ?_
  (repeat' (first | refine J_seq ?_ | refine J_skip ?_ | refine J_yes rfl ?_ | refine J_no rfl ?_))
  refine J_block ?_
  refine J_addnil 156 2 ?_
  refine J_loopF (σ := KS) (fun s => [(11, .slice s.Ao f.length s.co), (12, .slice s.Ak s.acc.length s.ck), (9, .slice Al ls.length cl), (2, .int .i64 least), (3, .pointer (some ⟨p, 0, none⟩))])
    (fun s => [.own (.slice s.Ao f.length s.co) 2 1 f.length (ints s.g), .own (.slice s.Ak s.acc.length s.ck) 156 2 s.acc.length s.xs, .own (.slice Al ls.length cl) 3 1 ls.length (natsI ls), blk p 24 (netC N A c), .seg b o (arcs N.arcs)])
    (fun s => IsFlow N s.g ∧ s.acc.length + cntL ls least (roomL (N.arcs.zip s.g)) ≤ ls.length ∧ ∀ ws rm', TR N (ldAt N ls) least (roomL (N.arcs.zip s.g)) ws rm' → TR N (ldAt N ls) least (roomL (N.arcs.zip f)) (s.acc ++ ws) rm') (fun s => cntL ls least (roomL (N.arcs.zip s.g))) ⟨f, [], A3, c3, none, 0, []⟩ ⟨rfl, rfl, rfl, rfl, rfl, trivial⟩ (Fit.picks [1, 0, 2, 3, 4] (by decide) rfl) ⟨hW, by simp only [List.length_nil, Nat.zero_add]; exact List.length_filter_le _ _, fun _ _ h => h⟩ ?_
  rintro ⟨g, acc, Ao, co, Ak, ck, xs⟩ ⟨hg, hacc, hTR⟩
  simp only at hg hacc hTR ⊢
  have hgl := hg.len
  have hgin := IsFlow.inB hR hg.toRanged
  refine J_know (own_is 0 rfl) fun ⟨_, _, hAo, hlo⟩ => ?_
  obtain ⟨go, hAo⟩ := own_at hAo hlo
  have hAo' : g ≠ [] → Ao = some ⟨go, 0, none⟩ := ints_nat hAo
  refine J_know (own_is 2 rfl) fun ⟨_, _, hAl, hla⟩ => ?_
  obtain ⟨gl, hAl⟩ := own_at hAl hla
  have hAl' : ls ≠ [] → Al = some ⟨gl, 0, none⟩ := natsI_at hAl
  refine J_block ?_
  have TN := rnext_fn N hN hR A c b o hA g hg Ao co go 0 hAo' ls (fun r hr => (hlm r hr).1) hsort (by omega) Al cl gl 0 hAl' least (lvZ lv) (fun r hr => (hlm r hr).2) hlv.rng
  rw [show g.length = f.length by omega] at TN
  (repeat' (first | refine J_seq ?_ | refine J_skip ?_ | refine J_yes rfl ?_ | refine J_no rfl ?_))
  refine J_region ?_
  refine JL_val [] (v := netV N A c) (OpV_blk 3 rfl rfl rfl rfl) rfl ?_
  refine JL_run [] rfl ?_
  refine JL_callR [] TN rfl rfl rfl rfl (by kernel_rfl) ⟨⟨4, _, by simp, rfl, shows_seg _ _ _, seen_seg⟩, ⟨0, _, by simp, rfl, shows_ownS hAo, seen_ownS hAo⟩, ⟨2, _, by simp, rfl, shows_ownS hAl, seen_ownS hAl⟩, trivial⟩ (fun _ => rfl) ?_
  rintro v H' (⟨pos, W, Aw, cw, hPI, hend, hT, hWm, rfl, rfl⟩ | ⟨pos, hPI, hdead, rfl, rfl⟩)
  case inr =>
    refine ⟨rfl, ?_⟩
    refine JL_all [] rfl ?_
    (repeat' (first | refine J_seq ?_ | refine J_skip ?_ | refine J_yes rfl ?_ | refine J_no rfl ?_))
    refine J_region ?_
    refine JL_all [] rfl ?_
    (repeat' (first | refine J_seq ?_ | refine J_skip ?_ | refine J_yes rfl ?_ | refine J_no rfl ?_))
    (repeat' (first | refine J_seq ?_ | refine J_skip ?_ | refine J_yes rfl ?_ | refine J_no rfl ?_))
    refine J_region ?_
    refine JL_all [] rfl ?_
    refine J_fit (K := [.own (.slice Ao f.length co) 2 1 f.length (ints g)]) (Fit.picks [0] (by decide) rfl) ?_
    have h9 := hTR [] _ (.stop hPI hdead)
    rw [List.append_nil] at h9
    exact J_drop [0] (by decide) rfl (J_ret ⟨_, rfl, .inl ⟨he0, g, acc, Ao, co, Ak, ck, hbl g acc hg h9, rfl, rfl⟩⟩)
  refine ⟨rfl, ?_⟩
  obtain ⟨rm, hrm⟩ : ∃ rm, rm = roomL (N.arcs.zip g) := ⟨_, rfl⟩
  rw [← hrm] at hPI hWm hacc hTR
  have hrl : rm.length = 2 * N.arcs.length := by rw [hrm, roomL_length, List.length_zip, hg.len, Nat.min_self]
  obtain ⟨k1, k2, k3, k4, k5, k6, _, _, k9, r0, v0, k10, k11, k12⟩ := push_keeps hR hG hle hg hrm hPI hend
  have hbnd : ∀ r, 0 ≤ rm.getD r 0 ∧ rm.getD r 0 ≤ 4611686018427387903 := fun r => by rw [hrm]; exact rooms_bound hR hg.toRanged r
  obtain ⟨am, ham⟩ : ∃ am, am = mostR rm W := ⟨_, rfl⟩
  have hamb : inB am := by
    obtain ⟨r, hr, he⟩ := mostR_at (rm := rm) k1
    have := hbnd r
    unfold inB; rw [ham, he]; omega
  obtain ⟨p1, p2, p3⟩ := push_flow hR hg k2 k3 hT (a := am) (by omega) (fun r hr => by rw [ham, hrm]; exact mostR_le r hr)
  rw [← hrm] at p2
  have hdi : W.Pairwise fun r q => r / 2 ≠ q / 2 := by
    rw [List.pairwise_iff_getElem]
    intro i j hi hj hij he
    have h1 := k4 W[i] (List.getElem_mem hi) W[j] (List.getElem_mem hj)
    have h2 : W[i] ≠ W[j] := fun h3 => by
      have := List.pairwise_iff_getElem.1 k3 i j hi hj hij
      exact this h3
    unfold flipT at h1
    split at h1 <;> omega
  have hcnt := cntL_lt (least := least) (rm := rm) (rm' := pushR (mostR rm W) W rm) (ls := ls) (fun r hr => k9 (frN N r) r (mem_ldAt.2 ⟨hr, rfl⟩)) r0 (mem_ldAt.1 k10).1 k11 k12
  refine JL_all [] rfl ?_
  (repeat' (first | refine J_seq ?_ | refine J_skip ?_ | refine J_yes rfl ?_ | refine J_no rfl ?_))
  refine J_region ?_
  refine JL_all [] rfl ?_
  (repeat' (first | refine J_seq ?_ | refine J_skip ?_ | refine J_yes rfl ?_ | refine J_no rfl ?_))
  refine J_know (own_is 0 rfl) fun ⟨_, _, hAw, hlw⟩ => ?_
  obtain ⟨gw, hAw⟩ := own_at hAw hlw
  have hpos : 0 < W.length := List.length_pos_iff.2 k1
  obtain rfl := natsI_at hAw k1
  have TRm := rroom_fn N hN A c b o hA g Ao co go 0 hAo' hgin (by omega)
  rw [show g.length = f.length by omega] at TRm
  (repeat' (first | refine J_seq ?_ | refine J_skip ?_ | refine J_yes rfl ?_ | refine J_no rfl ?_))
  refine J_region ?_
  refine JL_val [] (v := netV N A c) (OpV_blk 4 rfl rfl rfl rfl) rfl ?_
  refine JL_run [] rfl ?_
  refine JL_callR [] TRm rfl rfl rfl rfl (by kernel_rfl) ⟨⟨5, _, by simp, rfl, shows_seg _ _ _, seen_seg⟩, ⟨1, _, by simp, rfl, shows_ownS hAo, seen_ownS hAo⟩, trivial⟩ (fun _ => rfl) ?_
  rintro v H' (⟨_, _, A1, c1, rfl, rfl⟩ | ⟨hw, rfl, rfl⟩)
  case inr => exact absurd (wrong_zero.2 ⟨hR, hg⟩) hw
  refine ⟨rfl, ?_⟩
  refine JL_all [] rfl ?_
  rw [← hrm]
  obtain ⟨r1, hr1⟩ : ∃ r1, W[0]? = some r1 := ⟨W[0], List.getElem?_eq_getElem hpos⟩
  have hhd : W.headD 0 = r1 := by
    cases W with
    | nil => exact absurd rfl k1
    | cons q W => simpa using hr1
  have hr1l := k2 r1 (List.mem_of_getElem? hr1)
  have hget : ∀ r, r < 2 * N.arcs.length → rm[r]? = some (rm.getD r 0) := fun r hr => by rw [List.getD_eq_getElem?_getD, List.getElem?_eq_getElem (by omega)]; rfl
  have hnat : ∀ {i r : Nat}, W[i]? = some r → readT 3 (natsI W) i = some (.int .i64 (r : Int)) := fun {i r} h => ints_get (l := W.map fun (i : Nat) => (i : Int)) (by rw [List.getElem?_map, h]; rfl)
  refine J_know (own_is 0 rfl) fun ⟨_, _, hA1, hl1⟩ => ?_
  obtain ⟨gr, hA1⟩ := own_at hA1 hl1
  obtain rfl := ints_nat hA1 (by rintro rfl; simp at hrl; omega)
  (repeat' (first | refine J_seq ?_ | refine J_skip ?_ | refine J_yes rfl ?_ | refine J_no rfl ?_))
  refine J_region ?_
  refine JL_run [] rfl ?_
  refine JL_val [] (idx1z (m := 0) rfl rfl rfl rfl rfl hpos) rfl ?_
  refine JL_val [] (OpV_own 1 rfl rfl rfl (hnat hr1)) rfl ?_
  refine JL_val [] (idx1z rfl rfl rfl rfl rfl hr1l) rfl ?_
  refine JL_val [] (OpV_own 0 rfl rfl rfl (readT_int (hget r1 hr1l))) rfl ?_
  refine JL_all [] rfl ?_
  refine J_set 17 (v' := .int .i64 (rm.getD (W.headD 0) 0)) rfl (by rw [hhd]) ?_
  (repeat' (first | refine J_seq ?_ | refine J_skip ?_ | refine J_yes rfl ?_ | refine J_no rfl ?_))
  refine J_region ?_
  refine JL_all [] rfl ?_
  (repeat' (first | refine J_seq ?_ | refine J_skip ?_ | refine J_yes rfl ?_ | refine J_no rfl ?_))
  refine J_block ?_
  refine J_loopF (σ := Nat) (fun i => [(18, .int .i64 (i : Int)), (17, .int .i64 ((W.take i).foldl (fun m q => if rm.getD q 0 < m then rm.getD q 0 else m) (rm.getD (W.headD 0) 0))), (15, .slice (some ⟨gr, 0, none⟩) (2 * N.arcs.length) c1), (13, .slice (some ⟨gw, 0, none⟩) W.length cw), (11, .slice Ao f.length co), (12, .slice Ak acc.length ck), (9, .slice Al ls.length cl), (2, .int .i64 least), (3, .pointer (some ⟨p, 0, none⟩))])
    (fun _ => [.own (.slice (some ⟨gr, 0, none⟩) (2 * N.arcs.length) c1) 2 1 (2 * N.arcs.length) (ints rm), .own (.slice (some ⟨gw, 0, none⟩) W.length cw) 3 1 W.length (natsI W), .own (.slice Ao f.length co) 2 1 f.length (ints g), .own (.slice Ak acc.length ck) 156 2 acc.length xs, .own (.slice Al ls.length cl) 3 1 ls.length (natsI ls), blk p 24 (netC N A c), .seg b o (arcs N.arcs)])
    (fun i => i ≤ W.length) (fun i => W.length - i) 0 ⟨rfl, rfl, rfl, rfl, rfl, rfl, rfl, rfl, rfl, trivial⟩ Fit.refl (Nat.zero_le _) ?_
  intro i hi
  (repeat' (first | refine J_seq ?_ | refine J_skip ?_ | refine J_yes rfl ?_ | refine J_no rfl ?_))
  refine J_region ?_
  refine JL_all [] rfl ?_
  (repeat' (first | refine J_seq ?_ | refine J_skip ?_ | refine J_yes rfl ?_ | refine J_no rfl ?_))
  refine J_dec rfl (fun hlt => J_skip ?_) (fun hge => J_exit ?_)
  · have hil : i < W.length := by omega
    obtain ⟨r, hr⟩ : ∃ r, W[i]? = some r := ⟨W[i], List.getElem?_eq_getElem hil⟩
    have hrl2 := k2 r (List.mem_of_getElem? hr)
    refine J_seq (J_block ?_)
    (repeat' (first | refine J_seq ?_ | refine J_skip ?_ | refine J_yes rfl ?_ | refine J_no rfl ?_))
    refine J_region ?_
    refine JL_run [] rfl ?_
    refine JL_val [] (idx1z rfl rfl rfl rfl rfl hil) rfl ?_
    refine JL_val [] (OpV_own 1 rfl rfl rfl (hnat hr)) rfl ?_
    refine JL_val [] (idx1z rfl rfl rfl rfl rfl hrl2) rfl ?_
    refine JL_val [] (OpV_own 0 rfl rfl rfl (readT_int (hget r hrl2))) rfl ?_
    refine JL_all [] rfl ?_
    (repeat' (first | refine J_seq ?_ | refine J_skip ?_ | refine J_yes rfl ?_ | refine J_no rfl ?_))
    refine J_region ?_
    refine JL_all [] rfl ?_
    refine ⟨i + 1, ⟨congrArg some (congrArg (Value.int .i64) (w64 (n := (i : Int) + 1) (by omega))), ?_, rfl, rfl, rfl, rfl, rfl, rfl, rfl, trivial⟩, Fit.refl, hil, by omega⟩
    rw [List.take_add_one, hr, Option.toList_some, List.foldl_append]
    rfl
  obtain rfl : i = W.length := by omega
  rw [List.take_of_length_le (Nat.le_refl _)]
  rw [show W.foldl (fun m q => if rm.getD q 0 < m then rm.getD q 0 else m) (rm.getD (W.headD 0) 0) = am from ham.symm]
  have TP := rpush_fn N hN hR A c b o hA g hg Ao co go 0 hAo' W k2 k1 hT hdi (some ⟨gw, 0, none⟩) cw gw 0 (fun _ => rfl) (by omega) am (by omega) hamb (fun r hr => by rw [ham, ← hrm]; exact mostR_le r hr)
  rw [show g.length = f.length by omega] at TP
  (repeat' (first | refine J_seq ?_ | refine J_skip ?_ | refine J_yes rfl ?_ | refine J_no rfl ?_))
  refine J_region ?_
  refine JL_val [] (v := netV N A c) (OpV_blk 5 rfl rfl rfl rfl) rfl ?_
  refine JL_run [] rfl ?_
  refine JL_callR [] TP rfl rfl rfl rfl (by kernel_rfl) ⟨⟨6, _, by simp, rfl, shows_seg _ _ _, seen_seg⟩, ⟨2, _, by simp, rfl, shows_ownS hAo, seen_ownS hAo⟩, ⟨1, _, by simp, rfl, shows_own, seen_ownS (fun _ => rfl)⟩, trivial⟩ (fun _ => rfl) ?_
  rintro v H' ⟨An, cn, rfl, rfl⟩
  refine ⟨rfl, ?_⟩
  refine JL_all [] rfl ?_
  (repeat' (first | refine J_seq ?_ | refine J_skip ?_ | refine J_yes rfl ?_ | refine J_no rfl ?_))
  refine J_region ?_
  refine JL_all [] rfl ?_
  (repeat' (first | refine J_seq ?_ | refine J_skip ?_ | refine J_yes rfl ?_ | refine J_no rfl ?_))
  refine J_region ?_
  refine JL_run [] rfl ?_
  refine JL_val [] (v := .agg #[.slice (some ⟨gw, 0, none⟩) W.length cw, .int .i64 am]) (OpV_build rfl rfl rfl rfl rfl rfl) rfl ?_
  refine JL_lit rfl rfl rfl rfl rfl rfl rfl (fun _ => rfl) fun gy => ?_
  refine JL_appendS (n := acc.length) (m := 1) (off := 0) (news := [.slice (some ⟨gw, 0, none⟩) W.length cw, .int .i64 am]) 5 0 rfl rfl rfl rfl rfl rfl (by decide) rfl rfl (shows_blk gy _ _ (0, 0)) (fun _ => rfl) rfl rfl (by omega) (by omega) (fun _ _ => rfl) fun Az cz => ?_
  refine JL_all [] rfl ?_
  have hq2 : acc.length + 1 = (acc ++ [(W, am)]).length := by simp
  rw [hq2]
  rw [← ham] at hcnt
  refine ⟨⟨pushF am W g, acc ++ [(W, am)], An, cn, Az, cz, xs ++ [.slice (some ⟨gw, 0, none⟩) W.length cw, .int .i64 am]⟩, ⟨rfl, rfl, rfl, rfl, rfl, trivial⟩, Fit.picks [1, 5, 6, 7, 8] (by decide) rfl, ⟨p1, ?_, fun ws rm' h => ?_⟩, ?_⟩
  · simp only
    rw [← hq2, ← p2]; omega
  · simp only at h ⊢
    rw [List.append_assoc]
    refine hTR _ _ ?_
    rw [← p2] at h
    have h8 := TR.walk hPI hend (by rw [← ham]; exact h)
    rw [← ham] at h8
    exact h8
  · simp only
    rw [← p2]; exact hcnt
end Go.Proofs.YtfogkbmbmaganaaGreat
