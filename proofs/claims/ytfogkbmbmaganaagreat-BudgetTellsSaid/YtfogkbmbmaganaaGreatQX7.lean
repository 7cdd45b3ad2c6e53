/- The engine and the words that all chapters share: several texts in one. -/
import Derived.Test.YtfogkbmbmaganaaGreatRefU

/- The references' words: the next walk. -/
set_option linter.unusedVariables false
set_option linter.unusedSimpArgs false
namespace Go.Proofs.YtfogkbmbmaganaaGreat
open Go.RowKit
def rnextR (N : Net) (ls : List Nat) (least : Int) (rm : List Int) (v : Value) (H' : Heap) : Prop :=
  (∃ (pos W : List Nat) (A' : Option Addr) (c' : Nat), PI N (ldAt N ls) least rm pos W ∧ endN N W = N.snk.toNat ∧ Tr N N.src.toNat W N.snk.toNat ∧ (∀ r ∈ W, r ∈ ls ∧ least ≤ rm.getD r 0) ∧ v = .tuple #[.slice A' W.length c', .bool true] ∧ H' = [.own (.slice A' W.length c') 3 1 W.length (natsI W)]) ∨
  (∃ pos : List Nat, PI N (ldAt N ls) least rm pos [] ∧ Dead (ldAt N ls) pos N.src.toNat ∧ v = .tuple #[.slice none 0 0, .bool false] ∧ H' = [])
set_option maxHeartbeats 1000000 in
theorem rnext_fn (N : Net) (hN : N.Fits) (hR : N.Right) (A : Option Addr) (c b o : Nat) (hA : N.arcs ≠ [] → A = some ⟨b, o, none⟩) (f : List Int) (hW : IsFlow N f) (F : Option Addr) (cf bf of : Nat) (hF : f ≠ [] → F = some ⟨bf, of, none⟩)
    (ls : List Nat) (hlt : ∀ r ∈ ls, r < 2 * N.arcs.length) (hs : ls.Pairwise (· < ·)) (hll : ls.length ≤ 4000) (B : Option Addr) (cb bb ob : Nat) (hB : ls ≠ [] → B = some ⟨bb, ob, none⟩) (least : Int) (lv : Nat → Int) (hlv : ∀ r ∈ ls, lv (toN N r) = lv (frN N r) + 1) (hhi : ∀ v, -1 ≤ lv v ∧ lv v < N.nodes) :
    Fn 83 [netV N A c, .slice F f.length cf, .slice B ls.length cb, .int .i64 least] [] [.seg b o (arcs N.arcs), .seg bf of (ints f), .seg bb ob (natsI ls)] (rnextR N ls least (roomL (N.arcs.zip f))) := by
  have hnn := hR.nodes
  have hsr := hR.src
  have hsk := hR.snk
  have hl2 := hR.len
  have hfl := hW.len
  have hfin := IsFlow.inB hR hW.toRanged
  obtain ⟨n, hn⟩ : ∃ n : Nat, N.nodes = n := ⟨N.nodes.toNat, by omega⟩
  obtain ⟨s0, hs0⟩ : ∃ s0 : Nat, N.src = s0 := ⟨N.src.toNat, by omega⟩
  have hs' : N.src.toNat = s0 := by omega
  refine Fn_of Tryz.func83 rfl rfl fun w0 => ?_
  (repeat' (first | refine J_seq ?_ | refine J_skip ?_ | refine J_yes rfl ?_ | refine J_no rfl ?_))
  refine J_region ?_
  refine JL_box (cs := netC N A c) rfl rfl rfl (fun _ => rfl) fun p => ?_
  refine JL_all [] rfl ?_
  (repeat' (first | refine J_seq ?_ | refine J_skip ?_ | refine J_yes rfl ?_ | refine J_no rfl ?_))
  refine J_region ?_
  refine JL_val [] (v := netV N A c) (OpV_blk 0 rfl rfl rfl rfl) rfl ?_
  refine JL_run [] rfl ?_
  refine JL_callR [] (rroom_fn N hN A c b o hA f F cf bf of hF hfin (by omega)) rfl rfl rfl rfl (by kernel_rfl) ⟨⟨1, _, by simp, rfl, shows_seg _ _ _, seen_seg⟩, ⟨2, _, by simp, rfl, shows_seg _ _ _, seen_seg⟩, trivial⟩ (fun _ => rfl) ?_
  rintro v H' (⟨_, _, A1, c1, rfl, rfl⟩ | ⟨hw, rfl, rfl⟩)
  case inr => exact absurd (wrong_zero.2 ⟨hR, hW⟩) hw
  refine ⟨rfl, ?_⟩
  refine JL_all [] rfl ?_
  (repeat' (first | refine J_seq ?_ | refine J_skip ?_ | refine J_yes rfl ?_ | refine J_no rfl ?_))
  refine J_region ?_
  refine JL_all [] rfl ?_
  refine J_dec rfl (fun h => absurd rfl h) (fun _ => J_skip ?_)
  obtain ⟨rm, hrm⟩ : ∃ rm, rm = roomL (N.arcs.zip f) := ⟨_, rfl⟩
  have hrl : rm.length = 2 * N.arcs.length := by rw [hrm, roomL_length, List.length_zip, hW.len, Nat.min_self]
  rw [← hrm]
  refine J_know (own_is 0 rfl) fun ⟨_, _, hA1, hla⟩ => ?_
  obtain ⟨gr, hA1⟩ := own_at hA1 hla
  have hD0 : DeadC N ls least rm (List.replicate (n + 1) false) := by
    have hf : ∀ v : Nat, (List.replicate (n + 1) false)[v]? ≠ some true := fun v h => by
      rw [List.getElem?_replicate] at h
      split at h <;> simp at h
    exact ⟨by simp; omega, hf _, fun v hv => absurd hv (hf v)⟩
  have hsrc := hhi s0
  (repeat' (first | refine J_seq ?_ | refine J_skip ?_ | refine J_yes rfl ?_ | refine J_no rfl ?_))
  refine J_walk 15 [(0, true), (1, true), (2, true), (3, true), (4, true), (5, true), (6, true), (7, true), (8, true), (9, false), (10, false), (11, true), (12, true), (13, true), (14, true)] [1] (by kernel_rfl) (by decide) rfl ?_
  refine JW_still [] rfl (OpV_blk (v := netV N A c) 0 rfl rfl rfl rfl) rfl ?_
  refine JW_run [] rfl ?_
  refine JW_still [] rfl (OpV_blk (v := .int .i64 N.src) 0 rfl rfl rfl rfl) rfl ?_
  refine JW_set 25 (v' := .int .i64 (s0 : Int)) rfl (congrArg (Value.int .i64) hs0) ?_
  refine JW_run [] rfl ?_
  refine JW_still [] rfl (OpV_blk (v := .int .i64 N.nodes) 0 rfl rfl rfl rfl) rfl ?_
  refine JW_evO (gs := []) rfl rfl ?_
  refine JW_set 28 (v' := .int .i64 ((n + 1 : Nat) : Int)) rfl (congrArg (Value.int .i64) ((w64 (n := N.nodes + 1) (by omega)).trans (by omega))) ?_
  refine JW_eff rfl ?_
  refine JL_make (n := n + 1) (c := n + 1) rfl rfl rfl rfl rfl rfl (by omega) (by omega) (by omega) (fun _ => rfl) fun g => ?_
  rw [show made [Value.bool false] ((n + 1) * 1) = bools (List.replicate (n + 1) false) by rw [made_one, Nat.mul_one]; simp [bools]]
  refine JL_nil ⟨⟨[2], by decide, rfl⟩, ?_⟩
  refine JW_eff rfl ?_
  refine JL_callK [] (seek_fn N hR A c b o hA rm hrl A1 c1 gr 0 (fun h => hA1 fun h0 => h (List.length_eq_zero_iff.1 (by rw [← ints_length, h0]; rfl))) ls hlt hs hll B cb bb ob hB least n g hn lv hlv hhi (n + 1) _ s0 (by omega) (by omega) (by omega) hD0) rfl rfl rfl rfl (by kernel_rfl) Fit.refl ⟨⟨2, _, by simp, rfl, shows_seg _ _ _, seen_seg⟩, ⟨0, _, by simp, rfl, shows_ownS hA1, seen_ownS hA1⟩, ⟨4, _, by simp, rfl, shows_seg _ _ _, seen_seg⟩, trivial⟩ (fun _ => rfl) ?_
  rintro v H' ⟨D', hD', _, (⟨W, A', c', hT, hFT, rfl, rfl⟩ | ⟨hdead, rfl, rfl⟩)⟩
  · refine ⟨rfl, JL_nil ⟨⟨[3], by decide, rfl⟩, ?_⟩⟩
    refine JW_all [] rfl ?_
    refine JL_nil ?_
    refine J_fit (K := [.own (.slice A' W.length c') 3 1 W.length (natsI W)]) (Fit.picks [0] (by decide) rfl) ?_
    rw [← hs'] at hT
    have hPI := posD_PI hR hs hlt hD' hT (.inl hD'.snk) hFT
    exact J_drop [0] (by decide) rfl (J_ret ⟨_, rfl, .inl ⟨_, W, A', c', hPI, (Tr_end hT).symm, hT, fun r hr => ⟨(hFT r hr).1, (hFT r hr).2.1⟩, rfl, rfl⟩⟩)
  · refine ⟨rfl, JL_nil ⟨⟨[2], by decide, rfl⟩, ?_⟩⟩
    refine JW_all [] rfl ?_
    refine JL_nil ?_
    rw [← hs'] at hdead
    have hPI := posD_PI (W := []) (z := N.src.toNat) hR hs hlt hD' rfl (.inr rfl) (by simp)
    exact J_drop [] (by decide) rfl (J_ret ⟨_, rfl, .inr ⟨_, hPI, posD_dead hD' hdead, rfl, rfl⟩⟩)
end Go.Proofs.YtfogkbmbmaganaaGreat


/- The references' words: whether tracks are a walk, and amounts led along one. -/
set_option linter.unusedVariables false
set_option linter.unusedSimpArgs false
namespace Go.Proofs.YtfogkbmbmaganaaGreat
open Go.RowKit
set_option maxHeartbeats 1000000 in
theorem rwalks_fn (N : Net) (hR : N.Right) (A : Option Addr) (c b o : Nat) (hA : N.arcs ≠ [] → A = some ⟨b, o, none⟩) (W : List Nat) (hlt : ∀ r ∈ W, r < 2 * N.arcs.length) (hne : W ≠ []) (ht : Tr N N.src.toNat W N.snk.toNat) (B : Option Addr) (cb bb ob : Nat) (hB : W ≠ [] → B = some ⟨bb, ob, none⟩) (hwl : W.length ≤ 100000) :
    Fn 96 [netV N A c, .slice B W.length cb] [] [.seg b o (arcs N.arcs), .seg bb ob (natsI W)] fun v H' => v = .bool true ∧ H' = [] := by
  have hnn := hR.nodes
  have hsr := hR.src
  have hsk := hR.snk
  have hl2 := hR.len
  obtain ⟨s0, hs0⟩ : ∃ s0 : Nat, N.src = s0 := ⟨N.src.toNat, by omega⟩
  have hs' : N.src.toNat = s0 := by omega
  have hpos : 0 < W.length := List.length_pos_iff.2 hne
  obtain rfl := hB hne
  rw [hs'] at ht
  refine Fn_of Tryz.func96 rfl rfl fun w0 => ?_
  (repeat' (first | refine J_seq ?_ | refine J_skip ?_ | refine J_yes rfl ?_ | refine J_no rfl ?_))
  refine J_region ?_
  refine JL_box (cs := netC N A c) rfl rfl rfl (fun _ => rfl) fun p => ?_
  refine JL_all [] rfl ?_
  (repeat' (first | refine J_seq ?_ | refine J_skip ?_ | refine J_yes rfl ?_ | refine J_no rfl ?_))
  refine J_region ?_
  refine JL_run [] rfl ?_
  refine JL_val [] (v := .int .i64 N.src) (OpV_blk 0 rfl rfl rfl rfl) rfl ?_
  refine JL_set 10 (v' := .int .i64 (s0 : Int)) rfl (congrArg (Value.int .i64) hs0) ?_
  refine JL_all [] rfl ?_
  (repeat' (first | refine J_seq ?_ | refine J_skip ?_ | refine J_yes rfl ?_ | refine J_no rfl ?_))
  refine J_region ?_
  refine JL_all [] rfl ?_
  (repeat' (first | refine J_seq ?_ | refine J_skip ?_ | refine J_yes rfl ?_ | refine J_no rfl ?_))
  refine J_block ?_
  refine J_loopF (σ := Nat × Nat) (fun s => [(6, .int .i64 (s.1 : Int)), (5, .int .i64 (s.2 : Int)), (1, .slice (some ⟨bb, ob, none⟩) W.length cb), (2, .pointer (some ⟨p, 0, none⟩))])
    (fun _ => [blk p 24 (netC N A c), .seg b o (arcs N.arcs), .seg bb ob (natsI W)]) (fun s => s.1 ≤ W.length ∧ Tr N s.2 (W.drop s.1) N.snk.toNat) (fun s => W.length - s.1) (0, s0) ⟨rfl, rfl, rfl, rfl, trivial⟩ Fit.refl ⟨Nat.zero_le _, ht⟩ ?_
  rintro ⟨i, a⟩ ⟨hi, hT⟩
  simp only at hi hT ⊢
  (repeat' (first | refine J_seq ?_ | refine J_skip ?_ | refine J_yes rfl ?_ | refine J_no rfl ?_))
  refine J_region ?_
  refine JL_all [] rfl ?_
  (repeat' (first | refine J_seq ?_ | refine J_skip ?_ | refine J_yes rfl ?_ | refine J_no rfl ?_))
  refine J_dec rfl (fun hlt' => J_skip ?_) (fun hge => J_exit ?_)
  · have hil : i < W.length := by omega
    obtain ⟨r, hr⟩ : ∃ r, W[i]? = some r := ⟨W[i], List.getElem?_eq_getElem hil⟩
    have hd : W.drop i = r :: W.drop (i + 1) := by
      obtain ⟨_, rfl⟩ := List.getElem?_eq_some_iff.1 hr
      rw [List.drop_eq_getElem_cons hil]
    rw [hd] at hT
    obtain ⟨hfr, hT'⟩ : frN N r = a ∧ Tr N (toN N r) (W.drop (i + 1)) N.snk.toNat := hT
    have hrl := hlt r (List.mem_of_getElem? hr)
    obtain ⟨e1, f1, f2⟩ := frN_eq hR hrl
    obtain ⟨e2, t1, t2⟩ := toN_eq hR hrl
    have hE : endsZ N r = ((frN N r : Int), (toN N r : Int)) := Prod.ext e1 e2
    have T := rends_fn N A c b o hA hl2 r hrl
    rw [hE] at T
    have hlsr : (natsI W)[i]? = some (.int .i64 (r : Int)) := ints_get (l := W.map fun (i : Nat) => (i : Int)) (by rw [List.getElem?_map, hr]; rfl)
    have hq : IntKind.i64.wrap ((i : Int) + 1) = ((i + 1 : Nat) : Int) := w64 (by omega)
    refine J_seq (J_block ?_)
    (repeat' (first | refine J_seq ?_ | refine J_skip ?_ | refine J_yes rfl ?_ | refine J_no rfl ?_))
    refine J_walk 11 [(0, true), (1, true), (2, true), (3, true), (4, true), (5, false), (6, true), (7, true), (8, true), (9, true), (10, true)] [0, 2] (by kernel_rfl) (by decide) rfl ?_
    refine JW_still [] rfl (OpV_blk (v := netV N A c) 0 rfl rfl rfl rfl) rfl ?_
    refine JW_run [] rfl ?_
    refine JW_still [] rfl (idx1 rfl rfl rfl rfl rfl hil) rfl ?_
    refine JW_still [] rfl (ldseg (v := .int .i64 (r : Int)) 1 rfl rfl rfl rfl hlsr) rfl ?_
    refine JW_eff rfl ?_
    refine JL_callR [] T rfl rfl rfl rfl (by kernel_rfl) ⟨⟨1, _, by simp, rfl, shows_seg _ _ _, seen_seg⟩, trivial⟩ (fun _ => rfl) ?_
    rintro v H' ⟨rfl, rfl⟩
    refine ⟨rfl, JL_nil ⟨⟨[0, 2], by decide, rfl⟩, ?_⟩⟩
    refine JW_all [] rfl ?_
    refine JL_nil ?_
    (repeat' (first | refine J_seq ?_ | refine J_skip ?_ | refine J_yes rfl ?_ | refine J_no rfl ?_))
    refine J_region ?_
    refine JL_evO (gs := [999]) rfl ?_
    refine JL_evO (gs := [999]) rfl ?_
    refine JL_evO (gs := [999]) rfl ?_
    refine JL_evO (gs := [999]) rfl ?_
    refine JL_set 29 (v' := .bool false) rfl (congrArg Value.bool (cdec_no (by omega))) ?_
    refine JL_all [3] rfl ?_
    refine J_dec rfl (fun h => absurd h (by omega)) (fun _ => J_skip ?_)
    (repeat' (first | refine J_seq ?_ | refine J_skip ?_ | refine J_yes rfl ?_ | refine J_no rfl ?_))
    refine J_region ?_
    refine JL_all [] rfl ?_
    (repeat' (first | refine J_seq ?_ | refine J_skip ?_ | refine J_yes rfl ?_ | refine J_no rfl ?_))
    refine J_region ?_
    refine JL_all [] rfl ?_
    exact ⟨(i + 1, toN N r), ⟨congrArg some (congrArg (Value.int .i64) hq), rfl, rfl, rfl, trivial⟩, Fit.refl, ⟨hil, hT'⟩, by simp only; omega⟩
  · obtain rfl : i = W.length := by omega
    rw [List.drop_length] at hT
    have hT : a = N.snk.toNat := hT
    (repeat' (first | refine J_seq ?_ | refine J_skip ?_ | refine J_yes rfl ?_ | refine J_no rfl ?_))
    refine J_region ?_
    refine JL_evO (gs := [999]) rfl ?_
    refine JL_evO (gs := [999]) rfl ?_
    refine JL_evO (gs := [999]) rfl ?_
    refine JL_evO (gs := [999]) rfl ?_
    refine JL_set 37 (v' := .bool true) rfl (congrArg Value.bool (cdec_yes (by omega))) ?_
    refine JL_run [3] rfl ?_
    refine JL_val [3] (v := .int .i64 N.snk) (OpV_blk 0 rfl rfl rfl rfl) rfl ?_
    refine JL_all [3] rfl ?_
    exact J_drop [] (by decide) rfl (J_ret ⟨_, rfl, congrArg Value.bool (cdec_yes (by omega)), rfl⟩)
end Go.Proofs.YtfogkbmbmaganaaGreat
