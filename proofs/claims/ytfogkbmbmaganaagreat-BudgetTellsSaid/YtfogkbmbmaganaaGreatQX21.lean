/- The engine and the words that all chapters share: several texts in one. -/
import Derived.Test.YtfogkbmbmaganaaGreatQX7
import Derived.Test.YtfogkbmbmaganaaGreatQF

/- The references' words: amounts led along a walk. -/
set_option linter.unusedVariables false
set_option linter.unusedSimpArgs false
namespace Go.Proofs.YtfogkbmbmaganaaGreat
open Go.RowKit
set_option maxHeartbeats 2000000 in
theorem rpush_fn (N : Net) (hN : N.Fits) (hR : N.Right) (A : Option Addr) (c b o : Nat) (hA : N.arcs ≠ [] → A = some ⟨b, o, none⟩) (f : List Int) (hW : IsFlow N f) (F : Option Addr) (cf bf of : Nat) (hF : f ≠ [] → F = some ⟨bf, of, none⟩)
    (W : List Nat) (hlt : ∀ r ∈ W, r < 2 * N.arcs.length) (hne : W ≠ []) (ht : Tr N N.src.toNat W N.snk.toNat) (hdi : W.Pairwise fun r q => r / 2 ≠ q / 2) (B : Option Addr) (cb bb ob : Nat) (hB : W ≠ [] → B = some ⟨bb, ob, none⟩) (hwl : W.length ≤ 100000) (a : Int) (ha : 1 ≤ a) (hab : inB a) (hroom : ∀ r ∈ W, a ≤ (roomL (N.arcs.zip f)).getD r 0) :
    Fn 85 [netV N A c, .slice F f.length cf, .slice B W.length cb, .int .i64 a] [] [.seg b o (arcs N.arcs), .seg bf of (ints f), .seg bb ob (natsI W)] fun v H' => ∃ (A' : Option Addr) (c' : Nat), v = .tuple #[.slice A' f.length c', .int .i64 0] ∧ H' = [.own (.slice A' f.length c') 2 1 f.length (ints (pushF a W f))] := by
  have hl2 := hR.len
  have hfl := hW.len
  have hfin := IsFlow.inB hR hW.toRanged
  refine Fn_of Tryz.func85 rfl rfl fun w0 => ?_
  (repeat' (first | refine J_seq ?_ | refine J_skip ?_ | refine J_yes rfl ?_ | refine J_no rfl ?_))
  refine J_region ?_
  refine JL_box (cs := netC N A c) rfl rfl rfl (fun _ => rfl) fun p => ?_
  refine JL_all [] rfl ?_
  (repeat' (first | refine J_seq ?_ | refine J_skip ?_ | refine J_yes rfl ?_ | refine J_no rfl ?_))
  refine J_region ?_
  refine JL_val [] (v := netV N A c) (OpV_blk 0 rfl rfl rfl rfl) rfl ?_
  refine JL_run [] rfl ?_
  refine JL_callR [] (rflow_fn N hN A c b o hA f F cf bf of hF hfin (by omega)) rfl rfl rfl rfl (by kernel_rfl) ⟨⟨1, _, by simp, rfl, shows_seg _ _ _, seen_seg⟩, ⟨2, _, by simp, rfl, shows_seg _ _ _, seen_seg⟩, trivial⟩ (fun _ => rfl) ?_
  rintro v H' ⟨rfl, rfl⟩
  refine ⟨rfl, ?_⟩
  rw [wrong_zero.2 ⟨hR, hW⟩]
  refine JL_all [] rfl ?_
  (repeat' (first | refine J_seq ?_ | refine J_skip ?_ | refine J_yes rfl ?_ | refine J_no rfl ?_))
  refine J_region ?_
  refine JL_all [] rfl ?_
  refine J_dec rfl (fun h => absurd rfl h) (fun _ => J_skip ?_)
  (repeat' (first | refine J_seq ?_ | refine J_skip ?_ | refine J_yes rfl ?_ | refine J_no rfl ?_))
  refine J_region ?_
  refine JL_val [] (v := netV N A c) (OpV_blk 0 rfl rfl rfl rfl) rfl ?_
  refine JL_run [] rfl ?_
  refine JL_callR [] (rwalks_fn N hR A c b o hA W hlt hne ht B cb bb ob hB hwl) rfl rfl rfl rfl (by kernel_rfl) ⟨⟨1, _, by simp, rfl, shows_seg _ _ _, seen_seg⟩, ⟨3, _, by simp, rfl, shows_seg _ _ _, seen_seg⟩, trivial⟩ (fun _ => rfl) ?_
  rintro v H' ⟨rfl, rfl⟩
  refine ⟨rfl, ?_⟩
  refine JL_all [] rfl ?_
  (repeat' (first | refine J_seq ?_ | refine J_skip ?_ | refine J_yes rfl ?_ | refine J_no rfl ?_))
  (repeat' (first | refine J_seq ?_ | refine J_skip ?_ | refine J_yes rfl ?_ | refine J_no rfl ?_))
  refine J_region ?_
  refine JL_all [] rfl ?_
  refine J_dec rfl (fun h => absurd h (by omega)) (fun _ => J_skip ?_)
  (repeat' (first | refine J_seq ?_ | refine J_skip ?_ | refine J_yes rfl ?_ | refine J_no rfl ?_))
  refine J_region ?_
  refine JL_lit rfl rfl rfl rfl rfl rfl rfl (fun _ => rfl) fun gx => ?_
  refine JL_fit (fun w h => h.blkOwn (sz := 1) (n := 0) rfl (by decide)) ?_
  refine JL_evO (gs := [999]) rfl ?_
  refine JL_appendS (n := 0) (m := f.length) (off := of) (news := ints f) 0 3 rfl rfl rfl rfl rfl rfl (by decide) rfl rfl (shows_seg _ _ _) (fun hne => hF (by rintro rfl; exact hne rfl)) (by rw [ints_length]; simp) (one_ints' _) (by omega) (by omega) (fun _ _ => rfl) fun A3 c3 => ?_
  refine JL_all [] rfl ?_
  rw [show ([] : List Value) ++ ints f = ints f from rfl, Nat.zero_add]
  (repeat' (first | refine J_seq ?_ | refine J_skip ?_ | refine J_yes rfl ?_ | refine J_no rfl ?_))
  refine J_region ?_
  refine JL_all [] rfl ?_
  (repeat' (first | refine J_seq ?_ | refine J_skip ?_ | refine J_yes rfl ?_ | refine J_no rfl ?_))
  refine J_block ?_
  refine J_loopF (σ := Nat × List Int) (fun s => [(12, .int .i64 (s.1 : Int)), (11, .slice A3 f.length c3), (2, .slice B W.length cb), (3, .int .i64 a), (4, .pointer (some ⟨p, 0, none⟩))])
    (fun s => [.own (.slice A3 f.length c3) 2 1 f.length (ints s.2), blk p 24 (netC N A c), .seg b o (arcs N.arcs), .seg bb ob (natsI W)])
    (fun s => s.1 ≤ W.length ∧ s.2.length = f.length ∧ pushF a (W.drop s.1) s.2 = pushF a W f ∧ ∀ r ∈ W.drop s.1, s.2.getD (r / 2) 0 = f.getD (r / 2) 0) (fun s => W.length - s.1) (0, f) ⟨rfl, rfl, rfl, rfl, rfl, trivial⟩ (Fit.picks [0, 1, 2, 4] (by decide) rfl) ⟨Nat.zero_le _, rfl, rfl, fun _ _ => rfl⟩ ?_
  rintro ⟨i, out⟩ ⟨hi, hol, hpu, hsame⟩
  simp only at hi hol hpu hsame ⊢
  refine J_know (own_is 0 rfl) fun ⟨_, _, hA3, hla⟩ => ?_
  obtain ⟨g3, hA3⟩ := own_at hA3 hla
  (repeat' (first | refine J_seq ?_ | refine J_skip ?_ | refine J_yes rfl ?_ | refine J_no rfl ?_))
  refine J_region ?_
  refine JL_all [] rfl ?_
  (repeat' (first | refine J_seq ?_ | refine J_skip ?_ | refine J_yes rfl ?_ | refine J_no rfl ?_))
  refine J_dec rfl (fun hlt' => J_skip ?_) (fun hge => J_exit ?_)
  · have hil : i < W.length := by omega
    obtain ⟨r, hr⟩ : ∃ r, W[i]? = some r := ⟨W[i], List.getElem?_eq_getElem hil⟩
    have hd : W.drop i = r :: W.drop (i + 1) := by
      obtain ⟨_, rfl⟩ := List.getElem?_eq_some_iff.1 hr
      rw [List.drop_eq_getElem_cons hil]
    have hrm := List.mem_of_getElem? hr
    have hrl := hlt r hrm
    obtain rfl := hB hne
    obtain ⟨ar, har⟩ : ∃ ar, N.arcs[r / 2]? = some ar := ⟨N.arcs[r / 2]'(by omega), List.getElem?_eq_getElem (by omega)⟩
    obtain rfl := hA (by intro h; rw [h] at har; simp at har)
    obtain ⟨_, _, hcap⟩ := arcs_get har
    obtain ⟨x, hx⟩ : ∃ x, out[r / 2]? = some x := ⟨out[r / 2]'(by omega), List.getElem?_eq_getElem (by omega)⟩
    have hxd : out.getD (r / 2) 0 = x := by rw [List.getD_eq_getElem?_getD, hx]; rfl
    have hfx : f[r / 2]? = some x := by
      have h1 := hsame r (by rw [hd]; simp)
      rw [hxd] at h1
      rw [List.getElem?_eq_getElem (show r / 2 < f.length by omega)]
      have : f.getD (r / 2) 0 = f[r / 2]'(by omega) := by rw [List.getD_eq_getElem?_getD, List.getElem?_eq_getElem (by omega)]; rfl
      rw [← this, ← h1]
    have hz := zip_some har hfx
    have hxr := hW.all _ (List.mem_of_getElem? hz)
    simp only at hxr
    obtain ⟨r1, r2⟩ := roomL_get hz
    simp only at r1 r2
    have hro := hroom r hrm
    have hcb := (hN.arc ar (List.mem_of_getElem? har)).2.2
    unfold inB at hcb hab
    obtain rfl := hA3 (fun h0 => by
      have h5 : (ints out).length = 0 := by rw [h0]; rfl
      rw [ints_length] at h5
      have := (List.getElem?_eq_some_iff.1 hx).1
      omega)
    have hlsr : (natsI W)[i]? = some (.int .i64 (r : Int)) := ints_get (l := W.map fun (i : Nat) => (i : Int)) (by rw [List.getElem?_map, hr]; rfl)
    have hq : IntKind.i64.wrap ((i : Int) + 1) = ((i + 1 : Nat) : Int) := w64 (by omega)
    have hq2 : IntKind.i64.wrap ((r : Int).tdiv 2) = ((r / 2 : Nat) : Int) := by rw [w64 (by rw [Int.tdiv_eq_ediv_of_nonneg (by omega)]; omega), Int.tdiv_eq_ediv_of_nonneg (by omega)]; omega
    have hmd : (r : Int).tmod 2 = ((r % 2 : Nat) : Int) := by rw [Int.tmod_eq_emod_of_nonneg (by omega)]; omega
    rw [hd] at hpu hsame
    have hdi2 : ∀ q ∈ W.drop (i + 1), r / 2 ≠ q / 2 := by
      have h1 := hdi.drop (i := i)
      rw [hd] at h1
      exact (List.pairwise_cons.1 h1).1
    have hkeep : ∀ (y : Int), ∀ q ∈ W.drop (i + 1), (out.set (r / 2) y).getD (q / 2) 0 = f.getD (q / 2) 0 := by
      intro y q hq3
      rw [List.getD_eq_getElem?_getD, List.getElem?_set_ne (hdi2 q hq3), ← List.getD_eq_getElem?_getD]
      exact hsame q (by simp [hq3])
    have hk : r / 2 < f.length := by omega
    refine J_seq (J_block ?_)
    (repeat' (first | refine J_seq ?_ | refine J_skip ?_ | refine J_yes rfl ?_ | refine J_no rfl ?_))
    refine J_region ?_
    refine JL_run [] rfl ?_
    refine JL_val [] (idx1 rfl rfl rfl rfl rfl hil) rfl ?_
    refine JL_val [] (ldseg (v := .int .i64 (r : Int)) 3 rfl rfl rfl rfl hlsr) rfl ?_
    refine JL_val [] (OpV_quo (b := 2) rfl rfl rfl (by decide)) rfl ?_
    refine JL_set 39 (v' := .int .i64 ((r / 2 : Nat) : Int)) rfl (congrArg (Value.int .i64) hq2) ?_
    refine JL_all [] rfl ?_
    (repeat' (first | refine J_seq ?_ | refine J_skip ?_ | refine J_yes rfl ?_ | refine J_no rfl ?_))
    refine J_region ?_
    refine JL_run [] rfl ?_
    refine JL_val [] (idx1 rfl rfl rfl rfl rfl hil) rfl ?_
    refine JL_val [] (ldseg (v := .int .i64 (r : Int)) 3 rfl rfl rfl rfl hlsr) rfl ?_
    refine JL_evO (gs := [999]) rfl ?_
    refine JL_set 44 (v' := .int .i64 ((r % 2 : Nat) : Int)) rfl (congrArg (Value.int .i64) hmd) ?_
    refine JL_all [] rfl ?_
    (repeat' (first | refine J_seq ?_ | refine J_skip ?_ | refine J_yes rfl ?_ | refine J_no rfl ?_))
    refine J_dec rfl (fun hev => ?_) (fun hod => ?_)
    · have hro2 : a ≤ ar.cap - x := by
        rw [List.getD_eq_getElem?_getD, show r = 2 * (r / 2) by omega, r1] at hro
        simpa using hro
      (repeat' (first | refine J_seq ?_ | refine J_skip ?_ | refine J_yes rfl ?_ | refine J_no rfl ?_))
      refine J_walk 13 [(0, true), (1, true), (2, true), (3, true), (4, true), (5, true), (6, true), (7, true), (8, true), (9, true), (10, true), (11, true), (12, true)] [0, 1, 2] (by kernel_rfl) (by decide) rfl ?_
      refine JW_run [] rfl ?_
      refine JW_still [] rfl (OpV_blk (v := .slice (some ⟨b, o, none⟩) N.arcs.length c) 1 rfl rfl rfl rfl) rfl ?_
      refine JW_run [] rfl ?_
      refine JW_still [] rfl (idxN rfl rfl rfl rfl rfl (show r / 2 < N.arcs.length by omega)) rfl ?_
      refine JW_run [] rfl ?_
      refine JW_still [] rfl (ldseg 2 rfl rfl rfl rfl hcap) rfl ?_
      refine JW_run [] rfl ?_
      refine JW_still [] rfl (idx1z rfl rfl rfl rfl rfl hk) rfl ?_
      refine JW_still [] rfl (OpV_own 0 rfl rfl rfl (readT_int hx)) rfl ?_
      refine JW_evO (gs := []) rfl rfl ?_
      refine JW_set 56 (v' := .int .i64 (ar.cap - x)) rfl (congrArg (Value.int .i64) (w64 (by omega))) ?_
      refine JW_all [] rfl ?_
      refine JL_nil ?_
      (repeat' (first | refine J_seq ?_ | refine J_skip ?_ | refine J_yes rfl ?_ | refine J_no rfl ?_))
      refine J_dec rfl (fun h => absurd h (by omega)) (fun _ => J_skip ?_)
      (repeat' (first | refine J_seq ?_ | refine J_skip ?_ | refine J_yes rfl ?_ | refine J_no rfl ?_))
      refine J_region ?_
      refine JL_run [] rfl ?_
      refine JL_val [] (idx1z rfl rfl rfl rfl rfl hk) rfl ?_
      refine JL_val [] (OpV_own 0 rfl rfl rfl (readT_int hx)) rfl ?_
      refine JL_evO (gs := [999]) rfl ?_
      refine JL_evO (gs := [999]) rfl ?_
      refine JL_set 66 (v' := .int .i64 (x + a)) rfl (congrArg (Value.int .i64) (w64 (by omega))) ?_
      refine JL_val [] (idx1z rfl rfl rfl rfl rfl hk) rfl ?_
      refine JL_store_own 0 rfl rfl rfl rfl (put_ints rfl (by omega)) [] rfl ?_
      refine JL_nil ?_
      (repeat' (first | refine J_seq ?_ | refine J_skip ?_ | refine J_yes rfl ?_ | refine J_no rfl ?_))
      refine J_region ?_
      refine JL_all [] rfl ?_
      have e : pushF1 a r out = out.set (r / 2) (x + a) := by unfold pushF1; rw [if_neg (by omega), hxd]
      refine ⟨(i + 1, out.set (r / 2) (x + a)), ⟨congrArg some (congrArg (Value.int .i64) hq), rfl, rfl, rfl, rfl, trivial⟩, Fit.refl, ⟨hil, by simp only [List.length_set]; exact hol, ?_, hkeep _⟩, by simp only; omega⟩
      rw [← e]; exact hpu
    · have hro2 : a ≤ x := by
        rw [List.getD_eq_getElem?_getD, show r = 2 * (r / 2) + 1 by omega, r2] at hro
        simpa using hro
      (repeat' (first | refine J_seq ?_ | refine J_skip ?_ | refine J_yes rfl ?_ | refine J_no rfl ?_))
      refine J_region ?_
      refine JL_run [] rfl ?_
      refine JL_val [] (idx1z rfl rfl rfl rfl rfl hk) rfl ?_
      refine JL_val [] (OpV_own 0 rfl rfl rfl (readT_int hx)) rfl ?_
      refine JL_all [] rfl ?_
      (repeat' (first | refine J_seq ?_ | refine J_skip ?_ | refine J_yes rfl ?_ | refine J_no rfl ?_))
      refine J_dec rfl (fun h => absurd h (by omega)) (fun _ => J_skip ?_)
      (repeat' (first | refine J_seq ?_ | refine J_skip ?_ | refine J_yes rfl ?_ | refine J_no rfl ?_))
      refine J_region ?_
      refine JL_run [] rfl ?_
      refine JL_val [] (idx1z rfl rfl rfl rfl rfl hk) rfl ?_
      refine JL_val [] (OpV_own 0 rfl rfl rfl (readT_int hx)) rfl ?_
      refine JL_evO (gs := [999]) rfl ?_
      refine JL_evO (gs := [999]) rfl ?_
      refine JL_set 81 (v' := .int .i64 (x + -a)) rfl (congrArg (Value.int .i64) ((w64 (by omega)).trans (by omega))) ?_
      refine JL_val [] (idx1z rfl rfl rfl rfl rfl hk) rfl ?_
      refine JL_store_own 0 rfl rfl rfl rfl (put_ints rfl (by omega)) [] rfl ?_
      refine JL_nil ?_
      (repeat' (first | refine J_seq ?_ | refine J_skip ?_ | refine J_yes rfl ?_ | refine J_no rfl ?_))
      refine J_region ?_
      refine JL_all [] rfl ?_
      have e : pushF1 a r out = out.set (r / 2) (x + -a) := by unfold pushF1; rw [if_pos (by omega), hxd]
      refine ⟨(i + 1, out.set (r / 2) (x + -a)), ⟨congrArg some (congrArg (Value.int .i64) hq), rfl, rfl, rfl, rfl, trivial⟩, Fit.refl, ⟨hil, by simp only [List.length_set]; exact hol, ?_, hkeep _⟩, by simp only; omega⟩
      rw [← e]; exact hpu
  · obtain rfl : i = W.length := by omega
    rw [List.drop_length] at hpu
    have hpu : out = pushF a W f := hpu
    (repeat' (first | refine J_seq ?_ | refine J_skip ?_ | refine J_yes rfl ?_ | refine J_no rfl ?_))
    refine J_region ?_
    refine JL_all [] rfl ?_
    rw [hpu]
    exact J_drop [0] (by decide) rfl (J_ret ⟨_, rfl, A3, c3, rfl, rfl⟩)
end Go.Proofs.YtfogkbmbmaganaaGreat


/- Levels, found one behind the other over all tracks, in plain terms. -/
set_option linter.unusedVariables false
set_option linter.unusedSimpArgs false
namespace Go.Proofs.YtfogkbmbmaganaaGreat
open Go.RowKit
theorem nodup_len_le : ∀ (l m : List Int), l.Nodup → (∀ x ∈ l, x ∈ m) → l.length ≤ m.length
  | [], _, _, _ => Nat.zero_le _
  | x :: l, m, hn, hs => by
    have h1 := List.nodup_cons.1 hn
    have hx := hs x (by simp)
    have ih := nodup_len_le l (m.erase x) h1.2 fun y hy => by
      have hne : y ≠ x := fun e => h1.1 (by rw [← e]; exact hy)
      rw [List.mem_erase_of_ne hne]
      exact hs y (by simp [hy])
    rw [List.length_erase_of_mem hx] at ih
    have : 0 < m.length := List.length_pos_of_mem hx
    rw [List.length_cons]; omega
structure RV (N : Net) (rm : List Int) (least : Int) (k j : Nat) (lv : List Int) : Prop where
  len : lv.length = N.nodes.toNat + 1
  src : lvZ lv N.src.toNat = 0
  nil : lvZ lv 0 = -1
  rng : ∀ v, lvZ lv v = -1 ∨ 0 ≤ lvZ lv v ∧ lvZ lv v ≤ (k : Int) + 1
  zero : ∀ v, lvZ lv v = 0 → v = N.src.toNat
  done : ∀ r, r < 2 * N.arcs.length → least ≤ rm.getD r 0 → 0 ≤ lvZ lv (frN N r) → (lvZ lv (frN N r) < k ∨ lvZ lv (frN N r) = k ∧ r < j) → 0 ≤ lvZ lv (toN N r) ∧ lvZ lv (toN N r) ≤ lvZ lv (frN N r) + 1
  back : ∀ v, 0 < lvZ lv v → ∃ r, r < 2 * N.arcs.length ∧ least ≤ rm.getD r 0 ∧ toN N r = v ∧ lvZ lv (frN N r) = lvZ lv v - 1
section
variable {N : Net} {rm : List Int} {least : Int} {k j : Nat} {lv : List Int}
theorem RV.init (hR : N.Right) : RV N rm least 0 0 ((List.replicate (N.nodes.toNat + 1) (-1)).set N.src.toNat 0) := by
  have hsr := hR.src
  have hnn := hR.nodes
  have e : ∀ v, lvZ ((List.replicate (N.nodes.toNat + 1) (-1)).set N.src.toNat 0) v = if N.src.toNat = v then 0 else -1 := by
    intro v
    rw [lvZ_set (by simp; omega)]
    split
    · rfl
    · unfold lvZ
      rw [List.getD_eq_getElem?_getD, List.getElem?_replicate]
      split <;> rfl
  refine ⟨by simp, by rw [e, if_pos rfl], by rw [e, if_neg (by omega)], fun v => ?_, fun v hv => ?_, fun r _ _ h0 h1 => ?_, fun v hv => ?_⟩
  · rw [e]; split
    · exact .inr ⟨Int.le_refl _, by omega⟩
    · exact .inl rfl
  · rw [e] at hv; split at hv
    · omega
    · omega
  · omega
  · rw [e] at hv; split at hv <;> omega
theorem RV.keep (h : RV N rm least k j lv) (hno : ¬ (least ≤ rm.getD j 0 ∧ lvZ lv (frN N j) = k ∧ lvZ lv (toN N j) < 0)) : RV N rm least k (j + 1) lv := by
  refine ⟨h.len, h.src, h.nil, h.rng, h.zero, fun r hr hl h0 h1 => ?_, h.back⟩
  by_cases e : r = j
  · subst e
    by_cases hk : lvZ lv (frN N r) = k
    · have h2 : ¬ lvZ lv (toN N r) < 0 := fun h3 => hno ⟨hl, hk, h3⟩
      have := h.rng (toN N r)
      omega
    · exact h.done r hr hl h0 (by omega)
  · exact h.done r hr hl h0 (by omega)
theorem RV.put (hR : N.Right) (h : RV N rm least k j lv) (hj : j < 2 * N.arcs.length) (hl : least ≤ rm.getD j 0) (hk : lvZ lv (frN N j) = k) (hn : lvZ lv (toN N j) < 0) : RV N rm least k (j + 1) (lv.set (toN N j) ((k : Int) + 1)) := by
  obtain ⟨_, t1, t2⟩ := toN_eq hR hj
  obtain ⟨_, f1, f2⟩ := frN_eq hR hj
  have hlen := h.len
  have hsr := hR.src
  have hlt : toN N j < lv.length := by omega
  have e : ∀ v, lvZ (lv.set (toN N j) ((k : Int) + 1)) v = if toN N j = v then (k : Int) + 1 else lvZ lv v := fun v => lvZ_set hlt
  have hsrc := h.src
  have hne : toN N j ≠ N.src.toNat := fun h1 => by rw [h1] at hn; omega
  refine ⟨by rw [List.length_set]; exact hlen, by rw [e, if_neg hne]; exact hsrc, by rw [e, if_neg (by omega)]; exact h.nil, fun v => ?_, fun v hv => ?_, fun r hr hl' h0 h1 => ?_, fun v hv => ?_⟩
  · rw [e]; split
    · exact .inr ⟨by omega, by omega⟩
    · exact h.rng v
  · rw [e] at hv; split at hv
    · omega
    · exact h.zero v hv
  · have hf : toN N j ≠ frN N r := fun h2 => by rw [e, if_pos h2] at h1; omega
    rw [e, if_neg hf] at h0 h1
    rw [e (frN N r), if_neg hf, e (toN N r)]
    by_cases hrj : r = j
    · subst hrj
      rw [if_pos rfl]; omega
    · have h3 := h.done r hr hl' h0 (by omega)
      rw [if_neg (fun h4 => by rw [← h4] at h3; omega)]
      exact h3
  · rw [e] at hv
    split at hv
    · rename_i h2
      subst h2
      refine ⟨j, hj, hl, rfl, ?_⟩
      rw [e, e, if_pos rfl, if_neg (fun h3 => by rw [← h3] at hk; omega), hk]; omega
    · rename_i h2
      obtain ⟨r, hr, h3, h4, h5⟩ := h.back v hv
      refine ⟨r, hr, h3, h4, ?_⟩
      rw [e, e, if_neg h2, if_neg (fun h6 => by rw [← h6] at h5; omega)]
      exact h5
theorem RV.round (h : RV N rm least k (2 * N.arcs.length) lv) : RV N rm least (k + 1) 0 lv :=
  ⟨h.len, h.src, h.nil, fun v => by have := h.rng v; omega, h.zero, fun r hr hl h0 h1 => h.done r hr hl h0 (by omega), h.back⟩
theorem mem_lv {x : Int} {v : Nat} (h : lvZ lv v = x) (hx : x ≠ -1) : x ∈ lv := by
  have hlt : v < lv.length := Classical.byContradiction fun hc => hx (by rw [← h]; exact lvZ_out (by omega))
  have := lvZ_at hlt
  rw [h] at this
  exact List.mem_of_getElem? this
theorem RV.bound (h : RV N rm least k j lv) {v : Nat} (hv : 0 ≤ lvZ lv v) : lvZ lv v < N.nodes.toNat := by
  have key : ∀ (L v : Nat), lvZ lv v = L → ∀ i : Nat, i ≤ L → (i : Int) ∈ lv := by
    intro L
    induction L with
    | zero => intro v hv i hi; exact mem_lv (v := v) (by rw [hv]; congr 1; omega) (by omega)
    | succ L ih =>
      intro v hv i hi
      by_cases hL : i = L + 1
      · subst hL; exact mem_lv hv (by omega)
      · obtain ⟨r, _, _, _, h5⟩ := h.back v (by omega)
        exact ih (frN N r) (by omega) i (by omega)
  obtain ⟨L, hL⟩ : ∃ L : Nat, lvZ lv v = L := ⟨(lvZ lv v).toNat, by omega⟩
  have hlen := h.len
  have h0 : (-1 : Int) ∈ lv := by
    have := lvZ_at (lv := lv) (v := 0) (by omega)
    rw [h.nil] at this
    exact List.mem_of_getElem? this
  have := nodup_len_le (-1 :: (List.range (L + 1)).map fun (i : Nat) => (i : Int)) lv (by
    rw [List.nodup_cons]
    refine ⟨fun hc => ?_, List.pairwise_map.2 (List.nodup_range.imp fun hne he => hne (by omega))⟩
    obtain ⟨i, _, hi⟩ := List.mem_map.1 hc
    omega) (fun x hx => by
    rcases List.mem_cons.1 hx with rfl | hx
    · exact h0
    · obtain ⟨i, hi, rfl⟩ := List.mem_map.1 hx
      exact key L v hL i (by have := List.mem_range.1 hi; omega))
  simp only [List.length_cons, List.length_map, List.length_range] at this
  omega
theorem RV.lev (hR : N.Right) (h : RV N rm least N.nodes.toNat j lv) : IsLev N rm least lv := by
  have hnn := hR.nodes
  have hb : ∀ v, -1 ≤ lvZ lv v ∧ lvZ lv v < N.nodes := fun v => by
    rcases h.rng v with h1 | h1
    · omega
    · have := h.bound h1.1; omega
  exact ⟨h.len, h.src, h.nil, hb, h.zero, fun r hr hl h0 => h.done r hr hl h0 (.inl (by have := h.bound h0; omega)), h.back⟩
end
end Go.Proofs.YtfogkbmbmaganaaGreat
