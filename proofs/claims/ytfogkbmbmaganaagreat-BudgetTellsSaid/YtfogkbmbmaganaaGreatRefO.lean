
/- The references' words: what is wrong with amounts, and what is left in a node. -/
import Derived.Test.YtfogkbmbmaganaaGreatRefN
import Derived.Test.YtfogkbmbmaganaaGreatQX11
set_option linter.unusedVariables false
set_option linter.unusedSimpArgs false
namespace Go.Proofs.YtfogkbmbmaganaaGreat
open Go.RowKit
theorem exZ_take {N : Net} {f : List Int} {k : Nat} {a : Arc} {x : Int} (ha : N.arcs[k]? = some a) (hx : f[k]? = some x) (v : Int) : exZ ((N.arcs.zip f).take (k + 1)) v = exZ ((N.arcs.zip f).take k) v + ((if a.to = v then x else 0) - (if a.fr = v then x else 0)) := by
  rw [List.take_add_one, zip_some ha hx]
  simp [exZ]
theorem exZ_part {N : Net} (hR : N.Right) {f : List Int} (hf : Ranged N f) (k : Nat) (v : Int) : -4611686018427387903 ≤ exZ ((N.arcs.zip f).take k) v ∧ exZ ((N.arcs.zip f).take k) v ≤ 4611686018427387903 ∧ ∀ a x, N.arcs[k]? = some a → f[k]? = some x → exZ ((N.arcs.zip f).take k) v + x ≤ 4611686018427387903 ∧ x ≤ 4611686018427387903 := by
  have hall : ∀ p ∈ (N.arcs.zip f).take k, 0 ≤ p.2 ∧ p.2 ≤ p.1.cap := fun p hp => hf.all p (List.mem_of_mem_take hp)
  have h1 := ex_bound _ v hall
  have hsum := hR.sum
  have e : N.arcs = (N.arcs.zip f).map (·.1) := (List.map_fst_zip (by have := hf.len; omega)).symm
  have hnn : ∀ p ∈ N.arcs.zip f, 0 ≤ p.1.cap := fun p hp => by have := hf.all p hp; omega
  have hcut : ∀ (ps : List (Arc × Int)) (k : Nat), (∀ p ∈ ps, 0 ≤ p.1.cap) → ((ps.take k).map (·.1.cap)).sum ≤ (ps.map (·.1.cap)).sum := by
    intro ps
    induction ps with
    | nil => intro k _; simp
    | cons q ps ih =>
      intro k h
      have h0 := h q (by simp)
      cases k with
      | zero =>
        have := sum_nonneg ((q :: ps).map (·.1.cap)) (fun y hy => by obtain ⟨p, hp, rfl⟩ := List.mem_map.1 hy; exact h p hp)
        simpa using this
      | succ k =>
        have := ih k fun p hp => h p (by simp [hp])
        simp only [List.take_succ_cons, List.map_cons, List.sum_cons]
        omega
  have e2 : ((N.arcs.zip f).map (·.1.cap)).sum = (N.arcs.map (·.cap)).sum := by
    conv => rhs; rw [e]
    rw [List.map_map]; rfl
  have h2 := hcut (N.arcs.zip f) k hnn
  refine ⟨by omega, by omega, fun a x ha hx => ?_⟩
  have h3 := hcut (N.arcs.zip f) (k + 1) hnn
  have hz := zip_some ha hx
  have hax := hf.all _ (List.mem_of_getElem? hz)
  rw [List.take_add_one, hz] at h3
  simp only [Option.toList_some, List.map_append, List.map_cons, List.map_nil, List.sum_append, List.sum_cons, List.sum_nil] at h3
  simp only at hax
  have h4 := sum_nonneg (((N.arcs.zip f).take k).map (·.1.cap)) (fun y hy => by obtain ⟨p, hp, rfl⟩ := List.mem_map.1 hy; exact hnn p (List.mem_of_mem_take hp))
  omega
set_option maxHeartbeats 1000000 in
theorem rexcess_fn (N : Net) (hR : N.Right) (A : Option Addr) (c b o : Nat) (hA : N.arcs ≠ [] → A = some ⟨b, o, none⟩) (f : List Int) (hf : Ranged N f) (F : Option Addr) (cf bf of : Nat) (hF : f ≠ [] → F = some ⟨bf, of, none⟩) (v : Int) :
    Fn 49 [netV N A c, .slice F f.length cf, .int .i64 v] [] [.seg b o (arcs N.arcs), .seg bf of (ints f)] fun u H' => u = .int .i64 (exZ (N.arcs.zip f) v) ∧ H' = [] := by
  have hl2 := hR.len
  have hfl := hf.len
  refine Fn_of Tryz.func49 rfl rfl fun w0 => ?_
  (repeat' (first | refine J_seq ?_ | refine J_skip ?_ | refine J_yes rfl ?_ | refine J_no rfl ?_))
  refine J_region ?_
  refine JL_box (cs := netC N A c) rfl rfl rfl (fun _ => rfl) fun p => ?_
  refine JL_all [] rfl ?_
  (repeat' (first | refine J_seq ?_ | refine J_skip ?_ | refine J_yes rfl ?_ | refine J_no rfl ?_))
  refine J_region ?_
  refine JL_all [] rfl ?_
  (repeat' (first | refine J_seq ?_ | refine J_skip ?_ | refine J_yes rfl ?_ | refine J_no rfl ?_))
  refine J_region ?_
  refine JL_all [] rfl ?_
  (repeat' (first | refine J_seq ?_ | refine J_skip ?_ | refine J_yes rfl ?_ | refine J_no rfl ?_))
  refine J_block ?_
  refine J_loopF (σ := Nat) (fun k => [(8, .int .i64 (k : Int)), (7, .int .i64 (exZ ((N.arcs.zip f).take k) v)), (3, .pointer (some ⟨p, 0, none⟩)), (1, .slice F f.length cf), (2, .int .i64 v)])
    (fun _ => [blk p 24 (netC N A c), .seg b o (arcs N.arcs), .seg bf of (ints f)]) (fun k => k ≤ N.arcs.length) (fun k => N.arcs.length - k) 0 ⟨rfl, rfl, rfl, rfl, rfl, trivial⟩ Fit.refl (Nat.zero_le _) ?_
  intro k hk
  (repeat' (first | refine J_seq ?_ | refine J_skip ?_ | refine J_yes rfl ?_ | refine J_no rfl ?_))
  refine J_region ?_
  refine JL_run [] rfl ?_
  refine JL_val [] (v := .slice A N.arcs.length c) (OpV_blk 0 rfl rfl rfl rfl) rfl ?_
  refine JL_all [] rfl ?_
  (repeat' (first | refine J_seq ?_ | refine J_skip ?_ | refine J_yes rfl ?_ | refine J_no rfl ?_))
  refine J_dec rfl (fun hlt => J_skip ?_) (fun hge => J_exit ?_)
  · have hkl : k < N.arcs.length := by omega
    obtain ⟨a, ha⟩ : ∃ a, N.arcs[k]? = some a := ⟨N.arcs[k], List.getElem?_eq_getElem hkl⟩
    obtain ⟨x, hx⟩ : ∃ x, f[k]? = some x := ⟨f[k]'(by omega), List.getElem?_eq_getElem (by omega)⟩
    obtain rfl := hA (by intro h; rw [h] at hkl; simp at hkl)
    obtain rfl := hF (by rintro rfl; simp at hx)
    obtain ⟨hfr, hto, _⟩ := arcs_get ha
    obtain ⟨b1, b2, b3⟩ := exZ_part hR hf k v
    obtain ⟨b3, b4⟩ := b3 a x ha hx
    have hxr := hf.all _ (List.mem_of_getElem? (zip_some ha hx))
    simp only at hxr
    have hnext := exZ_take ha hx v
    refine J_seq (J_block ?_)
    refine J_cut [(7, .int .i64 (exZ ((N.arcs.zip f).take k) v + if a.to = v then x else 0)), (8, .int .i64 (k : Int)), (3, .pointer (some ⟨p, 0, none⟩)), (1, .slice (some ⟨bf, of, none⟩) f.length cf), (2, .int .i64 v)]
      [blk p 24 (netC N (some ⟨b, o, none⟩) c), .seg b o (arcs N.arcs), .seg bf of (ints f)] ?_ ?_
    · (repeat' (first | refine J_seq ?_ | refine J_skip ?_ | refine J_yes rfl ?_ | refine J_no rfl ?_))
      refine J_region ?_
      refine JL_run [] rfl ?_
      refine JL_val [] (v := .slice (some ⟨b, o, none⟩) N.arcs.length c) (OpV_blk 0 rfl rfl rfl rfl) rfl ?_
      refine JL_run [] rfl ?_
      refine JL_val [] (idxN rfl rfl rfl rfl rfl hkl) rfl ?_
      refine JL_run [] rfl ?_
      refine JL_val [] (ldseg 1 rfl rfl rfl rfl hto) rfl ?_
      refine JL_all [] rfl ?_
      refine J_dec rfl (fun h1 => ?_) (fun h1 => ?_)
      · (repeat' (first | refine J_seq ?_ | refine J_skip ?_ | refine J_yes rfl ?_ | refine J_no rfl ?_))
        refine J_region ?_
        refine JL_run [] rfl ?_
        refine JL_val [] (idx1 rfl rfl rfl rfl rfl (by omega)) rfl ?_
        refine JL_val [] (ldseg 2 rfl rfl rfl rfl (readT_int hx)) rfl ?_
        refine JL_all [] rfl ?_
        refine ⟨[0, 1, 2], ⟨?_, rfl, rfl, rfl, rfl, trivial⟩, by decide, rfl⟩
        rw [if_pos h1]
        exact congrArg some (congrArg (Value.int .i64) (w64 (by omega)))
      · refine J_skip ⟨[0, 1, 2], ⟨?_, rfl, rfl, rfl, rfl, trivial⟩, by decide, rfl⟩
        rw [if_neg h1, Int.add_zero]; rfl
    · refine J_seq ?_
      (repeat' (first | refine J_seq ?_ | refine J_skip ?_ | refine J_yes rfl ?_ | refine J_no rfl ?_))
      refine J_region ?_
      refine JL_run [] rfl ?_
      refine JL_val [] (v := .slice (some ⟨b, o, none⟩) N.arcs.length c) (OpV_blk 0 rfl rfl rfl rfl) rfl ?_
      refine JL_run [] rfl ?_
      refine JL_val [] (idxN rfl rfl rfl rfl rfl hkl) rfl ?_
      refine JL_run [] rfl ?_
      refine JL_val [] (ldseg 1 rfl rfl rfl rfl hfr) rfl ?_
      refine JL_all [] rfl ?_
      refine J_dec rfl (fun h1 => ?_) (fun h1 => ?_)
      · (repeat' (first | refine J_seq ?_ | refine J_skip ?_ | refine J_yes rfl ?_ | refine J_no rfl ?_))
        refine J_region ?_
        refine JL_run [] rfl ?_
        refine JL_val [] (idx1 rfl rfl rfl rfl rfl (by omega)) rfl ?_
        refine JL_val [] (ldseg 2 rfl rfl rfl rfl (readT_int hx)) rfl ?_
        refine JL_all [] rfl ?_
        (repeat' (first | refine J_seq ?_ | refine J_skip ?_ | refine J_yes rfl ?_ | refine J_no rfl ?_))
        refine J_region ?_
        refine JL_all [] rfl ?_
        refine ⟨k + 1, ⟨?_, ?_, rfl, rfl, rfl, trivial⟩, Fit.refl, hkl, by show N.arcs.length - (k + 1) < N.arcs.length - k; omega⟩
        · show some (Value.int .i64 (IntKind.i64.wrap ((k : Int) + 1))) = _
          rw [w64 (by omega)]; rfl
        · show some (Value.int .i64 (IntKind.i64.wrap (_ - x))) = _
          rw [hnext, if_pos h1]
          exact congrArg some (congrArg (Value.int .i64) ((w64 (by split <;> omega)).trans (by omega)))
      · refine J_skip ?_
        (repeat' (first | refine J_seq ?_ | refine J_skip ?_ | refine J_yes rfl ?_ | refine J_no rfl ?_))
        refine J_region ?_
        refine JL_all [] rfl ?_
        refine ⟨k + 1, ⟨?_, ?_, rfl, rfl, rfl, trivial⟩, Fit.refl, hkl, by show N.arcs.length - (k + 1) < N.arcs.length - k; omega⟩
        · show some (Value.int .i64 (IntKind.i64.wrap ((k : Int) + 1))) = _
          rw [w64 (by omega)]; rfl
        · rw [hnext, if_neg h1, Int.sub_zero]; rfl
  · obtain rfl : k = N.arcs.length := by omega
    rw [List.take_of_length_le (by rw [List.length_zip]; omega)]
    (repeat' (first | refine J_seq ?_ | refine J_skip ?_ | refine J_yes rfl ?_ | refine J_no rfl ?_))
    refine J_region ?_
    refine JL_all [] rfl ?_
    exact J_drop [] (by decide) rfl (J_ret ⟨_, rfl, rfl, rfl⟩)
noncomputable def rangeZ (N : Net) (f : List Int) : Int := if checkZ N ≠ 0 then checkZ N else withinZ N f
set_option maxHeartbeats 1000000 in
theorem rwithin_fn (N : Net) (hN : N.Fits) (A : Option Addr) (c b o : Nat) (hA : N.arcs ≠ [] → A = some ⟨b, o, none⟩) (f : List Int) (F : Option Addr) (cf bf of : Nat) (hF : f ≠ [] → F = some ⟨bf, of, none⟩) (hf : ∀ x ∈ f, inB x) (hfl : f.length * 8 ≤ 140737488351232) :
    Fn 71 [netV N A c, .slice F f.length cf] [] [.seg b o (arcs N.arcs), .seg bf of (ints f)] fun v H' => v = .int .i64 (rangeZ N f) ∧ H' = [] := by
  have hln := hN.len
  refine Fn_of Tryz.func71 rfl rfl fun w0 => ?_
  (repeat' (first | refine J_seq ?_ | refine J_skip ?_ | refine J_yes rfl ?_ | refine J_no rfl ?_))
  refine J_region ?_
  refine JL_box (cs := netC N A c) rfl rfl rfl (fun _ => rfl) fun p => ?_
  refine JL_all [] rfl ?_
  (repeat' (first | refine J_seq ?_ | refine J_skip ?_ | refine J_yes rfl ?_ | refine J_no rfl ?_))
  refine J_region ?_
  refine JL_val [] (v := netV N A c) (OpV_blk 0 rfl rfl rfl rfl) rfl ?_
  refine JL_callR [] (rcheck_fn N hN A c b o hA) rfl rfl rfl rfl (by kernel_rfl) ⟨⟨1, _, by simp, rfl, shows_seg _ _ _, seen_seg⟩, trivial⟩ (fun _ => rfl) ?_
  rintro v H' ⟨rfl, rfl⟩
  refine ⟨rfl, ?_⟩
  refine JL_all [] rfl ?_
  (repeat' (first | refine J_seq ?_ | refine J_skip ?_ | refine J_yes rfl ?_ | refine J_no rfl ?_))
  refine J_region ?_
  refine JL_all [] rfl ?_
  refine J_dec rfl (fun h => ?_) (fun hz => J_skip ?_)
  · (repeat' (first | refine J_seq ?_ | refine J_skip ?_ | refine J_yes rfl ?_ | refine J_no rfl ?_))
    refine J_region ?_
    refine JL_all [] rfl ?_
    refine J_drop [] (by decide) rfl (J_ret ⟨_, rfl, ?_, rfl⟩)
    unfold rangeZ; rw [if_pos h]; rfl
  have hr : rangeZ N f = withinZ N f := by unfold rangeZ; rw [if_neg hz]
  rw [hr]
  (repeat' (first | refine J_seq ?_ | refine J_skip ?_ | refine J_yes rfl ?_ | refine J_no rfl ?_))
  refine J_region ?_
  refine JL_run [] rfl ?_
  refine JL_val [] (v := .slice A N.arcs.length c) (OpV_blk 0 rfl rfl rfl rfl) rfl ?_
  refine JL_all [] rfl ?_
  refine J_dec rfl (fun h => ?_) (fun h => J_skip ?_)
  · (repeat' (first | refine J_seq ?_ | refine J_skip ?_ | refine J_yes rfl ?_ | refine J_no rfl ?_))
    refine J_region ?_
    refine JL_all [] rfl ?_
    refine J_drop [] (by decide) rfl (J_ret ⟨_, rfl, ?_, rfl⟩)
    unfold withinZ; rw [if_pos (by omega)]; rfl
  have hlen : f.length = N.arcs.length := by omega
  (repeat' (first | refine J_seq ?_ | refine J_skip ?_ | refine J_yes rfl ?_ | refine J_no rfl ?_))
  refine J_region ?_
  refine JL_all [] rfl ?_
  (repeat' (first | refine J_seq ?_ | refine J_skip ?_ | refine J_yes rfl ?_ | refine J_no rfl ?_))
  refine J_block ?_
  refine J_loopF (σ := Nat) (fun k => [(6, .int .i64 (k : Int)), (1, .slice F f.length cf), (2, .pointer (some ⟨p, 0, none⟩))])
    (fun k => [blk p 24 (netC N A c), .seg b o (arcs N.arcs), .seg bf of (ints f)]) (fun k => k ≤ f.length ∧ ∀ q ∈ (N.arcs.zip f).take k, 0 ≤ q.2 ∧ q.2 ≤ q.1.cap) (fun k => f.length - k)
    0 ⟨rfl, rfl, rfl, trivial⟩ Fit.refl ⟨Nat.zero_le _, fun q hq => by simp at hq⟩ ?_
  rintro k ⟨hk, hall⟩
  (repeat' (first | refine J_seq ?_ | refine J_skip ?_ | refine J_yes rfl ?_ | refine J_no rfl ?_))
  refine J_region ?_
  refine JL_all [] rfl ?_
  (repeat' (first | refine J_seq ?_ | refine J_skip ?_ | refine J_yes rfl ?_ | refine J_no rfl ?_))
  refine J_dec rfl (fun hlt => J_skip ?_) (fun hge => J_exit ?_)
  · have hlt : k < f.length := by omega
    obtain rfl := hF (by rintro rfl; simp at hlt)
    obtain rfl := hA (by intro h; have h0 : N.arcs.length = 0 := by rw [h]; rfl
                         omega)
    obtain ⟨x, hx⟩ : ∃ x, f[k]? = some x := ⟨f[k], List.getElem?_eq_getElem hlt⟩
    obtain ⟨a, ha⟩ : ∃ a, N.arcs[k]? = some a := ⟨N.arcs[k], List.getElem?_eq_getElem (by omega)⟩
    obtain ⟨_, _, hcap⟩ := arcs_get ha
    have hz : (N.arcs.zip f)[k]? = some (a, x) := by simp [List.getElem?_zip_eq_some, ha, hx]
    have hbad : ¬ (0 ≤ x ∧ x ≤ a.cap) → withinZ N f = 3 := by
      intro hb
      unfold withinZ
      rw [if_neg (by omega), if_neg (fun hall => hb (hall _ (List.mem_of_getElem? hz)))]
    refine J_seq (J_block ?_)
    refine J_cut [(41, .bool (cdec (¬ (0 ≤ x ∧ x ≤ a.cap)))), (6, .int .i64 (k : Int)), (1, .slice (some ⟨bf, of, none⟩) f.length cf), (2, .pointer (some ⟨p, 0, none⟩))] [blk p 24 (netC N (some ⟨b, o, none⟩) c), .seg b o (arcs N.arcs), .seg bf of (ints f)] ?_ ?_
    · refine J_walk 18 [(0, true), (1, true), (2, true), (3, true), (4, true), (5, true), (6, true), (7, true), (8, true), (9, true), (10, true), (11, true), (12, true), (13, true), (14, true), (15, true), (16, true), (17, true)] [0, 1, 2] (by kernel_rfl) (by decide) rfl ?_
      refine JW_run [] rfl ?_
      refine JW_still [] rfl (idx1 rfl rfl rfl rfl rfl hlt) rfl ?_
      refine JW_still [] rfl (ldseg 2 rfl rfl rfl rfl (readT_int hx)) rfl ?_
      refine JW_evO (gs := []) rfl rfl ?_
      refine JW_evO (gs := []) rfl rfl ?_
      by_cases h0 : x < 0
      · refine JW_set 29 (v' := .bool true) rfl (congrArg Value.bool (cdec_yes h0)) ?_
        refine JW_all [5] rfl ?_
        refine JL_nil ?_
        exact ⟨[0, 1, 2], ⟨congrArg some (congrArg Value.bool (cdec_yes (by omega)).symm), rfl, rfl, rfl, trivial⟩, by decide, rfl⟩
      refine JW_set 29 (v' := .bool false) rfl (congrArg Value.bool (cdec_no h0)) ?_
      refine JW_run [5] rfl ?_
      refine JW_still [5] rfl (idx1 rfl rfl rfl rfl rfl hlt) rfl ?_
      refine JW_still [5] rfl (ldseg 2 rfl rfl rfl rfl (readT_int hx)) rfl ?_
      refine JW_run [5] rfl ?_
      refine JW_still [5] rfl (OpV_blk (v := .slice (some ⟨b, o, none⟩) N.arcs.length c) 0 rfl rfl rfl rfl) rfl ?_
      refine JW_run [5] rfl ?_
      refine JW_still [5] rfl (idxN rfl rfl rfl rfl rfl (show k < N.arcs.length by omega)) rfl ?_
      refine JW_run [5] rfl ?_
      refine JW_still [5] rfl (ldseg 1 rfl rfl rfl rfl hcap) rfl ?_
      refine JW_all [5] rfl ?_
      refine JL_nil ?_
      exact ⟨[0, 1, 2], ⟨congrArg some (congrArg Value.bool (cdec_iff (by omega))), rfl, rfl, rfl, trivial⟩, by decide, rfl⟩
    · refine J_dec rfl (fun h1 => ?_) (fun h1 => J_skip ?_)
      · (repeat' (first | refine J_seq ?_ | refine J_skip ?_ | refine J_yes rfl ?_ | refine J_no rfl ?_))
        refine J_region ?_
        refine JL_all [] rfl ?_
        refine J_drop [] (by decide) rfl (J_ret ⟨_, rfl, by rw [hbad h1]; rfl, rfl⟩)
      (repeat' (first | refine J_seq ?_ | refine J_skip ?_ | refine J_yes rfl ?_ | refine J_no rfl ?_))
      refine J_region ?_
      refine JL_all [] rfl ?_
      refine ⟨k + 1, ⟨?_, rfl, rfl, trivial⟩, Fit.refl, ⟨by omega, fun q hq => ?_⟩, by omega⟩
      · show some (Value.int .i64 (IntKind.i64.wrap ((k : Int) + 1))) = _
        rw [w64 (by omega)]; rfl
      · rw [List.take_add_one, hz] at hq
        rcases List.mem_append.1 hq with hq | hq
        · exact hall q hq
        · simp only [Option.toList_some, List.mem_singleton] at hq
          subst hq
          exact Classical.not_not.1 h1
  · have hk' : k = f.length := by omega
    subst hk'
    (repeat' (first | refine J_seq ?_ | refine J_skip ?_ | refine J_yes rfl ?_ | refine J_no rfl ?_))
    refine J_region ?_
    refine JL_all [] rfl ?_
    refine J_drop [] (by decide) rfl (J_ret ⟨_, rfl, ?_, rfl⟩)
    unfold withinZ
    rw [if_neg (by omega), if_pos (fun q hq => hall q (by rw [List.take_of_length_le (by simp; omega)]; exact hq))]
    rfl
end Go.Proofs.YtfogkbmbmaganaaGreat
