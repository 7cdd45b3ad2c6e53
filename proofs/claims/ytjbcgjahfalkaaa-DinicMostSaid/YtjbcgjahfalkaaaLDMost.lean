
/- DinicMost: what Max tells is a flow, of the value of a cut; no other flow is worth more. -/
import Derived.Test.YtjbcgjahfalkaaaSh12N
import Derived.Test.YtjbcgjahfalkaaaMade12
import Derived.Test.YtjbcgjahfalkaaaRoutedN12
import Derived.Test.YtjbcgjahfalkaaaQC
import Derived.Test.YtjbcgjahfalkaaaMaxG
import Derived.Test.YtjbcgjahfalkaaaMoreP
set_option linter.unusedVariables false
set_option linter.unusedSimpArgs false
namespace Go.Proofs.Ytjbcgjahfalkaaa
open Go.RowKit
def metZ (l : List Bool) (a : Arc) : Int := if l[a.fr.toNat]? = some true ∧ l[a.to.toNat]? ≠ some true then a.cap else 0
theorem met_capZ {N : Net} (hR : N.Right) {n : Nat} (hn : N.nodes = n) {l : List Bool} (hl : l.length = n + 1) : ∀ (al : List Arc), (∀ a ∈ al, a ∈ N.arcs) → capZ (whereK l true (n + 1)) al = (al.map (metZ l)).sum := by
  intro al h
  unfold capZ
  congr 1
  refine List.map_congr_left fun a ha => ?_
  have har := hR.arc a (h a ha)
  have key : ∀ x : Int, 1 ≤ x → x ≤ n → (x ∈ whereK l true (n + 1) ↔ l[x.toNat]? = some true) := by
    intro x h1 h2
    rw [mem_whereK]
    constructor
    · rintro ⟨v, hv, _, h3, rfl⟩; rwa [Int.toNat_natCast]
    · intro h3; exact ⟨x.toNat, by omega, by omega, h3, by omega⟩
  unfold metZ
  simp only [key a.fr har.1.1 (by omega), key a.to har.2.1.1 (by omega)]
theorem met_in {N : Net} (hR : N.Right) (l : List Bool) (k : Nat) : 0 ≤ ((N.arcs.take k).map (metZ l)).sum ∧ ((N.arcs.take k).map (metZ l)).sum ≤ 4611686018427387903 := by
  have key : ∀ al : List Arc, (∀ a ∈ al, 0 ≤ a.cap) → 0 ≤ (al.map (metZ l)).sum ∧ (al.map (metZ l)).sum ≤ (al.map (·.cap)).sum := by
    intro al
    induction al with
    | nil => intro _; exact ⟨Int.le_refl _, Int.le_refl _⟩
    | cons a al ih =>
      intro h
      have h1 := ih fun b hb => h b (by simp [hb])
      have h2 := h a (by simp)
      have h3 : 0 ≤ metZ l a ∧ metZ l a ≤ a.cap := by unfold metZ; split <;> omega
      simp only [List.map_cons, List.sum_cons]
      omega
  have h1 := key (N.arcs.take k) fun a ha => (hR.arc a (List.mem_of_mem_take ha)).2.2
  have h2 := key N.arcs fun a ha => (hR.arc a ha).2.2
  have h3 : ((N.arcs.take k).map (·.cap)).sum + ((N.arcs.drop k).map (·.cap)).sum = (N.arcs.map (·.cap)).sum := by rw [← List.sum_append, ← List.map_append, List.take_append_drop]
  have h4 : 0 ≤ ((N.arcs.drop k).map (·.cap)).sum := sum_nonneg _ fun x hx => by
    obtain ⟨a, ha, rfl⟩ := List.mem_map.1 hx
    exact (hR.arc a (List.mem_of_mem_drop ha)).2.2
  have := hR.sum
  omega
set_option maxHeartbeats 4000000 in
theorem dinicMost_fn (nodes : Int) (hn : inB nodes) (ends : Int) (he : inB ends) (A : Option Addr) (c b o : Nat) (l : List Arc) (hA : l ≠ [] → A = some ⟨b, o, none⟩) (hl : ∀ x ∈ l, inB x.fr ∧ inB x.to ∧ inB x.cap) (hs : l.length * 24 ≤ 140737488351232)
    (K : Option Addr) (ck bk ok : Nat) (ks : List Int) (hK : ks ≠ [] → K = some ⟨bk, ok, none⟩) (hks : ∀ x ∈ ks, inB x) (hkz : ks.length * 8 ≤ 140737488351232) (tree : Bool) :
    Fn 3 [.int .i64 nodes, .int .i64 ends, .slice A l.length c, .slice K ks.length ck, .bool tree] [] [.seg b o (arcs l), .seg bk ok (ints ks)] fun v _ => v = .bool true := by
  refine Fn_of Try.func3 rfl rfl fun w0 => ?_
  (repeat' (first | refine J_seq ?_ | refine J_skip ?_ | refine J_yes rfl ?_ | refine J_no rfl ?_))
  refine J_region ?_
  refine JL_all [] rfl ?_
  (repeat' (first | refine J_seq ?_ | refine J_skip ?_ | refine J_yes rfl ?_ | refine J_no rfl ?_))
  refine J_region ?_
  refine JL_callR [] (shown12_fn) rfl rfl rfl rfl (by kernel_rfl) trivial (fun _ => rfl) ?_
  rintro v H' ⟨rfl, rfl⟩
  refine ⟨rfl, ?_⟩
  refine JL_all [] rfl ?_
  (repeat' (first | refine J_seq ?_ | refine J_skip ?_ | refine J_yes rfl ?_ | refine J_no rfl ?_))
  refine J_region ?_
  refine JL_all [] rfl ?_
  (repeat' (first | refine J_seq ?_ | refine J_skip ?_ | refine J_yes rfl ?_ | refine J_no rfl ?_))
  refine J_region ?_
  refine JL_run [] rfl ?_
  refine JL_callR [] (made12_fn nodes ends hn he A c b o l hA hl (by omega)) rfl rfl rfl rfl (by kernel_rfl) ⟨⟨0, _, by simp, rfl, shows_seg _ _ _, seen_seg⟩, trivial⟩ (fun _ => rfl) ?_
  rintro v H' ⟨N, A1, cn, hR, hn9, h24, hcm, rfl, rfl⟩
  refine ⟨rfl, ?_⟩
  refine JL_alloc rfl rfl rfl (fun _ => rfl) fun b12 => ?_
  refine JL_store 0 rfl rfl rfl rfl rfl [] rfl ?_
  refine JL_know (own_is 1 rfl) fun ⟨_, _, hA1, hla⟩ => ?_
  obtain ⟨g1, hA1⟩ := own_at hA1 hla
  have hA1' : N.arcs ≠ [] → A1 = some ⟨g1, 0, none⟩ := fun h => hA1 (fun h0 => h (List.length_eq_zero_iff.1 (by have := arcs_length N.arcs; rw [h0] at this; simp at this; omega)))
  refine JL_nil ?_
  have hF := hR.fits2
  have hz := zeroFlow N hR
  have hnn := hR.nodes
  have hsr := hR.src
  have hsk := hR.snk
  obtain ⟨n, hnd⟩ : ∃ n : Nat, N.nodes = n := ⟨N.nodes.toNat, by omega⟩
  obtain ⟨sg, hsg, hse⟩ : ∃ sg : Int, (sg = 112 ∨ sg = 116) ∧ sg = (if tree then 116 else 112) := ⟨_, by cases tree <;> simp, rfl⟩
  (repeat' (first | refine J_seq ?_ | refine J_skip ?_ | refine J_yes rfl ?_ | refine J_no rfl ?_))
  refine J_region ?_
  refine JL_all [] rfl ?_
  refine J_cut [(13, .int .u8 sg), (12, .pointer (some ⟨b12, 0, none⟩)), (3, .slice K ks.length ck)] [blk b12 27 (netC N A1 cn), .own (.slice A1 N.arcs.length cn) 42 3 N.arcs.length (arcs N.arcs), .seg bk ok (ints ks)] ?_ ?_
  · cases tree
    · (repeat' (first | refine J_seq ?_ | refine J_skip ?_ | refine J_yes rfl ?_ | refine J_no rfl ?_))
      refine J_region ?_
      refine JL_all [] rfl ?_
      (repeat' (first | refine J_seq ?_ | refine J_skip ?_ | refine J_yes rfl ?_ | refine J_no rfl ?_))
      exact ⟨[0, 1, 3], ⟨by rw [hse]; rfl, rfl, rfl, trivial⟩, by decide, rfl⟩
    · (repeat' (first | refine J_seq ?_ | refine J_skip ?_ | refine J_yes rfl ?_ | refine J_no rfl ?_))
      refine J_region ?_
      refine JL_all [] rfl ?_
      (repeat' (first | refine J_seq ?_ | refine J_skip ?_ | refine J_yes rfl ?_ | refine J_no rfl ?_))
      refine J_region ?_
      refine JL_all [] rfl ?_
      exact ⟨[0, 1, 3], ⟨by rw [hse]; rfl, rfl, rfl, trivial⟩, by decide, rfl⟩
  (repeat' (first | refine J_seq ?_ | refine J_skip ?_ | refine J_yes rfl ?_ | refine J_no rfl ?_))
  refine J_region ?_
  refine JL_val [] (v := netV N A1 cn) (OpV_blk 0 rfl rfl rfl rfl) rfl ?_
  refine JL_run [] rfl ?_
  refine JL_callR [] (maxG_fn N hF hR A1 cn g1 0 hA1' sg hsg) rfl rfl rfl rfl (by kernel_rfl) ⟨⟨1, _, by simp, rfl, shows_ownS hA1, seen_ownS hA1⟩, trivial⟩ (fun _ => rfl) ?_
  rintro v H' ⟨fa, pa, ka, sa, Aa, ca, hda, hka, hpa, _, _, _, rfl, rfl⟩
  obtain ⟨hfa, _, hpk, lva, hlva, hlta⟩ := hda.keeps hR (by decide) hz
  refine ⟨rfl, ?_⟩
  refine JL_run [] rfl ?_
  refine JL_alloc rfl rfl rfl (fun _ => rfl) fun b14 => ?_
  refine JL_store 0 rfl rfl rfl rfl rfl [] rfl ?_
  refine JL_all [] rfl ?_
  refine J_know (own_is 1 rfl) fun ⟨_, _, hAa, hlaa⟩ => ?_
  obtain ⟨ga, hAa⟩ := own_at hAa hlaa
  have hAa' : fa ≠ [] → Aa = some ⟨ga, 0, none⟩ := fun h => hAa (by simpa [ints] using h)
  have hfal := hfa.len
  (repeat' (first | refine J_seq ?_ | refine J_skip ?_ | refine J_yes rfl ?_ | refine J_no rfl ?_))
  refine J_region ?_
  refine JL_val [] (v := netV N A1 cn) (OpV_blk 2 rfl rfl rfl rfl) rfl ?_
  refine JL_run [] rfl ?_
  refine JL_val [] (v := .slice Aa fa.length ca) (OpV_blk 0 rfl rfl rfl rfl) rfl ?_
  refine JL_callR [] (fvalue_fn N hF hR A1 cn g1 0 hA1' fa Aa ca ga 0 hAa' (IsFlow.inB hR hfa.toRanged) (by omega)) rfl rfl rfl rfl (by kernel_rfl) ⟨⟨3, _, by simp, rfl, shows_ownS hA1, seen_ownS hA1⟩, ⟨1, _, by simp, rfl, shows_ownS hAa, seen_ownS hAa⟩, trivial⟩ (fun _ => rfl) ?_
  rintro v H' ⟨⟨rfl, _⟩ | ⟨_, h⟩, rfl⟩
  case inr => exact absurd hfa h
  refine ⟨rfl, ?_⟩
  refine JL_all [] rfl ?_
  obtain ⟨v, hv⟩ : ∃ v, v = exZ (N.arcs.zip fa) N.snk := ⟨_, rfl⟩
  have hvb := value_bound hR hfa.toRanged N.snk
  rw [← hv] at hvb
  refine J_set 16 (v' := .int .i64 v) rfl (congrArg (Value.int .i64) hv.symm) ?_
  (repeat' (first | refine J_seq ?_ | refine J_skip ?_ | refine J_yes rfl ?_ | refine J_no rfl ?_))
  refine J_walk 10 [(0, true), (1, true), (2, true), (3, false), (4, false), (5, true), (6, true), (7, true), (8, true), (9, true)] [0, 1, 2, 3, 4] (by kernel_rfl) (by decide) rfl ?_
  refine JW_still [] rfl (OpV_blk (v := netV N A1 cn) 2 rfl rfl rfl rfl) rfl ?_
  refine JW_still [] rfl (OpV_blk (v := netV N A1 cn) 2 rfl rfl rfl rfl) rfl ?_
  refine JW_run [] rfl ?_
  refine JW_eff rfl ?_
  refine JL_callR [] (routed_fn N hR A1 cn g1 0 hA1' K ck bk ok ks hK hks hkz) rfl rfl rfl rfl (by kernel_rfl) ⟨⟨3, _, by simp, rfl, shows_ownS hA1, seen_ownS hA1⟩, ⟨4, _, by simp, rfl, shows_seg _ _ _, seen_seg⟩, trivial⟩ (fun _ => rfl) ?_
  rintro _ H' ⟨fr, gr, rfl, rfl, hfr⟩
  have hrl := hfr.len
  refine ⟨rfl, JL_nil ⟨⟨[1, 2, 3, 4, 5], by decide, rfl⟩, ?_⟩⟩
  refine JW_eff rfl ?_
  refine JL_callR [] (fvalue_fn N hF hR A1 cn g1 0 hA1' fr (some ⟨gr, 0, none⟩) N.arcs.length gr 0 (fun _ => rfl) (IsFlow.inB hR hfr.toRanged) (by omega)) rfl rfl rfl (by rw [hrl]; rfl) (by kernel_rfl) ⟨⟨4, _, by simp, rfl, shows_ownS hA1, seen_ownS hA1⟩, ⟨0, _, by simp, rfl, shows_own, seen_ownS (fun _ => rfl)⟩, trivial⟩ (fun _ => rfl) ?_
  rintro _ H' ⟨⟨rfl, _⟩ | ⟨_, h⟩, rfl⟩
  case inr => exact absurd hfr h
  refine ⟨rfl, JL_nil ⟨⟨[1, 2, 3, 4, 5], by decide, rfl⟩, ?_⟩⟩
  refine JW_all [] rfl ?_
  refine JL_nil ?_
  obtain ⟨w, hw⟩ : ∃ w, w = exZ (N.arcs.zip fr) N.snk := ⟨_, rfl⟩
  have hwv : w ≤ v := by rw [hv, hw]; exact great hR hfa hfr hlva hlta
  refine J_set 18 (v' := .int .i64 w) rfl (congrArg (Value.int .i64) hw.symm) ?_
  refine J_fit (K := [blk b14 31 [.slice Aa fa.length ca, .int .i64 pa, .int .i64 ka, .int .i64 sa], .own (.slice Aa fa.length ca) 2 1 fa.length (ints fa), blk b12 27 (netC N A1 cn), .own (.slice A1 N.arcs.length cn) 42 3 N.arcs.length (arcs N.arcs)]) (Fit.picks [1, 2, 3, 4] (by decide) rfl) ?_
  (repeat' (first | refine J_seq ?_ | refine J_skip ?_ | refine J_yes rfl ?_ | refine J_no rfl ?_))
  refine J_region ?_
  refine JL_val [] (v := netV N A1 cn) (OpV_blk 2 rfl rfl rfl rfl) rfl ?_
  refine JL_run [] rfl ?_
  refine JL_val [] (v := .slice Aa fa.length ca) (OpV_blk 0 rfl rfl rfl rfl) rfl ?_
  refine JL_callR [] (reach_fn N hF hR A1 cn g1 0 hA1' fa Aa ca ga 0 hAa' (IsFlow.inB hR hfa.toRanged) (by omega) 1 (by decide) n hnd) rfl rfl rfl rfl (by kernel_rfl) ⟨⟨3, _, by simp, rfl, shows_ownS hA1, seen_ownS hA1⟩, ⟨1, _, by simp, rfl, shows_ownS hAa, seen_ownS hAa⟩, trivial⟩ (fun _ => rfl) ?_
  rintro _ H' (⟨_, _, lb, gm, hll, hlr, rfl, rfl⟩ | ⟨hW, _, _⟩ | ⟨_, hlt, _, _⟩)
  case inr.inl => exact absurd hfa hW
  case inr.inr => exact absurd hlt (by decide)
  refine ⟨rfl, ?_⟩
  refine JL_all [] rfl ?_
  have hno := no_reach hfa.toRanged hlva hlta
  obtain ⟨hcut, hcl⟩ := first_cut hR hfa hnd hno hlr
  have hcap := (closed_cut hR hfa hcut).2 hcl
  rw [met_capZ hR hnd hll N.arcs (fun _ h => h), ← hv] at hcap
  obtain ⟨s, hse2⟩ : ∃ s : Nat, N.src = s := ⟨N.src.toNat, by omega⟩
  obtain ⟨z, hze⟩ : ∃ z : Nat, N.snk = z := ⟨N.snk.toNat, by omega⟩
  have hls : lb[s]? = some true := (hlr s).2 ⟨by omega, by rw [← hse2]; exact .src⟩
  have hlz : lb[z]? = some false := by
    have h1 : lb[z]? = some (lb[z]'(by omega)) := List.getElem?_eq_getElem _
    cases hb : lb[z]'(by omega) with
    | false => rw [h1, hb]
    | true => exact absurd ((hlr z).1 (by rw [h1, hb])).2 (by rw [← hze]; exact hno)
  (repeat' (first | refine J_seq ?_ | refine J_skip ?_ | refine J_yes rfl ?_ | refine J_no rfl ?_))
  refine J_region ?_
  refine JL_evO (gs := [999]) rfl ?_
  refine JL_evO (gs := [999]) rfl ?_
  refine JL_evO (gs := [999]) rfl ?_
  refine JL_set 63 (v' := .bool false) rfl (congrArg Value.bool (cdec_no (fun h => h rfl))) ?_
  refine JL_run [2] rfl ?_
  refine JL_set 67 (v' := .bool false) rfl (congrArg Value.bool (cdec_no (fun h => h rfl))) ?_
  refine JL_run [2, 6] rfl ?_
  refine JL_set 71 (v' := .bool false) rfl (congrArg Value.bool (cdec_no (fun h => h rfl))) ?_
  refine JL_run [2, 6, 10] rfl ?_
  refine JL_set 75 (v' := .bool false) rfl (congrArg Value.bool (cdec_no (fun h => h rfl))) ?_
  refine JL_run [2, 6, 10, 14] rfl ?_
  refine JL_val [2, 6, 10, 14] (v := .int .i64 N.snk) (OpV_blk 3 rfl rfl rfl rfl) rfl ?_
  refine JL_set 78 (v' := .int .i64 (z : Int)) rfl (congrArg (Value.int .i64) hze) ?_
  refine JL_val [2, 6, 10, 14] (idx1z rfl rfl rfl rfl rfl (by omega)) rfl ?_
  refine JL_val [2, 6, 10, 14] (OpV_own 0 rfl rfl rfl (show (bools lb)[z]? = some (.bool false) from bools_get hlz)) rfl ?_
  refine JL_run [2, 6, 10, 14, 21] rfl ?_
  refine JL_val [2, 6, 10, 14, 21] (v := .int .i64 N.src) (OpV_blk 3 rfl rfl rfl rfl) rfl ?_
  refine JL_set 85 (v' := .int .i64 (s : Int)) rfl (congrArg (Value.int .i64) hse2) ?_
  refine JL_val [2, 6, 10, 14, 21] (idx1z rfl rfl rfl rfl rfl (by omega)) rfl ?_
  refine JL_val [2, 6, 10, 14, 21] (OpV_own 0 rfl rfl rfl (show (bools lb)[s]? = some (.bool true) from bools_get hls)) rfl ?_
  refine JL_all [2, 6, 10, 14, 21] rfl ?_
  refine J_no rfl (J_skip ?_)
  (repeat' (first | refine J_seq ?_ | refine J_skip ?_ | refine J_yes rfl ?_ | refine J_no rfl ?_))
  refine J_region ?_
  refine JL_all [] rfl ?_
  (repeat' (first | refine J_seq ?_ | refine J_skip ?_ | refine J_yes rfl ?_ | refine J_no rfl ?_))
  refine J_region ?_
  refine JL_all [] rfl ?_
  (repeat' (first | refine J_seq ?_ | refine J_skip ?_ | refine J_yes rfl ?_ | refine J_no rfl ?_))
  refine J_block ?_
  refine J_loopF (σ := Nat) (fun t => [(23, .int .i64 (t : Int)), (22, .int .i64 ((N.arcs.take t).map (metZ lb)).sum), (20, .slice (some ⟨gm, 0, none⟩) (n + 1) (n + 1)), (12, .pointer (some ⟨b12, 0, none⟩)), (14, .pointer (some ⟨b14, 0, none⟩)), (16, .int .i64 v), (18, .int .i64 w)])
    (fun _ => [.own (.slice (some ⟨gm, 0, none⟩) (n + 1) (n + 1)) 4 1 (n + 1) (bools lb), blk b14 31 [.slice Aa fa.length ca, .int .i64 pa, .int .i64 ka, .int .i64 sa], blk b12 27 (netC N A1 cn), .own (.slice A1 N.arcs.length cn) 42 3 N.arcs.length (arcs N.arcs)])
    (fun t => t ≤ N.arcs.length) (fun t => N.arcs.length - t) 0 ⟨rfl, rfl, rfl, rfl, rfl, rfl, rfl, trivial⟩ (Fit.picks [0, 1, 3, 4] (by decide) rfl) (Nat.zero_le _) ?_
  intro k hk
  have hsi := met_in hR lb k
  (repeat' (first | refine J_seq ?_ | refine J_skip ?_ | refine J_yes rfl ?_ | refine J_no rfl ?_))
  refine J_region ?_
  refine JL_run [] rfl ?_
  refine JL_val [] (v := .slice A1 N.arcs.length cn) (OpV_blk 2 rfl rfl rfl rfl) rfl ?_
  refine JL_all [] rfl ?_
  refine J_dec rfl (fun hlt => J_skip ?_) (fun hge => J_exit ?_)
  · have hkl : k < N.arcs.length := by omega
    obtain ⟨a, ha⟩ : ∃ a, N.arcs[k]? = some a := ⟨N.arcs[k], List.getElem?_eq_getElem hkl⟩
    obtain rfl := hA1' (by intro h0; rw [h0] at hkl; simp at hkl)
    have har := hR.arc a (List.mem_of_getElem? ha)
    have hac := hcm a (List.mem_of_getElem? ha)
    have hsj := met_in hR lb (k + 1)
    have htk : ((N.arcs.take (k + 1)).map (metZ lb)).sum = ((N.arcs.take k).map (metZ lb)).sum + metZ lb a := by rw [List.take_add_one, ha, List.map_append, List.sum_append]; simp
    obtain ⟨fr, hfr2⟩ : ∃ fr : Nat, a.fr = fr := ⟨a.fr.toNat, by omega⟩
    obtain ⟨to_, hto⟩ : ∃ to_ : Nat, a.to = to_ := ⟨a.to.toNat, by omega⟩
    obtain ⟨bf, hbf⟩ : ∃ bf, lb[fr]? = some bf := ⟨lb[fr]'(by omega), List.getElem?_eq_getElem _⟩
    obtain ⟨bt, hbt⟩ : ∃ bt, lb[to_]? = some bt := ⟨lb[to_]'(by omega), List.getElem?_eq_getElem _⟩
    have hmz : metZ lb a = if bf = true ∧ bt ≠ true then a.cap else 0 := by
      unfold metZ
      rw [hfr2, hto, Int.toNat_natCast, Int.toNat_natCast, hbf, hbt]
      simp
    refine J_seq (J_block ?_)
    (repeat' (first | refine J_seq ?_ | refine J_skip ?_ | refine J_yes rfl ?_ | refine J_no rfl ?_))
    refine J_region ?_
    refine JL_run [] rfl ?_
    refine JL_val [] (v := .slice (some ⟨g1, 0, none⟩) N.arcs.length cn) (OpV_blk 2 rfl rfl rfl rfl) rfl ?_
    refine JL_run [] rfl ?_
    refine JL_val [] (idxNz rfl rfl rfl rfl rfl hkl) rfl ?_
    refine JL_val [] (OpV_own 3 rfl rfl rfl (readT_arc ha)) rfl ?_
    refine JL_alloc rfl rfl rfl (fun _ => rfl) fun q => ?_
    refine JL_store 0 rfl rfl rfl rfl rfl [] rfl ?_
    refine JL_nil ?_
    (repeat' (first | refine J_seq ?_ | refine J_skip ?_ | refine J_yes rfl ?_ | refine J_no rfl ?_))
    refine J_region ?_
    refine JL_run [] rfl ?_
    refine JL_val [] (v := .int .i64 a.fr) (OpV_blk 0 rfl rfl rfl rfl) rfl ?_
    refine JL_set 104 (v' := .int .i64 (fr : Int)) rfl (congrArg (Value.int .i64) hfr2) ?_
    refine JL_val [] (idx1z rfl rfl rfl rfl rfl (by omega)) rfl ?_
    refine JL_val [] (OpV_own 1 rfl rfl rfl (show (bools lb)[fr]? = some (.bool bf) from bools_get hbf)) rfl ?_
    refine JL_evO (gs := []) rfl ?_
    have hq : IntKind.i64.wrap ((k : Int) + 1) = ((k + 1 : Nat) : Int) := w64 (by omega)
    cases bf with
    | false =>
      rw [if_neg (fun h => absurd h.1 (by decide))] at hmz
      refine JL_all [5] rfl ?_
      (repeat' (first | refine J_seq ?_ | refine J_skip ?_ | refine J_yes rfl ?_ | refine J_no rfl ?_))
      (repeat' (first | refine J_seq ?_ | refine J_skip ?_ | refine J_yes rfl ?_ | refine J_no rfl ?_))
      refine J_region ?_
      refine JL_all [] rfl ?_
      refine ⟨k + 1, ⟨congrArg some (congrArg (Value.int .i64) hq), by rw [htk, hmz, Int.add_zero]; rfl, rfl, rfl, rfl, rfl, rfl, trivial⟩, Fit.picks [1, 2, 3, 4] (by decide) rfl, hkl, by show N.arcs.length - (k + 1) < N.arcs.length - k; omega⟩
    | true =>
      refine JL_run [5] rfl ?_
      refine JL_val [5] (v := .int .i64 a.to) (OpV_blk 0 rfl rfl rfl rfl) rfl ?_
      refine JL_set 110 (v' := .int .i64 (to_ : Int)) rfl (congrArg (Value.int .i64) hto) ?_
      refine JL_val [5] (idx1z rfl rfl rfl rfl rfl (by omega)) rfl ?_
      refine JL_val [5] (OpV_own 1 rfl rfl rfl (show (bools lb)[to_]? = some (.bool bt) from bools_get hbt)) rfl ?_
      cases bt with
      | true =>
        rw [if_neg (fun h => absurd rfl h.2)] at hmz
        refine JL_all [5] rfl ?_
        (repeat' (first | refine J_seq ?_ | refine J_skip ?_ | refine J_yes rfl ?_ | refine J_no rfl ?_))
        (repeat' (first | refine J_seq ?_ | refine J_skip ?_ | refine J_yes rfl ?_ | refine J_no rfl ?_))
        refine J_region ?_
        refine JL_all [] rfl ?_
        refine ⟨k + 1, ⟨congrArg some (congrArg (Value.int .i64) hq), by rw [htk, hmz, Int.add_zero]; rfl, rfl, rfl, rfl, rfl, rfl, trivial⟩, Fit.picks [1, 2, 3, 4] (by decide) rfl, hkl, by show N.arcs.length - (k + 1) < N.arcs.length - k; omega⟩
      | false =>
        rw [if_pos ⟨rfl, by decide⟩] at hmz
        refine JL_all [5] rfl ?_
        (repeat' (first | refine J_seq ?_ | refine J_skip ?_ | refine J_yes rfl ?_ | refine J_no rfl ?_))
        (repeat' (first | refine J_seq ?_ | refine J_skip ?_ | refine J_yes rfl ?_ | refine J_no rfl ?_))
        refine J_region ?_
        refine JL_run [] rfl ?_
        refine JL_val [] (v := .int .i64 a.cap) (OpV_blk 0 rfl rfl rfl rfl) rfl ?_
        refine JL_all [] rfl ?_
        refine J_set 22 (v' := .int .i64 ((N.arcs.take (k + 1)).map (metZ lb)).sum) rfl (congrArg (Value.int .i64) ((w64 (by omega)).trans (by rw [htk, hmz]))) ?_
        (repeat' (first | refine J_seq ?_ | refine J_skip ?_ | refine J_yes rfl ?_ | refine J_no rfl ?_))
        refine J_region ?_
        refine JL_all [] rfl ?_
        refine ⟨k + 1, ⟨congrArg some (congrArg (Value.int .i64) hq), rfl, rfl, rfl, rfl, rfl, rfl, trivial⟩, Fit.picks [1, 2, 3, 4] (by decide) rfl, hkl, by show N.arcs.length - (k + 1) < N.arcs.length - k; omega⟩
  · obtain rfl : k = N.arcs.length := by omega
    rw [List.take_of_length_le (Nat.le_refl _), hcap]
    (repeat' (first | refine J_seq ?_ | refine J_skip ?_ | refine J_yes rfl ?_ | refine J_no rfl ?_))
    refine J_region ?_
    refine JL_evO (gs := [999]) rfl ?_
    refine JL_evO (gs := [999]) rfl ?_
    refine JL_evO (gs := [999]) rfl ?_
    refine JL_evO (gs := [999]) rfl ?_
    refine JL_set 122 (v' := .bool true) rfl (congrArg Value.bool (cdec_yes rfl)) ?_
    refine JL_run [3] rfl ?_
    refine JL_set 127 (v' := .bool true) rfl (congrArg Value.bool (cdec_yes hwv)) ?_
    refine JL_run [3, 8] rfl ?_
    refine JL_val [3, 8] (v := .int .i64 pa) (OpV_blk 1 rfl rfl rfl rfl) rfl ?_
    refine JL_run [3, 8] rfl ?_
    refine JL_val [3, 8] (v := .int .i64 N.nodes) (OpV_blk 2 rfl rfl rfl rfl) rfl ?_
    refine JL_run [3, 8] rfl ?_
    refine JL_set 134 (v' := .bool true) rfl (congrArg Value.bool (cdec_yes (show (pa : Int) < N.nodes by omega))) ?_
    refine JL_run [3, 8, 15] rfl ?_
    refine JL_val [3, 8, 15] (v := .int .i64 ka) (OpV_blk 1 rfl rfl rfl rfl) rfl ?_
    refine JL_run [3, 8, 15] rfl ?_
    refine JL_val [3, 8, 15] (v := .int .i64 pa) (OpV_blk 1 rfl rfl rfl rfl) rfl ?_
    refine JL_all [3, 8, 15] rfl ?_
    exact J_ret ⟨_, rfl, congrArg Value.bool (cdec_yes (show (pa : Int) ≤ ka by omega))⟩
end Go.Proofs.Ytjbcgjahfalkaaa
