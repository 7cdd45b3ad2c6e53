
/- CutStrong: of a flow of the greatest value the least and the greatest cut. No condition. -/
import Derived.Test.YtbhfbpeldcnpfaaStrongP
import Derived.Test.YtbhfbpeldcnpfaaDinN
import Derived.Test.YtbhfbpeldcnpfaaProveN
namespace Go.Proofs.Ytbhfbpeldcnpfaa
open Go.RowKit
theorem Net.Right.fits' {N : Net} (h : N.Right) : N.Fits := by
  have h1 := h.nodes
  have h2 := h.src
  have h3 := h.snk
  have h4 := h.len
  refine ⟨by unfold inB; omega, by unfold inB; omega, by unfold inB; omega, by omega, fun a ha => ?_⟩
  have := h.arc a ha
  have := h.cap ha
  unfold inB
  omega
set_option maxHeartbeats 1000000 in
theorem strong_fn (nodes : Int) (hn : inB nodes) (ends : Int) (he : inB ends) (A : Option Addr) (c b o : Nat) (l : List Arc) (hA : l ≠ [] → A = some ⟨b, o, none⟩) (hl : ∀ x ∈ l, inB x.fr ∧ inB x.to ∧ inB x.cap) (hs : l.length * 24 ≤ 140737488351232)
    (K : Option Addr) (ck bk ok : Nat) (ks : List Int) (hK : ks ≠ [] → K = some ⟨bk, ok, none⟩) (hks : ∀ x ∈ ks, inB x) (hkz : ks.length * 8 ≤ 140737488351232) (bits : Int) (_hbits : inB bits) :
    Fn 3 [.int .i64 nodes, .int .i64 ends, .slice A l.length c, .slice K ks.length ck, .int .i64 bits] [] [.seg b o (arcs l), .seg bk ok (ints ks)] fun v _ => v = .bool true := by
  refine Fn_of Try.func3 rfl rfl fun w0 => ?_
  (repeat' (first | refine J_seq ?_ | refine J_skip ?_ | refine J_yes rfl ?_ | refine J_no rfl ?_))
  refine J_region ?_
  refine JL_all [] rfl ?_
  (repeat' (first | refine J_seq ?_ | refine J_skip ?_ | refine J_yes rfl ?_ | refine J_no rfl ?_))
  refine J_region ?_
  refine JL_callR [] (shown14_fn) rfl rfl rfl rfl (by kernel_rfl) trivial (fun _ => rfl) ?_
  rintro v H' ⟨rfl, rfl⟩
  refine ⟨rfl, ?_⟩
  refine JL_all [] rfl ?_
  (repeat' (first | refine J_seq ?_ | refine J_skip ?_ | refine J_yes rfl ?_ | refine J_no rfl ?_))
  refine J_region ?_
  refine JL_all [] rfl ?_
  (repeat' (first | refine J_seq ?_ | refine J_skip ?_ | refine J_yes rfl ?_ | refine J_no rfl ?_))
  refine J_region ?_
  refine JL_run [] rfl ?_
  refine JL_callR [] (made14_fn nodes ends hn he A c b o l hA hl (by omega)) rfl rfl rfl rfl (by kernel_rfl) ⟨⟨0, _, by simp, rfl, shows_seg _ _ _, seen_seg⟩, trivial⟩ (fun _ => rfl) ?_
  rintro v H' ⟨N, A', c', hR, hn9, h24, _, rfl, rfl⟩
  refine ⟨rfl, ?_⟩
  refine JL_alloc rfl rfl rfl (fun _ => rfl) fun b12 => ?_
  refine JL_store 0 rfl rfl rfl rfl rfl [] rfl ?_
  refine JL_know (own_is 1 rfl) fun ⟨_, _, hA1, hl1⟩ => ?_
  obtain ⟨g1, hA1⟩ := own_at hA1 hl1
  have hA1' : N.arcs ≠ [] → A' = some ⟨g1, 0, none⟩ := fun h => hA1 (fun h0 => h (List.length_eq_zero_iff.1 (by have := arcs_length N.arcs; rw [h0] at this; simp at this; omega)))
  have hF := hR.fits'
  have hnn := hR.nodes
  have hsr := hR.src
  have hsk := hR.snk
  obtain ⟨n, hnd⟩ : ∃ n : Nat, N.nodes = n := ⟨N.nodes.toNat, by omega⟩
  refine JL_nil ?_
  (repeat' (first | refine J_seq ?_ | refine J_skip ?_ | refine J_yes rfl ?_ | refine J_no rfl ?_))
  refine J_region ?_
  refine JL_val [] (v := netV N A' c') (OpV_blk 0 rfl rfl rfl rfl) rfl ?_
  refine JL_callR [] (max_fn N hF hR A' c' g1 0 hA1') rfl rfl rfl rfl (by kernel_rfl) ⟨⟨1, _, by simp, rfl, shows_ownS hA1, seen_ownS hA1⟩, trivial⟩ (fun _ => rfl) ?_
  rintro v H' ⟨f, ph, wk, Af, cf, hdn, _, rfl, rfl⟩
  obtain ⟨hf, _, _, lv, hlv, hlt⟩ := hdn.keeps hR (by decide) (zeroFlow N hR)
  have hno := no_reach hf.toRanged hlv hlt
  have hfl := hf.len
  have hfin := IsFlow.inB hR hf.toRanged
  refine ⟨rfl, ?_⟩
  refine JL_run [] rfl ?_
  refine JL_alloc rfl rfl rfl (fun _ => rfl) fun b13 => ?_
  refine JL_store 0 rfl rfl rfl rfl rfl [] rfl ?_
  refine JL_all [] rfl ?_
  refine J_know (own_is 1 rfl) fun ⟨_, _, hAf, hlf⟩ => ?_
  obtain ⟨gf, hAf⟩ := own_at hAf hlf
  have hAf' : f ≠ [] → Af = some ⟨gf, 0, none⟩ := fun h => hAf (by simpa [ints] using h)
  (repeat' (first | refine J_seq ?_ | refine J_skip ?_ | refine J_yes rfl ?_ | refine J_no rfl ?_))
  refine J_region ?_
  refine JL_val [] (v := netV N A' c') (OpV_blk 2 rfl rfl rfl rfl) rfl ?_
  refine JL_run [] rfl ?_
  refine JL_val [] (OpV_blk (v := .slice Af f.length cf) 0 rfl rfl rfl rfl) rfl ?_
  refine JL_callR [] (fvalue_fn N hF hR A' c' g1 0 hA1' f Af cf gf 0 hAf' hfin (by omega)) rfl rfl rfl rfl (by kernel_rfl) ⟨⟨3, _, by simp, rfl, shows_ownS hA1, seen_ownS hA1⟩, ⟨1, _, by simp, rfl, shows_ownS hAf, seen_ownS hAf⟩, trivial⟩ (fun _ => rfl) ?_
  rintro v H' ⟨⟨rfl, _⟩ | ⟨_, h⟩, rfl⟩
  case inr => exact absurd hf h
  refine ⟨rfl, ?_⟩
  refine JL_all [] rfl ?_
  (repeat' (first | refine J_seq ?_ | refine J_skip ?_ | refine J_yes rfl ?_ | refine J_no rfl ?_))
  refine J_region ?_
  refine JL_val [] (v := netV N A' c') (OpV_blk 2 rfl rfl rfl rfl) rfl ?_
  refine JL_run [] rfl ?_
  refine JL_val [] (OpV_blk (v := .slice Af f.length cf) 0 rfl rfl rfl rfl) rfl ?_
  refine JL_callR [] (first_fn N hF hR A' c' g1 0 hA1' f Af cf gf 0 hAf' hfin (by omega) n hnd) rfl rfl rfl rfl (by kernel_rfl) ⟨⟨3, _, by simp, rfl, shows_ownS hA1, seen_ownS hA1⟩, ⟨1, _, by simp, rfl, shows_ownS hAf, seen_ownS hAf⟩, trivial⟩ (fun _ => rfl) ?_
  rintro v H' (⟨_, _, la, Aa, ca, hla, hlar, rfl, rfl⟩ | ⟨h, _, _⟩ | ⟨_, h, _, _⟩)
  case inr.inl => exact absurd hf h
  case inr.inr => exact absurd h hno
  refine ⟨rfl, ?_⟩
  refine JL_all [] rfl ?_
  (repeat' (first | refine J_seq ?_ | refine J_skip ?_ | refine J_yes rfl ?_ | refine J_no rfl ?_))
  refine J_region ?_
  refine JL_val [] (v := netV N A' c') (OpV_blk 3 rfl rfl rfl rfl) rfl ?_
  refine JL_run [] rfl ?_
  refine JL_val [] (OpV_blk (v := .slice Af f.length cf) 1 rfl rfl rfl rfl) rfl ?_
  refine JL_callR [] (last_fn N hF hR A' c' g1 0 hA1' f Af cf gf 0 hAf' hfin (by omega) n hnd hf) rfl rfl rfl rfl (by kernel_rfl) ⟨⟨4, _, by simp, rfl, shows_ownS hA1, seen_ownS hA1⟩, ⟨2, _, by simp, rfl, shows_ownS hAf, seen_ownS hAf⟩, trivial⟩ (fun _ => rfl) ?_
  rintro v H' (⟨h, _, _⟩ | ⟨_, lb, Ab, cb, hlb, hlbr, rfl, rfl⟩)
  case inl => exact absurd h hno
  refine ⟨rfl, ?_⟩
  refine JL_all [] rfl ?_
  obtain ⟨hcutA, hclA⟩ := first_cut hR hf hnd hno hlar
  obtain ⟨hcutB, hclB⟩ := last_cut hR hf hnd hno hlb hlbr
  have hwa := whereK_length la true (n + 1)
  have hwb := whereK_length lb false (n + 1)
  obtain ⟨sa, hsa⟩ : ∃ sa, sa = whereK la true (n + 1) := ⟨_, rfl⟩
  obtain ⟨sb, hsb⟩ : ∃ sb, sb = whereK lb false (n + 1) := ⟨_, rfl⟩
  have hma : ∀ x, x ∈ sa ↔ 1 ≤ x ∧ x ≤ N.nodes ∧ Rch N (roomL (N.arcs.zip f)) 1 x := fun x => by rw [hsa]; exact mem_first hnd hlar
  have hmb : ∀ x, x ∈ sb ↔ 1 ≤ x ∧ x ≤ N.nodes ∧ ¬ Rch (turnN N) (roomL (N.arcs.zip f)) 1 x := fun x => by rw [hsb]; exact mem_last hnd hlb hlbr
  rw [← hsa] at hcutA hclA hwa ⊢
  rw [← hsb] at hcutB hclB hwb ⊢
  refine J_know (own_is 1 rfl) fun ⟨_, _, hAa, hlAa⟩ => ?_
  obtain ⟨ga, hAa⟩ := own_at hAa hlAa
  have hAa' : sa ≠ [] → Aa = some ⟨ga, 0, none⟩ := fun h => hAa (by simpa [ints] using h)
  refine J_know (own_is 0 rfl) fun ⟨_, _, hAb, hlAb⟩ => ?_
  obtain ⟨gb, hAb⟩ := own_at hAb hlAb
  have hAb' : sb ≠ [] → Ab = some ⟨gb, 0, none⟩ := fun h => hAb (by simpa [ints] using h)
  have hcA := (closed_cut hR hf hcutA).2 hclA
  have hcB := (closed_cut hR hf hcutB).2 hclB
  have hab : ∀ x, x ∈ sa → x ∈ sb := fun x hx => first_least hcutB hclB hfl ((hma x).1 hx).2.2
  (repeat' (first | refine J_seq ?_ | refine J_skip ?_ | refine J_yes rfl ?_ | refine J_no rfl ?_))
  refine J_region ?_
  refine JL_run [] rfl ?_
  refine JL_set 70 (v' := .bool false) rfl (congrArg Value.bool (cdec_no (fun h => h rfl))) ?_
  refine JL_run [2] rfl ?_
  refine JL_set 74 (v' := .bool false) rfl (congrArg Value.bool (cdec_no (fun h => h rfl))) ?_
  refine JL_run [6] rfl ?_
  refine JL_val [6] (v := netV N A' c') (OpV_blk 4 rfl rfl rfl rfl) rfl ?_
  refine JL_run [6] rfl ?_
  refine JL_val [6] (OpV_blk (v := .slice Af f.length cf) 2 rfl rfl rfl rfl) rfl ?_
  refine JL_run [6] rfl ?_
  refine JL_callR [6] (prove_fn N hF hR A' c' g1 0 hA1' f hf Af cf gf 0 hAf' sa hcutA (by omega) Aa ca ga 0 hAa') rfl rfl rfl rfl (by kernel_rfl) ⟨⟨5, _, by simp, rfl, shows_ownS hA1, seen_ownS hA1⟩, ⟨3, _, by simp, rfl, shows_ownS hAf, seen_ownS hAf⟩, ⟨1, _, by simp, rfl, shows_ownS hAa, seen_ownS hAa⟩, trivial⟩ (fun _ => rfl) ?_
  rintro v H' ⟨rfl, rfl⟩
  refine ⟨rfl, ?_⟩
  rw [if_pos hcA.symm]
  refine JL_run [6] rfl ?_
  refine JL_set 82 (v' := .bool false) rfl (congrArg Value.bool (cdec_no (fun h => h rfl))) ?_
  refine JL_run [14] rfl ?_
  refine JL_val [14] (v := netV N A' c') (OpV_blk 4 rfl rfl rfl rfl) rfl ?_
  refine JL_run [14] rfl ?_
  refine JL_val [14] (OpV_blk (v := .slice Af f.length cf) 2 rfl rfl rfl rfl) rfl ?_
  refine JL_run [14] rfl ?_
  refine JL_callR [14] (prove_fn N hF hR A' c' g1 0 hA1' f hf Af cf gf 0 hAf' sb hcutB (by omega) Ab cb gb 0 hAb') rfl rfl rfl rfl (by kernel_rfl) ⟨⟨5, _, by simp, rfl, shows_ownS hA1, seen_ownS hA1⟩, ⟨3, _, by simp, rfl, shows_ownS hAf, seen_ownS hAf⟩, ⟨0, _, by simp, rfl, shows_ownS hAb, seen_ownS hAb⟩, trivial⟩ (fun _ => rfl) ?_
  rintro v H' ⟨rfl, rfl⟩
  refine ⟨rfl, ?_⟩
  rw [if_pos hcB.symm]
  refine JL_all [14] rfl ?_
  refine J_dec rfl (fun h => absurd rfl h) (fun _ => J_skip ?_)
  (repeat' (first | refine J_seq ?_ | refine J_skip ?_ | refine J_yes rfl ?_ | refine J_no rfl ?_))
  refine J_region ?_
  refine JL_val [] (v := netV N A' c') (OpV_blk 4 rfl rfl rfl rfl) rfl ?_
  refine JL_run [] rfl ?_
  refine JL_callR [] (some_fn N hR A' c' bits) rfl rfl rfl rfl (by kernel_rfl) trivial (fun _ => rfl) ?_
  rintro v H' ⟨sc, Ac, cc, hcutC, hscl, rfl, rfl⟩
  refine ⟨rfl, ?_⟩
  refine JL_all [] rfl ?_
  refine J_know (own_is 0 rfl) fun ⟨_, _, hAc, hlAc⟩ => ?_
  obtain ⟨gc, hAc⟩ := own_at hAc hlAc
  have hAc' : sc ≠ [] → Ac = some ⟨gc, 0, none⟩ := fun h => hAc (by simpa [ints] using h)
  (repeat' (first | refine J_seq ?_ | refine J_skip ?_ | refine J_yes rfl ?_ | refine J_no rfl ?_))
  refine J_region ?_
  refine JL_val [] (v := netV N A' c') (OpV_blk 5 rfl rfl rfl rfl) rfl ?_
  refine JL_run [] rfl ?_
  refine JL_callR [] (capacity_fn N hF hR A' c' g1 0 hA1' sc hcutC (by omega) Ac cc gc 0 hAc') rfl rfl rfl rfl (by kernel_rfl) ⟨⟨6, _, by simp, rfl, shows_ownS hA1, seen_ownS hA1⟩, ⟨0, _, by simp, rfl, shows_ownS hAc, seen_ownS hAc⟩, trivial⟩ (fun _ => rfl) ?_
  rintro v H' ⟨rfl, rfl⟩
  refine ⟨rfl, ?_⟩
  refine JL_all [] rfl ?_
  obtain ⟨vv, hvv⟩ : ∃ vv, vv = exZ (N.arcs.zip f) N.snk := ⟨_, rfl⟩
  obtain ⟨cz, hcz⟩ : ∃ cz, cz = capZ sc N.arcs := ⟨_, rfl⟩
  rw [← hvv, ← hcz]
  have hle : vv ≤ cz := by rw [hvv, hcz]; exact weak_cut hR hf hcutC
  have hmid : cz = vv → (∀ x, x ∈ sa → x ∈ sc) ∧ ∀ x, x ∈ sc → x ∈ sb := by
    intro e
    have hclC := (closed_cut hR hf hcutC).1 (by rw [← hcz, ← hvv, e])
    refine ⟨fun x hx => first_least hcutC hclC hfl ((hma x).1 hx).2.2, fun x hx => ?_⟩
    have := hcutC.rng x hx
    exact (hmb x).2 ⟨this.1, this.2, last_most hcutC hclC hfl hx⟩
  (repeat' (first | refine J_seq ?_ | refine J_skip ?_ | refine J_yes rfl ?_ | refine J_no rfl ?_))
  refine J_region ?_
  refine JL_all [] rfl ?_
  refine J_block ?_
  refine J_loop (σ := Nat) (fun u => [(24, .int .i64 u), (22, .int .i64 cz), (21, .slice Ac sc.length cc), (19, .slice Ab sb.length cb), (17, .slice Aa sa.length ca), (15, .int .i64 vv), (12, .pointer (some ⟨b12, 0, none⟩)), (3, .slice K ks.length ck)])
    (fun _ => [.own (.slice Ac sc.length cc) 3 1 sc.length (ints sc), .own (.slice Ab sb.length cb) 3 1 sb.length (ints sb), .own (.slice Aa sa.length ca) 3 1 sa.length (ints sa), blk b12 27 (netC N A' c'), .own (.slice A' N.arcs.length c') 51 3 N.arcs.length (arcs N.arcs), .seg bk ok (ints ks)])
    (fun u => 1 ≤ u ∧ u ≤ n + 1) (fun u => n + 1 - u) 1 [0, 1, 2, 5, 6, 8] ⟨rfl, rfl, rfl, rfl, rfl, rfl, rfl, rfl, trivial⟩ (by decide) rfl ⟨Nat.le_refl _, by omega⟩ ?_
  rintro u ⟨hu1, hu2⟩
  (repeat' (first | refine J_seq ?_ | refine J_skip ?_ | refine J_yes rfl ?_ | refine J_no rfl ?_))
  refine J_region ?_
  refine JL_run [] rfl ?_
  (first | refine JL_val [] (OpV_blk 0 rfl rfl rfl rfl) rfl ?_ | refine JL_val [] (OpV_blk 1 rfl rfl rfl rfl) rfl ?_ | refine JL_val [] (OpV_blk 2 rfl rfl rfl rfl) rfl ?_ | refine JL_val [] (OpV_blk 3 rfl rfl rfl rfl) rfl ?_ | refine JL_val [] (OpV_blk 4 rfl rfl rfl rfl) rfl ?_ | refine JL_val [] (OpV_blk 5 rfl rfl rfl rfl) rfl ?_ | refine JL_val [] (OpV_blk 6 rfl rfl rfl rfl) rfl ?_ | refine JL_val [] (OpV_blk 7 rfl rfl rfl rfl) rfl ?_)
  refine JL_all [] rfl ?_
  refine J_dec rfl (fun hle2 => J_skip ?_) (fun hgt => J_exit ?_)
  · have HA := has_fn Aa ca ga 0 sa hAa' (by omega) (u : Int)
    have HB := has_fn Ab cb gb 0 sb hAb' (by omega) (u : Int)
    have HC := has_fn Ac cc gc 0 sc hAc' (by omega) (u : Int)
    refine J_seq (J_block ?_)
    (repeat' (first | refine J_seq ?_ | refine J_skip ?_ | refine J_yes rfl ?_ | refine J_no rfl ?_))
    refine J_region ?_
    refine JL_run [] rfl ?_
    refine JL_callR [] HA rfl rfl rfl rfl (by kernel_rfl) ⟨⟨2, _, by simp, rfl, shows_ownS hAa, seen_ownS hAa⟩, trivial⟩ (fun _ => rfl) ?_
    rintro v H' ⟨rfl, rfl⟩
    refine ⟨rfl, ?_⟩
    refine JL_all [] rfl ?_
    (repeat' (first | refine J_seq ?_ | refine J_skip ?_ | refine J_yes rfl ?_ | refine J_no rfl ?_))
    refine J_region ?_
    refine JL_run [] rfl ?_
    refine JL_callR [] HB rfl rfl rfl rfl (by kernel_rfl) ⟨⟨1, _, by simp, rfl, shows_ownS hAb, seen_ownS hAb⟩, trivial⟩ (fun _ => rfl) ?_
    rintro v H' ⟨rfl, rfl⟩
    refine ⟨rfl, ?_⟩
    refine JL_all [] rfl ?_
    (repeat' (first | refine J_seq ?_ | refine J_skip ?_ | refine J_yes rfl ?_ | refine J_no rfl ?_))
    refine J_region ?_
    refine JL_run [] rfl ?_
    refine JL_callR [] HC rfl rfl rfl rfl (by kernel_rfl) ⟨⟨0, _, by simp, rfl, shows_ownS hAc, seen_ownS hAc⟩, trivial⟩ (fun _ => rfl) ?_
    rintro v H' ⟨rfl, rfl⟩
    refine ⟨rfl, ?_⟩
    refine JL_all [] rfl ?_
    refine J_cut [(137, .bool false), (24, .int .i64 u), (22, .int .i64 cz), (21, .slice Ac sc.length cc), (19, .slice Ab sb.length cb), (17, .slice Aa sa.length ca), (15, .int .i64 vv), (12, .pointer (some ⟨b12, 0, none⟩)), (3, .slice K ks.length ck)]
      [.own (.slice Ac sc.length cc) 3 1 sc.length (ints sc), .own (.slice Ab sb.length cb) 3 1 sb.length (ints sb), .own (.slice Aa sa.length ca) 3 1 sa.length (ints sa), blk b12 27 (netC N A' c'), .own (.slice A' N.arcs.length c') 51 3 N.arcs.length (arcs N.arcs), .seg bk ok (ints ks)] ?_ ?_
    · (repeat' (first | refine J_seq ?_ | refine J_skip ?_ | refine J_yes rfl ?_ | refine J_no rfl ?_))
      refine J_region ?_
      refine JL_run [] rfl ?_
      by_cases ha : (u : Int) ∈ sa
      · have hb := hab _ ha
        refine JL_set 115 (v' := .bool true) rfl (congrArg Value.bool (cdec_yes ha)) ?_
        refine JL_run [1] rfl ?_
        refine JL_set 119 (v' := .bool false) rfl (congrArg Value.bool (by rw [cdec_yes hb]; rfl)) ?_
        refine JL_run [5] rfl ?_
        by_cases hc : cz = vv
        · have hm := (hmid hc).1 _ ha
          refine JL_set 123 (v' := .bool true) rfl (congrArg Value.bool (cdec_yes hc)) ?_
          refine JL_run [9] rfl ?_
          refine JL_set 125 (v' := .bool true) rfl (congrArg Value.bool (cdec_yes ha)) ?_
          refine JL_run [11, 9] rfl ?_
          refine JL_set 129 (v' := .bool false) rfl (congrArg Value.bool (by rw [cdec_yes hm]; rfl)) ?_
          refine JL_run [15] rfl ?_
          refine JL_set 131 (v' := .bool true) rfl (congrArg Value.bool (cdec_yes hm)) ?_
          refine JL_run [17, 15, 9, 5] rfl ?_
          refine JL_set 137 (v' := .bool false) rfl (congrArg Value.bool (by rw [cdec_yes hb]; rfl)) ?_
          refine JL_nil ?_
          exact ⟨[0, 1, 2, 3, 4, 5], ⟨rfl, rfl, rfl, rfl, rfl, rfl, rfl, rfl, rfl, trivial⟩, by decide, rfl⟩
        · refine JL_set 123 (v' := .bool false) rfl (congrArg Value.bool (cdec_no hc)) ?_
          refine JL_all [5, 9, 11, 15, 17] rfl ?_
          exact ⟨[0, 1, 2, 3, 4, 5], ⟨rfl, rfl, rfl, rfl, rfl, rfl, rfl, rfl, rfl, trivial⟩, by decide, rfl⟩
      · refine JL_set 115 (v' := .bool false) rfl (congrArg Value.bool (cdec_no ha)) ?_
        refine JL_run [1] rfl ?_
        refine JL_set 119 (v' := .bool false) rfl rfl ?_
        refine JL_run [5] rfl ?_
        by_cases hc : cz = vv
        · refine JL_set 123 (v' := .bool true) rfl (congrArg Value.bool (cdec_yes hc)) ?_
          refine JL_run [9] rfl ?_
          refine JL_set 125 (v' := .bool false) rfl (congrArg Value.bool (cdec_no ha)) ?_
          refine JL_run [11, 9] rfl ?_
          refine JL_set 129 (v' := .bool false) rfl rfl ?_
          refine JL_run [15] rfl ?_
          by_cases hm : (u : Int) ∈ sc
          · have hb := (hmid hc).2 _ hm
            refine JL_set 131 (v' := .bool true) rfl (congrArg Value.bool (cdec_yes hm)) ?_
            refine JL_run [17, 15, 9, 5] rfl ?_
            refine JL_set 137 (v' := .bool false) rfl (congrArg Value.bool (by rw [cdec_yes hb]; rfl)) ?_
            refine JL_nil ?_
            exact ⟨[0, 1, 2, 3, 4, 5], ⟨rfl, rfl, rfl, rfl, rfl, rfl, rfl, rfl, rfl, trivial⟩, by decide, rfl⟩
          · refine JL_set 131 (v' := .bool false) rfl (congrArg Value.bool (cdec_no hm)) ?_
            refine JL_all [17, 15, 9, 5] rfl ?_
            exact ⟨[0, 1, 2, 3, 4, 5], ⟨rfl, rfl, rfl, rfl, rfl, rfl, rfl, rfl, rfl, trivial⟩, by decide, rfl⟩
        · refine JL_set 123 (v' := .bool false) rfl (congrArg Value.bool (cdec_no hc)) ?_
          refine JL_all [5, 9, 11, 15, 17] rfl ?_
          exact ⟨[0, 1, 2, 3, 4, 5], ⟨rfl, rfl, rfl, rfl, rfl, rfl, rfl, rfl, rfl, trivial⟩, by decide, rfl⟩
    · refine J_no rfl (J_skip ?_)
      (repeat' (first | refine J_seq ?_ | refine J_skip ?_ | refine J_yes rfl ?_ | refine J_no rfl ?_))
      refine J_region ?_
      refine JL_all [] rfl ?_
      refine ⟨u + 1, [0, 1, 2, 3, 4, 5], ⟨congrArg some (congrArg (Value.int .i64) (w64 (by omega))), rfl, rfl, rfl, rfl, rfl, rfl, rfl, trivial⟩, by decide, rfl, ⟨by omega, by omega⟩, by omega⟩
  · (repeat' (first | refine J_seq ?_ | refine J_skip ?_ | refine J_yes rfl ?_ | refine J_no rfl ?_))
    refine J_region ?_
    refine JL_val [] (v := netV N A' c') (OpV_blk 3 rfl rfl rfl rfl) rfl ?_
    refine JL_run [] rfl ?_
    refine JL_callR [] (routed_fn N hR A' c' g1 0 hA1' K ck bk ok ks hK hks hkz) rfl rfl rfl rfl (by kernel_rfl) ⟨⟨4, _, by simp, rfl, shows_ownS hA1, seen_ownS hA1⟩, ⟨5, _, by simp, rfl, shows_seg _ _ _, seen_seg⟩, trivial⟩ (fun _ => rfl) ?_
    rintro v H' ⟨q, gq, rfl, rfl, hq⟩
    have hql := hq.len
    have hqin := IsFlow.inB hR hq.toRanged
    refine ⟨rfl, ?_⟩
    refine JL_all [] rfl ?_
    (repeat' (first | refine J_seq ?_ | refine J_skip ?_ | refine J_yes rfl ?_ | refine J_no rfl ?_))
    refine J_region ?_
    refine JL_val [] (v := netV N A' c') (OpV_blk 4 rfl rfl rfl rfl) rfl ?_
    refine JL_run [] rfl ?_
    refine JL_callR [] (fvalue_fn N hF hR A' c' g1 0 hA1' q (some ⟨gq, 0, none⟩) N.arcs.length gq 0 (fun _ => rfl) hqin (by omega)) rfl rfl rfl (by rw [hql]; rfl) (by kernel_rfl) ⟨⟨5, _, by simp, rfl, shows_ownS hA1, seen_ownS hA1⟩, ⟨0, _, by simp, rfl, shows_own, seen_ownS (fun _ => rfl)⟩, trivial⟩ (fun _ => rfl) ?_
    rintro v H' ⟨⟨rfl, _⟩ | ⟨_, h⟩, rfl⟩
    case inr => exact absurd hq h
    refine ⟨rfl, ?_⟩
    refine JL_all [] rfl ?_
    (repeat' (first | refine J_seq ?_ | refine J_skip ?_ | refine J_yes rfl ?_ | refine J_no rfl ?_))
    refine J_region ?_
    refine JL_val [] (v := netV N A' c') (OpV_blk 4 rfl rfl rfl rfl) rfl ?_
    refine JL_run [] rfl ?_
    refine JL_callR [] (first_fn N hF hR A' c' g1 0 hA1' q (some ⟨gq, 0, none⟩) N.arcs.length gq 0 (fun _ => rfl) hqin (by omega) n hnd) rfl rfl rfl (by rw [hql]; rfl) (by kernel_rfl) ⟨⟨5, _, by simp, rfl, shows_ownS hA1, seen_ownS hA1⟩, ⟨0, _, by simp, rfl, shows_own, seen_ownS (fun _ => rfl)⟩, trivial⟩ (fun _ => rfl) ?_
    rintro v H' (⟨_, hno2, lx, Ax, cx, hlx, hlxr, rfl, rfl⟩ | ⟨h, _, _⟩ | ⟨_, hyes, rfl, rfl⟩)
    case inr.inl => exact absurd hq h
    · refine ⟨rfl, ?_⟩
      refine JL_all [] rfl ?_
      (repeat' (first | refine J_seq ?_ | refine J_skip ?_ | refine J_yes rfl ?_ | refine J_no rfl ?_))
      refine J_region ?_
      refine JL_val [] (v := netV N A' c') (OpV_blk 5 rfl rfl rfl rfl) rfl ?_
      refine JL_run [] rfl ?_
      refine JL_callR [] (last_fn N hF hR A' c' g1 0 hA1' q (some ⟨gq, 0, none⟩) N.arcs.length gq 0 (fun _ => rfl) hqin (by omega) n hnd hq) rfl rfl rfl (by rw [hql]; rfl) (by kernel_rfl) ⟨⟨6, _, by simp, rfl, shows_ownS hA1, seen_ownS hA1⟩, ⟨1, _, by simp, rfl, shows_own, seen_ownS (fun _ => rfl)⟩, trivial⟩ (fun _ => rfl) ?_
      rintro v H' (⟨h, _, _⟩ | ⟨_, ly, Ay, cy, hly, hlyr, rfl, rfl⟩)
      case inl => exact absurd h hno2
      refine ⟨rfl, ?_⟩
      refine JL_all [] rfl ?_
      obtain ⟨hcutX, hclX⟩ := first_cut hR hq hnd hno2 hlxr
      obtain ⟨hcutY, hclY⟩ := last_cut hR hq hnd hno2 hly hlyr
      have hwx := whereK_length lx true (n + 1)
      have hwy := whereK_length ly false (n + 1)
      obtain ⟨sx, hsx⟩ : ∃ sx, sx = whereK lx true (n + 1) := ⟨_, rfl⟩
      obtain ⟨sy, hsy⟩ : ∃ sy, sy = whereK ly false (n + 1) := ⟨_, rfl⟩
      have hmx : ∀ x, x ∈ sx ↔ 1 ≤ x ∧ x ≤ N.nodes ∧ Rch N (roomL (N.arcs.zip q)) 1 x := fun x => by rw [hsx]; exact mem_first hnd hlxr
      have hmy : ∀ x, x ∈ sy ↔ 1 ≤ x ∧ x ≤ N.nodes ∧ ¬ Rch (turnN N) (roomL (N.arcs.zip q)) 1 x := fun x => by rw [hsy]; exact mem_last hnd hly hlyr
      rw [← hsx] at hcutX hclX hwx ⊢
      rw [← hsy] at hcutY hclY hwy ⊢
      have hcX := (closed_cut hR hq hcutX).2 hclX
      have hcY := (closed_cut hR hq hcutY).2 hclY
      obtain ⟨ww, hww⟩ : ∃ ww, ww = exZ (N.arcs.zip q) N.snk := ⟨_, rfl⟩
      have hw1 := weak_cut hR hq hcutA
      have hw2 := weak_cut hR hf hcutX
      have hw : ww = vv := by omega
      have hxa : sx = sa := rise_eq hcutX.rise hcutA.rise fun x => by
        have c1 := (closed_cut hR hf hcutX).1 (by omega)
        have c2 := (closed_cut hR hq hcutA).1 (by omega)
        exact ⟨fun h => first_least hcutA c2 hql ((hmx x).1 h).2.2, fun h => first_least hcutX c1 hfl ((hma x).1 h).2.2⟩
      have hyb : sy = sb := rise_eq hcutY.rise hcutB.rise fun x => by
        have c1 := (closed_cut hR hf hcutY).1 (by omega)
        have c2 := (closed_cut hR hq hcutB).1 (by omega)
        exact ⟨fun h => (hmb x).2 ⟨((hmy x).1 h).1, ((hmy x).1 h).2.1, last_most hcutY c1 hfl h⟩, fun h => (hmy x).2 ⟨((hmb x).1 h).1, ((hmb x).1 h).2.1, last_most hcutB c2 hql h⟩⟩
      refine J_know (own_is 1 rfl) fun ⟨_, _, hAx, hlAx⟩ => ?_
      obtain ⟨gx, hAx⟩ := own_at hAx hlAx
      have hAx' : sx ≠ [] → Ax = some ⟨gx, 0, none⟩ := fun h => hAx (by simpa [ints] using h)
      refine J_know (own_is 0 rfl) fun ⟨_, _, hAy, hlAy⟩ => ?_
      obtain ⟨gy, hAy⟩ := own_at hAy hlAy
      have hAy' : sy ≠ [] → Ay = some ⟨gy, 0, none⟩ := fun h => hAy (by simpa [ints] using h)
      rw [← hww]
      (repeat' (first | refine J_seq ?_ | refine J_skip ?_ | refine J_yes rfl ?_ | refine J_no rfl ?_))
      refine J_region ?_
      refine JL_run [] rfl ?_
      refine JL_set 162 (v' := .bool true) rfl (congrArg Value.bool (cdec_yes hle)) ?_
      refine JL_run [3] rfl ?_
      refine JL_set 170 (v' := .bool true) rfl (congrArg Value.bool (by rw [cdec_yes rfl, cdec_yes hw]; rfl)) ?_
      refine JL_run [11] rfl ?_
      refine JL_set 175 (v' := .bool true) rfl (congrArg Value.bool (cdec_yes rfl)) ?_
      refine JL_run [16] rfl ?_
      refine JL_set 178 (v' := .bool true) rfl (congrArg Value.bool (cdec_yes rfl)) ?_
      refine JL_run [19] rfl ?_
      refine JL_callR [19] (same_fn Ax cx gx 0 sx hAx' (by omega) Aa ca ga 0 sa hAa') rfl rfl rfl rfl (by kernel_rfl) ⟨⟨1, _, by simp, rfl, shows_ownS hAx, seen_ownS hAx⟩, ⟨5, _, by simp, rfl, shows_ownS hAa, seen_ownS hAa⟩, trivial⟩ (fun _ => rfl) ?_
      rintro v H' ⟨rfl, rfl⟩
      refine ⟨rfl, ?_⟩
      refine JL_run [16] rfl ?_
      refine JL_set 183 (v' := .bool true) rfl (congrArg Value.bool (cdec_yes hxa)) ?_
      refine JL_run [24] rfl ?_
      refine JL_callR [24] (same_fn Ay cy gy 0 sy hAy' (by omega) Ab cb gb 0 sb hAb') rfl rfl rfl rfl (by kernel_rfl) ⟨⟨0, _, by simp, rfl, shows_ownS hAy, seen_ownS hAy⟩, ⟨4, _, by simp, rfl, shows_ownS hAb, seen_ownS hAb⟩, trivial⟩ (fun _ => rfl) ?_
      rintro v H' ⟨rfl, rfl⟩
      refine ⟨rfl, ?_⟩
      refine JL_run [16] rfl ?_
      refine JL_set 188 (v' := .bool true) rfl (congrArg Value.bool (cdec_yes hyb)) ?_
      refine JL_all [29, 32, 16] rfl ?_
      exact J_ret ⟨_, rfl, rfl⟩
    · refine ⟨rfl, ?_⟩
      refine JL_all [] rfl ?_
      (repeat' (first | refine J_seq ?_ | refine J_skip ?_ | refine J_yes rfl ?_ | refine J_no rfl ?_))
      refine J_region ?_
      refine JL_val [] (v := netV N A' c') (OpV_blk 4 rfl rfl rfl rfl) rfl ?_
      refine JL_run [] rfl ?_
      refine JL_callR [] (last_fn N hF hR A' c' g1 0 hA1' q (some ⟨gq, 0, none⟩) N.arcs.length gq 0 (fun _ => rfl) hqin (by omega) n hnd hq) rfl rfl rfl (by rw [hql]; rfl) (by kernel_rfl) ⟨⟨5, _, by simp, rfl, shows_ownS hA1, seen_ownS hA1⟩, ⟨0, _, by simp, rfl, shows_own, seen_ownS (fun _ => rfl)⟩, trivial⟩ (fun _ => rfl) ?_
      rintro v H' (⟨_, rfl, rfl⟩ | ⟨h, _⟩)
      case inr => exact absurd hyes h
      refine ⟨rfl, ?_⟩
      refine JL_all [] rfl ?_
      obtain ⟨ww, hww⟩ : ∃ ww, ww = exZ (N.arcs.zip q) N.snk := ⟨_, rfl⟩
      have hw : ww ≠ vv := by
        intro e
        have hcl := (closed_cut hR hq hcutA).1 (by omega)
        exact hcutA.snk (first_least hcutA hcl hql hyes)
      rw [← hww]
      (repeat' (first | refine J_seq ?_ | refine J_skip ?_ | refine J_yes rfl ?_ | refine J_no rfl ?_))
      refine J_region ?_
      refine JL_run [] rfl ?_
      refine JL_set 162 (v' := .bool true) rfl (congrArg Value.bool (cdec_yes hle)) ?_
      refine JL_run [3] rfl ?_
      refine JL_set 170 (v' := .bool true) rfl (congrArg Value.bool (by rw [cdec_no (by decide), cdec_no hw]; rfl)) ?_
      refine JL_run [11] rfl ?_
      refine JL_set 175 (v' := .bool true) rfl (congrArg Value.bool (cdec_yes rfl)) ?_
      refine JL_run [16] rfl ?_
      refine JL_set 178 (v' := .bool false) rfl (congrArg Value.bool (cdec_no (by decide))) ?_
      refine JL_run [19, 16] rfl ?_
      refine JL_run [24, 16] rfl ?_
      refine JL_run [29, 16] rfl ?_
      refine JL_set 191 (v' := .bool true) rfl (congrArg Value.bool (cdec_yes rfl)) ?_
      refine JL_run [32] rfl ?_
      refine JL_set 197 (v' := .bool true) rfl (congrArg Value.bool (cdec_yes (w64 (by omega)))) ?_
      refine JL_all [29, 16] rfl ?_
      exact J_ret ⟨_, rfl, rfl⟩
end Go.Proofs.Ytbhfbpeldcnpfaa
