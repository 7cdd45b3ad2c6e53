
/- CutWeak: no flow is worth more than any cut lets through. No condition. -/
import Derived.Test.YtopcgkbjijdabaaProveN
import Derived.Test.YtopcgkbjijdabaaLMoves
namespace Go.Proofs.Ytopcgkbjijdabaa
open Go.RowKit
open Classical in
noncomputable def crossF (s : List Int) (ps : List (Arc × Int)) : Int := (ps.map fun p => if p.1.fr ∈ s ∧ p.1.to ∉ s then p.2 else 0).sum
open Classical in
noncomputable def backF (s : List Int) (ps : List (Arc × Int)) : Int := (ps.map fun p => if p.1.fr ∉ s ∧ p.1.to ∈ s then p.2 else 0).sum
theorem outIn_split (s : List Int) : ∀ ps : List (Arc × Int), outIn s ps = crossF s ps - backF s ps
  | [] => by simp [outIn, crossF, backF]
  | p :: ps => by
    have ih := outIn_split s ps
    unfold outIn crossF backF at ih ⊢
    simp only [List.map_cons, List.sum_cons]
    by_cases h1 : p.1.fr ∈ s <;> by_cases h2 : p.1.to ∈ s <;> simp only [h1, h2, if_true, if_false, and_true, and_false, not_true, not_false_iff] <;> omega
theorem cross_le (s : List Int) : ∀ ps : List (Arc × Int), (∀ p ∈ ps, 0 ≤ p.2 ∧ p.2 ≤ p.1.cap) → 0 ≤ crossF s ps ∧ 0 ≤ backF s ps ∧ crossF s ps ≤ capZ s (ps.map (·.1)) ∧ backF s ps ≤ (ps.map (·.1.cap)).sum
  | [], _ => by simp [crossF, backF, capZ]
  | p :: ps, h => by
    have ih := cross_le s ps fun q hq => h q (by simp [hq])
    have hp := h p (by simp)
    unfold crossF backF capZ at *
    simp only [List.map_cons, List.sum_cons]
    by_cases h1 : p.1.fr ∈ s <;> by_cases h2 : p.1.to ∈ s <;> simp only [h1, h2, if_true, if_false, and_true, and_false, not_true, not_false_iff] <;> omega
def fAt (f : List Int) (i : Int) : Int := f.getD i.toNat 0
theorem zip_take {f : List Int} : ∀ {l : List Arc} {k : Nat} {a : Arc}, l[k]? = some a → f.length = l.length → (l.zip f).take (k + 1) = (l.zip f).take k ++ [(a, f.getD k 0)] := by
  intro l k a h hl
  have hk := (List.getElem?_eq_some_iff.1 h).1
  have hx : f[k]? = some (f.getD k 0) := by rw [List.getD_eq_getElem?_getD, List.getElem?_eq_getElem (by omega)]; rfl
  rw [List.take_add_one, show (l.zip f)[k]? = some (a, f.getD k 0) from List.getElem?_zip_eq_some.2 ⟨h, hx⟩]; rfl
theorem f_cross (N : Net) (f : List Int) (hl : f.length = N.arcs.length) (s : List Int) : ∀ k, k ≤ N.arcs.length → ((crossK N s k).map (fAt f)).sum = crossF s ((N.arcs.zip f).take k)
  | 0, _ => by simp [crossK, crossF]
  | k + 1, h => by
    obtain ⟨a, ha⟩ : ∃ a, N.arcs[k]? = some a := ⟨N.arcs[k], List.getElem?_eq_getElem (by omega)⟩
    have ih := f_cross N f hl s k (by omega)
    rw [crossK_succ ha, zip_take ha hl, List.map_append, List.sum_append, ih]
    unfold crossF
    rw [List.map_append, List.sum_append]
    congr 1
    by_cases h2 : a.fr ∈ s ∧ a.to ∉ s
    · simp only [if_pos h2, List.map_cons, List.map_nil, List.sum_cons, List.sum_nil]
      show fAt f (k : Int) + 0 = _
      unfold fAt; rw [Int.toNat_natCast]
    · simp only [if_neg h2, List.map_cons, List.map_nil, List.sum_cons, List.sum_nil]
      rfl
theorem mem_crossK {N : Net} {s : List Int} {k : Nat} {x : Int} (h : x ∈ crossK N s k) : ∃ (i : Nat) (a : Arc), x = i ∧ N.arcs[i]? = some a ∧ capAt N x = a.cap := by
  unfold crossK at h
  obtain ⟨i, hi, rfl⟩ := List.mem_map.1 h
  have hi2 := (List.mem_filter.1 hi).2
  cases ha : N.arcs[i]? with
  | none => rw [ha] at hi2; simp at hi2
  | some a => exact ⟨i, a, rfl, ha, by unfold capAt; rw [Int.toNat_natCast, ha]⟩
theorem part_sum {l : List Int} (h : ∀ x ∈ l, 0 ≤ x) (k : Nat) : 0 ≤ (l.take k).sum ∧ (l.take k).sum ≤ l.sum := by
  have e : (l.take k).sum + (l.drop k).sum = l.sum := by rw [← List.sum_append, List.take_append_drop]
  have h1 := sum_nonneg (l.take k) fun x hx => h x (List.mem_of_mem_take hx)
  have h2 := sum_nonneg (l.drop k) fun x hx => h x (List.mem_of_mem_drop hx)
  omega
set_option maxHeartbeats 1000000 in
theorem weak_fn (nodes : Int) (hn : inB nodes) (ends : Int) (he : inB ends) (A : Option Addr) (c b o : Nat) (l : List Arc) (hA : l ≠ [] → A = some ⟨b, o, none⟩) (hl : ∀ x ∈ l, inB x.fr ∧ inB x.to ∧ inB x.cap) (hs : l.length * 24 ≤ 140737488351232)
    (K : Option Addr) (ck bk ok : Nat) (ks : List Int) (hK : ks ≠ [] → K = some ⟨bk, ok, none⟩) (hks : ∀ x ∈ ks, inB x) (hkz : ks.length * 8 ≤ 140737488351232) (bits : Int) (_hbits : inB bits) :
    Fn 14 [.int .i64 nodes, .int .i64 ends, .slice A l.length c, .slice K ks.length ck, .int .i64 bits] [] [.seg b o (arcs l), .seg bk ok (ints ks)] fun v _ => v = .bool true := by
  refine Fn_of Try.func14 rfl rfl fun w0 => ?_
  (repeat' (first | refine J_seq ?_ | refine J_skip ?_ | refine J_yes rfl ?_ | refine J_no rfl ?_))
  refine J_region ?_
  refine JL_all [] rfl ?_
  (repeat' (first | refine J_seq ?_ | refine J_skip ?_ | refine J_yes rfl ?_ | refine J_no rfl ?_))
  refine J_region ?_
  refine JL_callR [] (shown14_fn) rfl rfl rfl rfl (by kernel_rfl) trivial (fun _ => rfl) ?_
  rintro v H' ⟨rfl, rfl⟩
  refine ⟨rfl, ?_⟩
  refine JL_all [] rfl ?_
  (repeat' (first | refine J_seq ?_ | refine J_skip ?_ | refine J_yes rfl ?_ | refine J_no rfl ?_))
  refine J_region ?_
  refine JL_all [] rfl ?_
  (repeat' (first | refine J_seq ?_ | refine J_skip ?_ | refine J_yes rfl ?_ | refine J_no rfl ?_))
  refine J_region ?_
  refine JL_run [] rfl ?_
  refine JL_callR [] (made14_fn nodes ends hn he A c b o l hA hl (by omega)) rfl rfl rfl rfl (by kernel_rfl) ⟨⟨0, _, by simp, rfl, shows_seg _ _ _, seen_seg⟩, trivial⟩ (fun _ => rfl) ?_
  rintro v H' ⟨N, A', c', hR, hn9, h24, hcap, rfl, rfl⟩
  refine ⟨rfl, ?_⟩
  refine JL_alloc rfl rfl rfl (fun _ => rfl) fun b12 => ?_
  refine JL_store 0 rfl rfl rfl rfl rfl [] rfl ?_
  refine JL_know (own_is 1 rfl) fun ⟨_, _, hA1, hl1⟩ => ?_
  obtain ⟨g1, hA1⟩ := own_at hA1 hl1
  have hA1' : N.arcs ≠ [] → A' = some ⟨g1, 0, none⟩ := fun h => hA1 (fun h0 => h (List.length_eq_zero_iff.1 (by have := arcs_length N.arcs; rw [h0] at this; simp at this; omega)))
  have hF := fits_of hR fun a ha => by have := hcap a ha; omega
  have hnn := hR.nodes
  have hsr := hR.src
  have hsk := hR.snk
  refine JL_nil ?_
  (repeat' (first | refine J_seq ?_ | refine J_skip ?_ | refine J_yes rfl ?_ | refine J_no rfl ?_))
  refine J_region ?_
  refine JL_val [] (v := netV N A' c') (OpV_blk 0 rfl rfl rfl rfl) rfl ?_
  refine JL_run [] rfl ?_
  refine JL_callR [] (routed_fn N hR A' c' g1 0 hA1' K ck bk ok ks hK hks hkz) rfl rfl rfl rfl (by kernel_rfl) ⟨⟨1, _, by simp, rfl, shows_ownS hA1, seen_ownS hA1⟩, ⟨3, _, by simp, rfl, shows_seg _ _ _, seen_seg⟩, trivial⟩ (fun _ => rfl) ?_
  rintro v H' ⟨f, gf, rfl, rfl, hf⟩
  refine ⟨rfl, ?_⟩
  refine JL_all [] rfl ?_
  have hfl := hf.len
  have hfin := IsFlow.inB hR hf.toRanged
  (repeat' (first | refine J_seq ?_ | refine J_skip ?_ | refine J_yes rfl ?_ | refine J_no rfl ?_))
  refine J_region ?_
  refine JL_val [] (v := netV N A' c') (OpV_blk 1 rfl rfl rfl rfl) rfl ?_
  refine JL_run [] rfl ?_
  refine JL_callR [] (some_fn N hR A' c' bits) rfl rfl rfl rfl (by kernel_rfl) trivial (fun _ => rfl) ?_
  rintro v H' ⟨s, A2, c2, hcut, hsl, rfl, rfl⟩
  refine ⟨rfl, ?_⟩
  refine JL_all [] rfl ?_
  refine J_know (own_is 0 rfl) fun ⟨_, _, hA2, hl2⟩ => ?_
  obtain ⟨g2, hA2⟩ := own_at hA2 hl2
  have hA2' : s ≠ [] → A2 = some ⟨g2, 0, none⟩ := fun h => hA2 (by simpa [ints] using h)
  (repeat' (first | refine J_seq ?_ | refine J_skip ?_ | refine J_yes rfl ?_ | refine J_no rfl ?_))
  refine J_region ?_
  refine JL_val [] (v := netV N A' c') (OpV_blk 2 rfl rfl rfl rfl) rfl ?_
  refine JL_run [] rfl ?_
  refine JL_callR [] (capacity_fn N hF hR A' c' g1 0 hA1' s hcut (by omega) A2 c2 g2 0 hA2') rfl rfl rfl rfl (by kernel_rfl) ⟨⟨3, _, by simp, rfl, shows_ownS hA1, seen_ownS hA1⟩, ⟨0, _, by simp, rfl, shows_ownS hA2, seen_ownS hA2⟩, trivial⟩ (fun _ => rfl) ?_
  rintro v H' ⟨rfl, rfl⟩
  refine ⟨rfl, ?_⟩
  refine JL_all [] rfl ?_
  (repeat' (first | refine J_seq ?_ | refine J_skip ?_ | refine J_yes rfl ?_ | refine J_no rfl ?_))
  refine J_region ?_
  refine JL_val [] (v := netV N A' c') (OpV_blk 2 rfl rfl rfl rfl) rfl ?_
  refine JL_run [] rfl ?_
  refine JL_callR [] (cutarcs_fn N hF hR A' c' g1 0 hA1' s hcut (by omega) A2 c2 g2 0 hA2') rfl rfl rfl rfl (by kernel_rfl) ⟨⟨3, _, by simp, rfl, shows_ownS hA1, seen_ownS hA1⟩, ⟨0, _, by simp, rfl, shows_ownS hA2, seen_ownS hA2⟩, trivial⟩ (fun _ => rfl) ?_
  rintro v H' ⟨A3, c3, rfl, rfl⟩
  refine ⟨rfl, ?_⟩
  refine JL_all [] rfl ?_
  obtain ⟨lc, hlc⟩ : ∃ lc, lc = crossK N s N.arcs.length := ⟨_, rfl⟩
  have hlcl := crossK_length N s N.arcs.length
  rw [← hlc] at hlcl ⊢
  refine J_know (own_is 0 rfl) fun ⟨_, _, hA3, _⟩ => ?_
  (repeat' (first | refine J_seq ?_ | refine J_skip ?_ | refine J_yes rfl ?_ | refine J_no rfl ?_))
  refine J_region ?_
  refine JL_val [] (v := netV N A' c') (OpV_blk 3 rfl rfl rfl rfl) rfl ?_
  refine JL_run [] rfl ?_
  refine JL_callR [] (fvalue_fn N hF hR A' c' g1 0 hA1' f (some ⟨gf, 0, none⟩) N.arcs.length gf 0 (fun _ => rfl) hfin (by omega)) rfl rfl rfl (by rw [hfl]; rfl) (by kernel_rfl) ⟨⟨4, _, by simp, rfl, shows_ownS hA1, seen_ownS hA1⟩, ⟨2, _, by simp, rfl, shows_own, seen_ownS (fun _ => rfl)⟩, trivial⟩ (fun _ => rfl) ?_
  rintro v H' ⟨⟨rfl, _⟩ | ⟨_, h⟩, rfl⟩
  case inr => exact absurd hf h
  refine ⟨rfl, ?_⟩
  refine JL_all [] rfl ?_
  have hval := value_cut hR hf hcut
  have hsp := outIn_split s (N.arcs.zip f)
  have hzm : (N.arcs.zip f).map (·.1) = N.arcs := List.map_fst_zip (by omega)
  obtain ⟨p0, p1, p2, p3⟩ := cross_le s (N.arcs.zip f) hf.all
  have hsum := hR.sum
  rw [hzm] at p2
  have hzc : (N.arcs.zip f).map (·.1.cap) = N.arcs.map (·.cap) := by
    rw [← hzm, List.map_map, hzm]; rfl
  rw [hzc] at p3
  have hcz := capZ_in hR s
  obtain ⟨vv, hvv⟩ : ∃ vv, vv = exZ (N.arcs.zip f) N.snk := ⟨_, rfl⟩
  obtain ⟨cc, hcc⟩ : ∃ cc, cc = capZ s N.arcs := ⟨_, rfl⟩
  rw [← hvv, ← hcc]
  rw [← hvv] at hval
  rw [← hcc] at p2 hcz
  have hle : vv ≤ cc := by omega
  (repeat' (first | refine J_seq ?_ | refine J_skip ?_ | refine J_yes rfl ?_ | refine J_no rfl ?_))
  refine J_region ?_
  refine JL_run [] rfl ?_
  refine JL_set 59 (v' := .bool false) rfl (congrArg Value.bool (cdec_no (fun h => h rfl))) ?_
  refine JL_run [2] rfl ?_
  refine JL_set 63 (v' := .bool false) rfl (congrArg Value.bool (cdec_no (fun h => h rfl))) ?_
  refine JL_run [2, 6] rfl ?_
  refine JL_set 67 (v' := .bool false) rfl (congrArg Value.bool (cdec_no (fun h => h rfl))) ?_
  refine JL_all [10] rfl ?_
  refine J_dec rfl (fun h => absurd h (by omega)) (fun _ => J_skip ?_)
  (repeat' (first | refine J_seq ?_ | refine J_skip ?_ | refine J_yes rfl ?_ | refine J_no rfl ?_))
  refine J_region ?_
  refine JL_all [] rfl ?_
  (repeat' (first | refine J_seq ?_ | refine J_skip ?_ | refine J_yes rfl ?_ | refine J_no rfl ?_))
  refine J_region ?_
  refine JL_all [] rfl ?_
  (repeat' (first | refine J_seq ?_ | refine J_skip ?_ | refine J_yes rfl ?_ | refine J_no rfl ?_))
  refine J_region ?_
  refine JL_all [] rfl ?_
  (repeat' (first | refine J_seq ?_ | refine J_skip ?_ | refine J_yes rfl ?_ | refine J_no rfl ?_))
  refine J_block ?_
  have hm1 : ∀ x ∈ lc.map (capAt N), 0 ≤ x := by
    intro x hx
    obtain ⟨y, hy, rfl⟩ := List.mem_map.1 hx
    obtain ⟨i, a, _, ha, e⟩ := mem_crossK (hlc ▸ hy)
    rw [e]; exact (hR.arc a (List.mem_of_getElem? ha)).2.2
  have hfx : ∀ (i : Nat) (a : Arc), N.arcs[i]? = some a → f[i]? = some (f.getD i 0) ∧ 0 ≤ f.getD i 0 := by
    intro i a ha
    have hi := (List.getElem?_eq_some_iff.1 ha).1
    have h1 : f[i]? = some (f.getD i 0) := by rw [List.getD_eq_getElem?_getD, List.getElem?_eq_getElem (by omega)]; rfl
    exact ⟨h1, (hf.all (a, f.getD i 0) (List.mem_of_getElem? (List.getElem?_zip_eq_some.2 ⟨ha, h1⟩))).1⟩
  have hm2 : ∀ x ∈ lc.map (fAt f), 0 ≤ x := by
    intro x hx
    obtain ⟨y, hy, rfl⟩ := List.mem_map.1 hx
    obtain ⟨i, a, rfl, ha, e⟩ := mem_crossK (hlc ▸ hy)
    unfold fAt; rw [Int.toNat_natCast]; exact (hfx i a ha).2
  have ht1 : (lc.map (capAt N)).sum = cc := by rw [hlc, cap_cross N s _ (Nat.le_refl _), List.take_length, hcc]
  have ht2 : (lc.map (fAt f)).sum = crossF s (N.arcs.zip f) := by rw [hlc, f_cross N f hfl s _ (Nat.le_refl _), List.take_of_length_le (by simp; omega)]
  refine J_loop (σ := Nat) (fun k => [(23, .int .i64 k), (22, .int .i64 ((lc.map (capAt N)).take k).sum), (21, .int .i64 ((lc.map (fAt f)).take k).sum), (19, .int .i64 vv), (17, .slice A3 lc.length c3), (15, .int .i64 cc), (14, .slice A2 s.length c2), (13, .slice (some ⟨gf, 0, none⟩) N.arcs.length N.arcs.length), (12, .pointer (some ⟨b12, 0, none⟩))])
    (fun k => [.own (.slice A3 lc.length c3) 3 1 lc.length (ints lc), .own (.slice A2 s.length c2) 3 1 s.length (ints s), .own (.slice (some ⟨gf, 0, none⟩) N.arcs.length N.arcs.length) 2 1 N.arcs.length (ints f), blk b12 39 (netC N A' c'), .own (.slice A' N.arcs.length c') 43 3 N.arcs.length (arcs N.arcs)])
    (fun k => k ≤ lc.length) (fun k => lc.length - k)
    0 [0, 1, 2, 3, 4] ⟨rfl, rfl, rfl, rfl, rfl, rfl, rfl, rfl, rfl, trivial⟩ (by decide) rfl (Nat.zero_le _) ?_
  intro k hk
  (repeat' (first | refine J_seq ?_ | refine J_skip ?_ | refine J_yes rfl ?_ | refine J_no rfl ?_))
  refine J_region ?_
  refine JL_all [] rfl ?_
  refine J_dec rfl (fun hlt => J_skip ?_) (fun hge => J_exit ?_)
  · have hlt : k < lc.length := by omega
    obtain ⟨x, hx⟩ : ∃ x, lc[k]? = some x := ⟨lc[k], List.getElem?_eq_getElem hlt⟩
    obtain ⟨i, a, rfl, ha, hca⟩ := mem_crossK (hlc ▸ List.mem_of_getElem? hx)
    have hil := (List.getElem?_eq_some_iff.1 ha).1
    obtain ⟨hfi, hf0⟩ := hfx i a ha
    obtain ⟨_, _, q2⟩ := arcs_get ha
    obtain ⟨g3, rfl⟩ := hA3 (by omega)
    obtain rfl := hA1' (by intro h0; rw [h0] at hil; simp at hil)
    have k1 := part_sum hm1 (k + 1)
    have k2 := part_sum hm2 (k + 1)
    have e1 : ((lc.map (capAt N)).take (k + 1)).sum = ((lc.map (capAt N)).take k).sum + a.cap := by
      rw [List.take_add_one, List.getElem?_map, hx, List.sum_append]; simp [hca]
    have e2 : ((lc.map (fAt f)).take (k + 1)).sum = ((lc.map (fAt f)).take k).sum + f.getD i 0 := by
      rw [List.take_add_one, List.getElem?_map, hx, List.sum_append]; simp [fAt]
    refine J_seq (J_block ?_)
    (repeat' (first | refine J_seq ?_ | refine J_skip ?_ | refine J_yes rfl ?_ | refine J_no rfl ?_))
    refine J_region ?_
    refine JL_run [] rfl ?_
    refine JL_val [] (idx1z rfl rfl rfl rfl rfl hlt) rfl ?_
    refine JL_val [] (OpV_own (v := .int .i64 (i : Int)) 0 rfl rfl rfl (ints_get hx)) rfl ?_
    refine JL_val [] (idx1z rfl rfl rfl rfl rfl hil) rfl ?_
    refine JL_val [] (OpV_own 2 rfl rfl rfl (readT_int hfi)) rfl ?_
    refine JL_all [] rfl ?_
    refine J_set 21 (v' := .int .i64 ((lc.map (fAt f)).take (k + 1)).sum) rfl (congrArg (Value.int .i64) ((w64 (by omega)).trans e2.symm)) ?_
    (repeat' (first | refine J_seq ?_ | refine J_skip ?_ | refine J_yes rfl ?_ | refine J_no rfl ?_))
    refine J_walk 12 [(0, true), (1, true), (2, true), (3, true), (4, true), (5, true), (6, true), (7, true), (8, true), (9, true), (10, true), (11, true)] [0, 1, 2, 3, 4] (by kernel_rfl) (by decide) rfl ?_
    refine JW_run [] rfl ?_
    (first | refine JW_still [] rfl (OpV_blk 0 rfl rfl rfl rfl) rfl ?_ | refine JW_still [] rfl (OpV_blk 1 rfl rfl rfl rfl) rfl ?_ | refine JW_still [] rfl (OpV_blk 2 rfl rfl rfl rfl) rfl ?_ | refine JW_still [] rfl (OpV_blk 3 rfl rfl rfl rfl) rfl ?_ | refine JW_still [] rfl (OpV_blk 4 rfl rfl rfl rfl) rfl ?_ | refine JW_still [] rfl (OpV_blk 5 rfl rfl rfl rfl) rfl ?_)
    refine JW_run [] rfl ?_
    refine JW_still [] rfl (idx1z rfl rfl rfl rfl rfl hlt) rfl ?_
    refine JW_still [] rfl (OpV_own (v := .int .i64 (i : Int)) 0 rfl rfl rfl (ints_get hx)) rfl ?_
    refine JW_still [] rfl (idxNz rfl rfl rfl rfl rfl hil) rfl ?_
    refine JW_run [] rfl ?_
    refine JW_still [] rfl (OpV_own 4 rfl rfl rfl q2) rfl ?_
    refine JW_all [] rfl ?_
    refine JL_nil ?_
    refine J_set 22 (v' := .int .i64 ((lc.map (capAt N)).take (k + 1)).sum) rfl (congrArg (Value.int .i64) ((w64 (by omega)).trans e1.symm)) ?_
    (repeat' (first | refine J_seq ?_ | refine J_skip ?_ | refine J_yes rfl ?_ | refine J_no rfl ?_))
    refine J_region ?_
    refine JL_all [] rfl ?_
    refine ⟨k + 1, [0, 1, 2, 3, 4], ⟨?_, rfl, rfl, rfl, rfl, rfl, rfl, rfl, rfl, trivial⟩, by decide, rfl, by omega, by omega⟩
    show some (Value.int .i64 (IntKind.i64.wrap ((k : Int) + 1))) = _
    rw [w64 (by omega)]; rfl
  · obtain rfl : k = lc.length := by omega
    rw [List.take_of_length_le (by simp : (lc.map (capAt N)).length ≤ lc.length), List.take_of_length_le (by simp : (lc.map (fAt f)).length ≤ lc.length), ht1, ht2]
    (repeat' (first | refine J_seq ?_ | refine J_skip ?_ | refine J_yes rfl ?_ | refine J_no rfl ?_))
    refine J_region ?_
    refine JL_all [] rfl ?_
    refine J_block ?_
    refine J_loop (σ := Nat) (fun k => [(24, .int .i64 k), (22, .int .i64 cc), (21, .int .i64 (crossF s (N.arcs.zip f) - backF s ((N.arcs.zip f).take k))), (19, .int .i64 vv), (17, .slice A3 lc.length c3), (15, .int .i64 cc), (14, .slice A2 s.length c2), (13, .slice (some ⟨gf, 0, none⟩) N.arcs.length N.arcs.length), (12, .pointer (some ⟨b12, 0, none⟩))])
      (fun k => [.own (.slice A2 s.length c2) 3 1 s.length (ints s), .own (.slice (some ⟨gf, 0, none⟩) N.arcs.length N.arcs.length) 2 1 N.arcs.length (ints f), blk b12 39 (netC N A' c'), .own (.slice A' N.arcs.length c') 43 3 N.arcs.length (arcs N.arcs)])
      (fun k => k ≤ N.arcs.length) (fun k => N.arcs.length - k)
      0 [1, 2, 3, 4] ⟨rfl, rfl, by simp [backF]; rfl, rfl, rfl, rfl, rfl, rfl, rfl, trivial⟩ (by decide) rfl (Nat.zero_le _) ?_
    intro k hk
    (repeat' (first | refine J_seq ?_ | refine J_skip ?_ | refine J_yes rfl ?_ | refine J_no rfl ?_))
    refine J_region ?_
    refine JL_run [] rfl ?_
    (first | refine JL_val [] (OpV_blk 0 rfl rfl rfl rfl) rfl ?_ | refine JL_val [] (OpV_blk 1 rfl rfl rfl rfl) rfl ?_ | refine JL_val [] (OpV_blk 2 rfl rfl rfl rfl) rfl ?_ | refine JL_val [] (OpV_blk 3 rfl rfl rfl rfl) rfl ?_ | refine JL_val [] (OpV_blk 4 rfl rfl rfl rfl) rfl ?_ | refine JL_val [] (OpV_blk 5 rfl rfl rfl rfl) rfl ?_ | refine JL_val [] (OpV_blk 6 rfl rfl rfl rfl) rfl ?_ | refine JL_val [] (OpV_blk 7 rfl rfl rfl rfl) rfl ?_)
    refine JL_all [] rfl ?_
    refine J_dec rfl (fun hlt => J_skip ?_) (fun hge => J_exit ?_)
    · have hil : k < N.arcs.length := by omega
      obtain ⟨a, ha⟩ : ∃ a, N.arcs[k]? = some a := ⟨N.arcs[k], List.getElem?_eq_getElem hil⟩
      obtain ⟨hfi, hf0⟩ := hfx k a ha
      have hfc := (hf.all (a, f.getD k 0) (List.mem_of_getElem? (List.getElem?_zip_eq_some.2 ⟨ha, hfi⟩))).2
      simp only at hfc
      have hac := hcap a (List.mem_of_getElem? ha)
      obtain ⟨q0, q1, q2⟩ := arcs_get ha
      obtain rfl := hA1' (by intro h0; rw [h0] at hil; simp at hil)
      have hzt := zip_take ha hfl
      obtain ⟨_, r1, _, r3⟩ := cross_le s ((N.arcs.zip f).take k) fun p hp => hf.all p (List.mem_of_mem_take hp)
      have r4 : (((N.arcs.zip f).take k).map (·.1.cap)).sum ≤ (N.arcs.map (·.cap)).sum := by
        rw [← hzc, List.map_take]
        exact (part_sum (fun x hx => by
          obtain ⟨q, hq, rfl⟩ := List.mem_map.1 hx
          have := hf.all q hq
          omega) k).2
      have hstep : backF s ((N.arcs.zip f).take (k + 1)) = backF s ((N.arcs.zip f).take k) + if a.fr ∉ s ∧ a.to ∈ s then f.getD k 0 else 0 := by
        rw [hzt]; unfold backF; rw [List.map_append, List.sum_append]; simp
      have Hf := has_fn A2 c2 g2 0 s hA2' (by omega) a.fr
      have Ht := has_fn A2 c2 g2 0 s hA2' (by omega) a.to
      have hq : IntKind.i64.wrap ((k : Int) + 1) = ((k + 1 : Nat) : Int) := w64 (by omega)
      refine J_seq (J_block ?_)
      refine J_cut [(123, .bool (cdec (a.fr ∉ s ∧ a.to ∈ s))), (24, .int .i64 k), (22, .int .i64 cc), (21, .int .i64 (crossF s (N.arcs.zip f) - backF s ((N.arcs.zip f).take k))), (19, .int .i64 vv), (17, .slice A3 lc.length c3), (15, .int .i64 cc), (14, .slice A2 s.length c2), (13, .slice (some ⟨gf, 0, none⟩) N.arcs.length N.arcs.length), (12, .pointer (some ⟨b12, 0, none⟩))]
        [.own (.slice A2 s.length c2) 3 1 s.length (ints s), .own (.slice (some ⟨gf, 0, none⟩) N.arcs.length N.arcs.length) 2 1 N.arcs.length (ints f), blk b12 39 (netC N (some ⟨g1, 0, none⟩) c'), .own (.slice (some ⟨g1, 0, none⟩) N.arcs.length c') 43 3 N.arcs.length (arcs N.arcs)] ?_ ?_
      · (repeat' (first | refine J_seq ?_ | refine J_skip ?_ | refine J_yes rfl ?_ | refine J_no rfl ?_))
        refine J_region ?_
        refine JL_run [] rfl ?_
        (first | refine JL_val [] (OpV_blk 0 rfl rfl rfl rfl) rfl ?_ | refine JL_val [] (OpV_blk 1 rfl rfl rfl rfl) rfl ?_ | refine JL_val [] (OpV_blk 2 rfl rfl rfl rfl) rfl ?_ | refine JL_val [] (OpV_blk 3 rfl rfl rfl rfl) rfl ?_ | refine JL_val [] (OpV_blk 4 rfl rfl rfl rfl) rfl ?_ | refine JL_val [] (OpV_blk 5 rfl rfl rfl rfl) rfl ?_ | refine JL_val [] (OpV_blk 6 rfl rfl rfl rfl) rfl ?_ | refine JL_val [] (OpV_blk 7 rfl rfl rfl rfl) rfl ?_)
        refine JL_run [] rfl ?_
        refine JL_val [] (idxNz rfl rfl rfl rfl rfl hil) rfl ?_
        refine JL_run [] rfl ?_
        refine JL_val [] (OpV_own 3 rfl rfl rfl q0) rfl ?_
        refine JL_callR [] Hf rfl rfl rfl rfl (by kernel_rfl) ⟨⟨0, _, by simp, rfl, shows_ownS hA2, seen_ownS hA2⟩, trivial⟩ (fun _ => rfl) ?_
        rintro v H' ⟨rfl, rfl⟩
        refine ⟨rfl, ?_⟩
        refine JL_run [] rfl ?_
        by_cases h1 : a.fr ∈ s
        · refine JL_set 114 (v' := .bool false) rfl (congrArg Value.bool (by rw [cdec_yes h1]; rfl)) ?_
          refine JL_all [9] rfl ?_
          exact ⟨[0, 1, 2, 3], ⟨congrArg some (congrArg Value.bool (cdec_no (fun h => h.1 h1)).symm), rfl, rfl, rfl, rfl, rfl, rfl, rfl, rfl, rfl, trivial⟩, by decide, rfl⟩
        · refine JL_set 114 (v' := .bool true) rfl (congrArg Value.bool (by rw [cdec_no h1]; rfl)) ?_
          refine JL_run [9] rfl ?_
          (first | refine JL_val [9] (OpV_blk 0 rfl rfl rfl rfl) rfl ?_ | refine JL_val [9] (OpV_blk 1 rfl rfl rfl rfl) rfl ?_ | refine JL_val [9] (OpV_blk 2 rfl rfl rfl rfl) rfl ?_ | refine JL_val [9] (OpV_blk 3 rfl rfl rfl rfl) rfl ?_ | refine JL_val [9] (OpV_blk 4 rfl rfl rfl rfl) rfl ?_ | refine JL_val [9] (OpV_blk 5 rfl rfl rfl rfl) rfl ?_ | refine JL_val [9] (OpV_blk 6 rfl rfl rfl rfl) rfl ?_ | refine JL_val [9] (OpV_blk 7 rfl rfl rfl rfl) rfl ?_)
          refine JL_run [9] rfl ?_
          refine JL_val [9] (idxNz rfl rfl rfl rfl rfl hil) rfl ?_
          refine JL_run [9] rfl ?_
          refine JL_val [9] (OpV_own 3 rfl rfl rfl q1) rfl ?_
          refine JL_callR [9] Ht rfl rfl rfl rfl (by kernel_rfl) ⟨⟨0, _, by simp, rfl, shows_ownS hA2, seen_ownS hA2⟩, trivial⟩ (fun _ => rfl) ?_
          rintro v H' ⟨rfl, rfl⟩
          refine ⟨rfl, ?_⟩
          refine JL_all [9] rfl ?_
          exact ⟨[0, 1, 2, 3], ⟨congrArg some (congrArg Value.bool (cdec_iff ⟨fun h => ⟨h1, h⟩, fun h => h.2⟩)), rfl, rfl, rfl, rfl, rfl, rfl, rfl, rfl, rfl, trivial⟩, by decide, rfl⟩
      · refine J_dec rfl (fun hp => ?_) (fun hp => J_skip ?_)
        · rw [if_pos hp] at hstep
          refine J_region (JL_run [] rfl ?_)
          refine JL_val [] (idx1z rfl rfl rfl rfl rfl hil) rfl ?_
          refine JL_val [] (OpV_own 1 rfl rfl rfl (readT_int hfi)) rfl ?_
          refine JL_all [] rfl ?_
          (repeat' (first | refine J_seq ?_ | refine J_skip ?_ | refine J_yes rfl ?_ | refine J_no rfl ?_))
          refine J_region ?_
          refine JL_all [] rfl ?_
          refine ⟨k + 1, [0, 1, 2, 3], ⟨congrArg some (congrArg (Value.int .i64) hq), rfl, ?_, rfl, rfl, rfl, rfl, rfl, rfl, trivial⟩, by decide, rfl, by omega, by omega⟩
          exact congrArg some (congrArg (Value.int .i64) ((w64 (by omega)).trans (by rw [hstep]; omega)))
        · rw [if_neg hp] at hstep
          (repeat' (first | refine J_seq ?_ | refine J_skip ?_ | refine J_yes rfl ?_ | refine J_no rfl ?_))
          refine J_region ?_
          refine JL_all [] rfl ?_
          refine ⟨k + 1, [0, 1, 2, 3], ⟨congrArg some (congrArg (Value.int .i64) hq), rfl, ?_, rfl, rfl, rfl, rfl, rfl, rfl, trivial⟩, by decide, rfl, by omega, by omega⟩
          exact congrArg some (congrArg (Value.int .i64) (by rw [hstep]; omega))
    · obtain rfl : k = N.arcs.length := by omega
      rw [List.take_of_length_le (by simp; omega : (N.arcs.zip f).length ≤ N.arcs.length), ← hsp, ← hval]
      (repeat' (first | refine J_seq ?_ | refine J_skip ?_ | refine J_yes rfl ?_ | refine J_no rfl ?_))
      refine J_region ?_
      refine JL_val [] (v := netV N A' c') (OpV_blk 2 rfl rfl rfl rfl) rfl ?_
      refine JL_run [] rfl ?_
      refine JL_callR [] (prove_fn N hF hR A' c' g1 0 hA1' f hf (some ⟨gf, 0, none⟩) N.arcs.length gf 0 (fun _ => rfl) s hcut (by omega) A2 c2 g2 0 hA2') rfl rfl rfl (by rw [hfl]; rfl) (by kernel_rfl) ⟨⟨3, _, by simp, rfl, shows_ownS hA1, seen_ownS hA1⟩, ⟨1, _, by simp, rfl, shows_own, seen_ownS (fun _ => rfl)⟩, ⟨0, _, by simp, rfl, shows_ownS hA2, seen_ownS hA2⟩, trivial⟩ (fun _ => rfl) ?_
      rintro v H' ⟨rfl, rfl⟩
      refine ⟨rfl, ?_⟩
      refine JL_all [] rfl ?_
      rw [← hvv, ← hcc]
      (repeat' (first | refine J_seq ?_ | refine J_skip ?_ | refine J_yes rfl ?_ | refine J_no rfl ?_))
      refine J_region ?_
      refine JL_run [] rfl ?_
      refine JL_set 137 (v' := .bool true) rfl (congrArg Value.bool (cdec_yes rfl)) ?_
      refine JL_run [3] rfl ?_
      refine JL_set 142 (v' := .bool true) rfl (congrArg Value.bool (cdec_yes rfl)) ?_
      by_cases hvc : vv = cc
      · rw [if_pos hvc]
        refine JL_run [8] rfl ?_
        refine JL_set 150 (v' := .bool true) rfl (congrArg Value.bool (by rw [cdec_yes rfl, cdec_yes hvc]; rfl)) ?_
        refine JL_run [16] rfl ?_
        refine JL_set 153 (v' := .bool true) rfl (congrArg Value.bool (cdec_yes rfl)) ?_
        refine JL_all [16, 19] rfl ?_
        exact J_ret ⟨_, rfl, rfl⟩
      · rw [if_neg hvc]
        refine JL_run [8] rfl ?_
        refine JL_set 150 (v' := .bool true) rfl (congrArg Value.bool (by rw [cdec_no (by decide), cdec_no hvc]; rfl)) ?_
        refine JL_run [16] rfl ?_
        refine JL_set 153 (v' := .bool false) rfl (congrArg Value.bool (cdec_no (by decide))) ?_
        refine JL_all [16, 19] rfl ?_
        exact J_ret ⟨_, rfl, congrArg Value.bool (cdec_yes rfl)⟩
end Go.Proofs.Ytopcgkbjijdabaa
