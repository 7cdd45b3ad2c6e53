
/- MatchPath: along a path of nodes every second edge is paired. No condition. -/
import Derived.Test.YtbhfbpeldcnpfaaMatchP
import Derived.Test.YtbhfbpeldcnpfaaWords16
import Derived.Test.YtbhfbpeldcnpfaaRwM
namespace Go.Proofs.Ytbhfbpeldcnpfaa
open Go.RowKit
def ex16 : Gr := ⟨2, 2, [⟨1, 1⟩, ⟨1, 2⟩, ⟨2, 1⟩]⟩
theorem ex16_right : ex16.Right := ⟨by decide, by decide, by decide, fun e he => (by
  simp only [ex16, List.mem_cons, List.not_mem_nil, or_false] at he
  rcases he with rfl | rfl | rfl <;> decide)⟩
theorem ex16_match : IsMatch ex16 [1, 2] := by
  refine ⟨by decide, fun x hx => ?_, ?_⟩
  · simp only [List.mem_cons, List.not_mem_nil, or_false] at hx
    rcases hx with rfl | rfl <;> decide
  · rw [List.pairwise_cons]
    refine ⟨fun y hy a b ha hb => ?_, List.pairwise_singleton _ _⟩
    rw [List.mem_singleton.1 hy] at hb
    have e1 : (⟨1, 2⟩ : Edg) = a := Option.some.inj ha
    have e2 : (⟨2, 1⟩ : Edg) = b := Option.some.inj hb
    rw [← e1, ← e2]
    decide
theorem ex16_only {l : List Int} (h : IsMatch ex16 l) (h2 : 2 ≤ l.length) : l = [1, 2] := by
  have hr : ∀ x ∈ l, 0 ≤ x ∧ x < 3 := h.rng
  have g0 : ex16.edges[(0 : Int).toNat]? = some ⟨1, 1⟩ := rfl
  have g1 : ex16.edges[(1 : Int).toNat]? = some ⟨1, 2⟩ := rfl
  have g2 : ex16.edges[(2 : Int).toNat]? = some ⟨2, 1⟩ := rfl
  match l, h, h2, hr with
  | a :: b :: r, h, _, hr =>
    have hab := (List.pairwise_cons.1 h.rise).1
    have hap := (List.pairwise_cons.1 h.apart).1
    have a1 := hr a (by simp)
    have a0 : a ≠ 0 := by
      rintro rfl
      have b1 := hab b (by simp)
      have b2 := hr b (by simp)
      have hb : b = 1 ∨ b = 2 := by omega
      rcases hb with rfl | rfl
      · exact absurd (hap 1 (by simp) _ _ g0 g1) (by decide)
      · exact absurd (hap 2 (by simp) _ _ g0 g2) (by decide)
    have b1 := hab b (by simp)
    have b2 := hr b (by simp)
    obtain rfl : a = 1 := by omega
    obtain rfl : b = 2 := by omega
    match r, h, hr with
    | [], _, _ => rfl
    | c :: r, h, hr =>
      have c1 := (List.pairwise_cons.1 (List.pairwise_cons.1 h.rise).2).1 c (by simp)
      have c2 := hr c (by simp)
      omega
theorem shown16_fn : Fn 34 [] [] [] fun v H' => v = .bool true ∧ H' = [] := by
  refine Fn_of Try.func34 rfl rfl fun w0 => ?_
  (repeat' (first | refine J_seq ?_ | refine J_skip ?_ | refine J_yes rfl ?_ | refine J_no rfl ?_))
  refine J_region ?_
  refine JL_all [] rfl ?_
  (repeat' (first | refine J_seq ?_ | refine J_skip ?_ | refine J_yes rfl ?_ | refine J_no rfl ?_))
  refine J_region ?_
  refine JL_val [] (OpV_build rfl rfl rfl rfl rfl rfl) rfl ?_
  refine JL_val [] (OpV_build rfl rfl rfl rfl rfl rfl) rfl ?_
  refine JL_val [] (OpV_build rfl rfl rfl rfl rfl rfl) rfl ?_
  refine JL_lit rfl rfl rfl rfl rfl rfl rfl (fun _ => rfl) fun g => ?_
  refine JL_val [] (OpV_build rfl rfl rfl rfl rfl rfl) rfl ?_
  refine JL_callR [] (pairs_fn ex16 ex16_right (some ⟨g, 0, none⟩) 3 g 0 (fun _ => rfl) 2 rfl) rfl rfl rfl rfl (by kernel_rfl) ⟨⟨0, _, by simp, rfl, shows_blk _ _ _ (0, 0), .inr rfl⟩, trivial⟩ (fun _ => rfl) ?_
  rintro v H' ⟨f, A', c', hf, rfl, rfl⟩
  refine ⟨rfl, ?_⟩
  have hb := pairs_best ex16_right hf (nl := 2) (nr := 2) rfl rfl
  have hlist := ex16_only hb.1 (hb.2 _ ex16_match)
  rw [hlist]
  refine JL_know (own_is 0 rfl) fun ⟨_, _, hA, hl1⟩ => ?_
  obtain ⟨g3, hA⟩ := own_at hA hl1
  refine JL_all [] rfl ?_
  (repeat' (first | refine J_seq ?_ | refine J_skip ?_ | refine J_yes rfl ?_ | refine J_no rfl ?_))
  refine J_region ?_
  refine JL_run [] rfl ?_
  refine JL_set 14 (v' := .bool true) rfl (congrArg Value.bool (cdec_yes rfl)) ?_
  refine JL_run [2] rfl ?_
  refine JL_litG [2] rfl rfl rfl rfl rfl rfl rfl (fun _ => rfl) fun g4 => ?_
  refine JL_callR [2] (same16_fn A' c' g3 0 [1, 2] (fun _ => hA (by decide)) (by decide) (some ⟨g4, 0, none⟩) 2 g4 0 [1, 2] (fun _ => rfl)) rfl rfl rfl rfl (by kernel_rfl) ⟨⟨1, _, by simp, rfl, shows_ownS hA, seen_ownS hA⟩, ⟨0, _, by simp, rfl, shows_blk _ _ _ (0, 0), .inr rfl⟩, trivial⟩ (fun _ => rfl) ?_
  rintro v H' ⟨rfl, rfl⟩
  refine ⟨rfl, ?_⟩
  refine JL_all [2] rfl ?_
  refine J_drop [] (by decide) rfl (J_ret ⟨_, rfl, congrArg Value.bool (cdec_yes rfl), rfl⟩)
/-! ### A path -/
def pathE (k : Nat) : List Edg := (List.range k).map fun (i : Nat) => ⟨((i + 1) / 2 + 1 : Nat), (i / 2 + 1 : Nat)⟩
theorem pathE_succ (k : Nat) : pathE (k + 1) = pathE k ++ [⟨((k + 1) / 2 + 1 : Nat), (k / 2 + 1 : Nat)⟩] := by
  unfold pathE
  rw [List.range_succ, List.map_append]; rfl
theorem pathE_length (k : Nat) : (pathE k).length = k := by simp [pathE]
theorem pathE_get {k i : Nat} (h : i < k) : (pathE k)[i]? = some ⟨((i + 1) / 2 + 1 : Nat), (i / 2 + 1 : Nat)⟩ := by
  unfold pathE
  rw [List.getElem?_map, List.getElem?_range h]; rfl
def pathG (k : Nat) : Gr := ⟨(k / 2 + 1 : Nat), (k / 2 + 1 : Nat), pathE k⟩
theorem pathG_right {k : Nat} (hk : k ≤ 60) : (pathG k).Right := by
  refine ⟨by show 1 ≤ ((k / 2 + 1 : Nat) : Int) ∧ _ ≤ _; show 1 ≤ ((k / 2 + 1 : Nat) : Int) ∧ ((k / 2 + 1 : Nat) : Int) ≤ 200; omega, by show 1 ≤ ((k / 2 + 1 : Nat) : Int) ∧ ((k / 2 + 1 : Nat) : Int) ≤ 200; omega, by show (pathE k).length ≤ 1500; rw [pathE_length]; omega, fun e he => ?_⟩
  obtain ⟨i, hi, rfl⟩ := List.mem_map.1 he
  have := List.mem_range.1 hi
  show (1 ≤ (((i + 1) / 2 + 1 : Nat) : Int) ∧ (((i + 1) / 2 + 1 : Nat) : Int) ≤ ((k / 2 + 1 : Nat) : Int)) ∧ (1 ≤ ((i / 2 + 1 : Nat) : Int) ∧ ((i / 2 + 1 : Nat) : Int) ≤ ((k / 2 + 1 : Nat) : Int))
  omega
/-- Every second edge. -/
def everyL (k : Nat) : List Int := (List.range ((k + 1) / 2)).map fun (i : Nat) => ((2 * i : Nat) : Int)
theorem every_match (k : Nat) : IsMatch (pathG k) (everyL k) := by
  refine ⟨?_, fun x hx => ?_, ?_⟩
  · unfold everyL
    rw [List.pairwise_map]
    exact List.pairwise_lt_range.imp fun h => by omega
  · obtain ⟨i, hi, rfl⟩ := List.mem_map.1 hx
    have := List.mem_range.1 hi
    show _ ∧ _ < (((pathE k).length : Nat) : Int)
    rw [pathE_length]; omega
  · unfold everyL
    rw [List.pairwise_map]
    refine List.pairwise_lt_range.imp_of_mem ?_
    intro i j hi hj hij a b ha hb
    have := List.mem_range.1 hi
    have := List.mem_range.1 hj
    rw [Int.toNat_natCast] at ha hb
    rw [show (pathG k).edges = pathE k from rfl, pathE_get (by omega)] at ha hb
    rw [← Option.some.inj ha, ← Option.some.inj hb]
    simp only
    omega
/-- Rising numbers of a row of so many are so many at most. -/
theorem rise_most : ∀ (n : Nat) (l : List Int), l.Pairwise (· < ·) → (∀ x ∈ l, 0 ≤ x ∧ x < n) → l.length ≤ n
  | n, l, h, hr => by
    have h1 : ∀ k, k ≤ l.length → (0 < k → (k : Int) ≤ l.getD (k - 1) 0 + 1) := by
      intro k
      induction k with
      | zero => intro _ h0; omega
      | succ k ih =>
        intro hk _
        have hx : l[k]? = some l[k] := List.getElem?_eq_getElem hk
        rw [Nat.add_sub_cancel, List.getD_eq_getElem?_getD, hx, Option.getD_some]
        by_cases h0 : k = 0
        · subst h0; have := hr l[0] (List.getElem_mem _); omega
        · have ih' := ih (by omega) (by omega)
          have hy : l[k - 1]? = some (l[k - 1]'(by omega)) := List.getElem?_eq_getElem (by omega)
          rw [List.getD_eq_getElem?_getD, hy, Option.getD_some] at ih'
          have := (List.pairwise_iff_getElem.1 h) (k - 1) k (by omega) hk (by omega)
          omega
    by_cases h0 : l.length = 0
    · omega
    · have h2 := h1 l.length (Nat.le_refl _) (by omega)
      have hy : l[l.length - 1]? = some (l[l.length - 1]'(by omega)) := List.getElem?_eq_getElem (by omega)
      rw [List.getD_eq_getElem?_getD, hy, Option.getD_some] at h2
      have := hr (l[l.length - 1]'(by omega)) (List.getElem_mem _)
      omega
theorem path_most {k : Nat} {l : List Int} (h : IsMatch (pathG k) l) : l.length ≤ (k + 1) / 2 := by
  have h1 : ∀ x ∈ l, 0 ≤ x ∧ x < k := fun x hx => by have := h.rng x hx; rw [show (pathG k).edges.length = k from pathE_length k] at this; exact this
  have h2 := rise_most ((k + 1) / 2) (l.map (· / 2)) (by
    rw [List.pairwise_map]
    refine (List.pairwise_and_iff.2 ⟨h.rise, h.apart⟩).imp_of_mem ?_
    rintro x y hx hy ⟨hxy, hap⟩
    have x1 := h1 x hx
    have y1 := h1 y hy
    have e1 := pathE_get (k := k) (i := x.toNat) (by omega)
    have e2 := pathE_get (k := k) (i := y.toNat) (by omega)
    have := (hap _ _ e1 e2).2
    simp only at this
    omega) (fun z hz => by
    obtain ⟨x, hx, rfl⟩ := List.mem_map.1 hz
    have := h1 x hx
    omega)
  simpa using h2
theorem path_best {k : Nat} {f : List Int} (hk : k ≤ 60) (hf : MaxFlow (gnet (pathG k)) f) : IsMatch (pathG k) (pairsL f (k / 2 + 1) k) ∧ (pairsL f (k / 2 + 1) k).length = (k + 1) / 2 := by
  have h := pairs_best (pathG_right hk) hf (nl := k / 2 + 1) (nr := k / 2 + 1) rfl rfl
  rw [show (pathG k).edges.length = k from pathE_length k] at h
  refine ⟨h.1, Nat.le_antisymm (path_most h.1) ?_⟩
  have := h.2 _ (every_match k)
  rwa [show (everyL k).length = (k + 1) / 2 by simp [everyL]] at this
set_option maxHeartbeats 1000000 in
theorem path_fn (many : Int) (hm : inB many) : Fn 7 [.int .i64 many] [] [] fun v _ => v = .bool true := by
  have hp := pickZ_in (c := many) (n := 60) (by decide)
  obtain ⟨k, hk⟩ : ∃ k : Nat, 1 + pickZ many 60 = k := ⟨(1 + pickZ many 60).toNat, by omega⟩
  have hk60 : k ≤ 60 := by omega
  refine Fn_of Try.func7 rfl rfl fun w0 => ?_
  (repeat' (first | refine J_seq ?_ | refine J_skip ?_ | refine J_yes rfl ?_ | refine J_no rfl ?_))
  refine J_region ?_
  refine JL_all [] rfl ?_
  (repeat' (first | refine J_seq ?_ | refine J_skip ?_ | refine J_yes rfl ?_ | refine J_no rfl ?_))
  refine J_region ?_
  refine JL_callR [] (shown16_fn) rfl rfl rfl rfl (by kernel_rfl) trivial (fun _ => rfl) ?_
  rintro v H' ⟨rfl, rfl⟩
  refine ⟨rfl, ?_⟩
  refine JL_all [] rfl ?_
  (repeat' (first | refine J_seq ?_ | refine J_skip ?_ | refine J_yes rfl ?_ | refine J_no rfl ?_))
  refine J_region ?_
  refine JL_all [] rfl ?_
  refine J_no rfl (J_skip ?_)
  (repeat' (first | refine J_seq ?_ | refine J_skip ?_ | refine J_yes rfl ?_ | refine J_no rfl ?_))
  refine J_region ?_
  refine JL_run [] rfl ?_
  refine JL_callR [] (pick16_fn hm (by decide)) rfl rfl rfl rfl (by kernel_rfl) trivial (fun _ => rfl) ?_
  rintro v H' ⟨rfl, rfl⟩
  refine ⟨rfl, ?_⟩
  refine JL_all [] rfl ?_
  refine J_set 4 (v' := .int .i64 (k : Int)) rfl (congrArg (Value.int .i64) ((w64 (by omega)).trans hk)) ?_
  have hq : ∀ i : Nat, i ≤ 61 → IntKind.i64.wrap ((i : Int).tdiv 2) = ((i / 2 : Nat) : Int) := fun i hi => by
    rw [Int.tdiv_eq_ediv_of_nonneg (by omega), w64 (by omega)]; omega
  (repeat' (first | refine J_seq ?_ | refine J_skip ?_ | refine J_yes rfl ?_ | refine J_no rfl ?_))
  refine J_region ?_
  refine JL_run [] rfl ?_
  refine JL_set 17 (v' := .int .i64 ((k / 2 + 1 : Nat) : Int)) rfl (congrArg (Value.int .i64) (by rw [hq k (by omega), w64 (by omega)]; omega)) ?_
  refine JL_set 20 (v' := .int .i64 ((k / 2 + 1 : Nat) : Int)) rfl (congrArg (Value.int .i64) (by rw [hq k (by omega), w64 (by omega)]; omega)) ?_
  refine JL_val [] (OpV_build rfl rfl rfl rfl rfl rfl) rfl ?_
  refine JL_alloc rfl rfl rfl (fun _ => rfl) fun p5 => ?_
  refine JL_run [] rfl ?_
  refine JL_store 0 rfl rfl rfl rfl rfl [] rfl ?_
  refine JL_nil ?_
  (repeat' (first | refine J_seq ?_ | refine J_skip ?_ | refine J_yes rfl ?_ | refine J_no rfl ?_))
  refine J_region ?_
  refine JL_all [] rfl ?_
  (repeat' (first | refine J_seq ?_ | refine J_skip ?_ | refine J_yes rfl ?_ | refine J_no rfl ?_))
  refine J_block ?_
  refine J_addnil 66 2 ?_
  refine J_loop (σ := Nat × Option Addr × Nat) (fun s => [(6, .int .i64 s.1), (5, .pointer (some ⟨p5, 0, none⟩)), (4, .int .i64 (k : Int))])
    (fun s => [.own (.slice s.2.1 (pathE s.1).length s.2.2) 66 2 (pathE s.1).length (edgs (pathE s.1)), blk p5 64 [.int .i64 ((k / 2 + 1 : Nat) : Int), .int .i64 ((k / 2 + 1 : Nat) : Int), .slice s.2.1 (pathE s.1).length s.2.2]])
    (fun s => s.1 ≤ k) (fun s => k - s.1) (0, none, 0) [0, 1] ⟨rfl, rfl, rfl, trivial⟩ (by decide) rfl (Nat.zero_le _) ?_
  rintro ⟨i, A1, c1⟩ hik
  simp only at hik ⊢
  have hpl := pathE_length i
  (repeat' (first | refine J_seq ?_ | refine J_skip ?_ | refine J_yes rfl ?_ | refine J_no rfl ?_))
  refine J_region ?_
  refine JL_all [] rfl ?_
  refine J_dec rfl (fun hlt => J_skip ?_) (fun hge => J_exit ?_)
  · have hlt : i < k := by omega
    refine J_seq (J_block ?_)
    (repeat' (first | refine J_seq ?_ | refine J_skip ?_ | refine J_yes rfl ?_ | refine J_no rfl ?_))
    refine J_region ?_
    refine JL_run [] rfl ?_
    (first | refine JL_val [] (OpV_blk 0 rfl rfl rfl rfl) rfl ?_ | refine JL_val [] (OpV_blk 1 rfl rfl rfl rfl) rfl ?_ | refine JL_val [] (OpV_blk 2 rfl rfl rfl rfl) rfl ?_ | refine JL_val [] (OpV_blk 3 rfl rfl rfl rfl) rfl ?_ | refine JL_val [] (OpV_blk 4 rfl rfl rfl rfl) rfl ?_ | refine JL_val [] (OpV_blk 5 rfl rfl rfl rfl) rfl ?_ | refine JL_val [] (OpV_blk 6 rfl rfl rfl rfl) rfl ?_ | refine JL_val [] (OpV_blk 7 rfl rfl rfl rfl) rfl ?_)
    refine JL_run [] rfl ?_
    have hi1 : IntKind.i64.wrap ((i : Int) + 1) = ((i + 1 : Nat) : Int) := by rw [w64 (by omega)]; rfl
    refine JL_set 32 (v' := .int .i64 (((i + 1) / 2 + 1 : Nat) : Int)) rfl (congrArg (Value.int .i64) (by rw [hi1, hq (i + 1) (by omega), w64 (by omega)]; omega)) ?_
    refine JL_set 35 (v' := .int .i64 ((i / 2 + 1 : Nat) : Int)) rfl (congrArg (Value.int .i64) (by rw [hq i (by omega), w64 (by omega)]; omega)) ?_
    refine JL_val [] (OpV_build rfl rfl rfl rfl rfl rfl) rfl ?_
    refine JL_lit rfl rfl rfl rfl rfl rfl rfl (fun _ => rfl) fun g => ?_
    refine JL_appendS (off := 0) (m := 1) (news := edgs [⟨((i + 1) / 2 + 1 : Nat), (i / 2 + 1 : Nat)⟩]) 1 0 rfl rfl rfl rfl rfl rfl (by decide) rfl rfl (shows_blk g _ _ (0, 0)) (fun _ => rfl) rfl rfl (by omega) (by omega) (fun _ _ => rfl) fun A2 c2 => ?_
    refine JL_run [] rfl ?_
    refine JL_store 2 rfl rfl rfl rfl rfl [] rfl ?_
    refine JL_nil ?_
    (repeat' (first | refine J_seq ?_ | refine J_skip ?_ | refine J_yes rfl ?_ | refine J_no rfl ?_))
    refine J_region ?_
    refine JL_all [] rfl ?_
    refine ⟨(i + 1, A2, c2), [1, 2], ⟨?_, rfl, rfl, trivial⟩, by decide, ?_, by simp only; omega, by simp only; omega⟩
    · show some (Value.int .i64 (IntKind.i64.wrap ((i : Int) + 1))) = _
      rw [hi1]
    · simp only [pathE_succ, List.length_append, edgs_app]; rfl
  · obtain rfl : i = k := by omega
    have hR := pathG_right hk60
    refine J_know (own_is 0 rfl) fun ⟨_, _, hA, hl1⟩ => ?_
    obtain ⟨ge, hA⟩ := own_at hA hl1
    have hA' : (pathG i).edges ≠ [] → A1 = some ⟨ge, 0, none⟩ := fun h => hA fun h0 => by
      have h1 : (edgs (pathE i)).length = 0 := by rw [h0]; rfl
      rw [edgs_length, hpl] at h1
      omega
    (repeat' (first | refine J_seq ?_ | refine J_skip ?_ | refine J_yes rfl ?_ | refine J_no rfl ?_))
    refine J_region ?_
    refine JL_val [] (v := grV (pathG i) A1 c1) (OpV_blk 1 rfl rfl rfl rfl) rfl ?_
    refine JL_callR [] (pairs_fn (pathG i) hR A1 c1 ge 0 hA' (i / 2 + 1) rfl) rfl rfl rfl rfl (by kernel_rfl) ⟨⟨0, _, by simp, rfl, shows_ownS hA, seen_ownS hA⟩, trivial⟩ (fun _ => rfl) ?_
    rintro v H' ⟨f, A', c', hf, rfl, rfl⟩
    refine ⟨rfl, ?_⟩
    rw [show (pathG i).edges.length = i from hpl]
    obtain ⟨hM, hlen⟩ := path_best hk60 hf
    generalize pairsL f (i / 2 + 1) i = pl at hM hlen
    have hrng := hM.rng
    rw [show (pathG i).edges.length = i from hpl] at hrng
    refine JL_know (own_is 0 rfl) fun ⟨_, _, hB, hl2⟩ => ?_
    obtain ⟨gp, hB⟩ := own_at hB hl2
    have hB' : pl ≠ [] → A' = some ⟨gp, 0, none⟩ := fun h => hB (by simpa [ints] using h)
    refine JL_all [] rfl ?_
    (repeat' (first | refine J_seq ?_ | refine J_skip ?_ | refine J_yes rfl ?_ | refine J_no rfl ?_))
    refine J_region ?_
    refine JL_run [] rfl ?_
    refine JL_set 47 (v' := .bool true) rfl (congrArg Value.bool (cdec_yes rfl)) ?_
    refine JL_run [2] rfl ?_
    refine JL_set 55 (v' := .bool true) rfl (congrArg Value.bool (cdec_yes (by
      rw [w64 (n := (i : Int) + 1) (by omega), show (i : Int) + 1 = ((i + 1 : Nat) : Int) by omega, hq (i + 1) (by omega)]
      exact congrArg Nat.cast hlen))) ?_
    refine JL_val [10] (v := grV (pathG i) A1 c1) (OpV_blk 2 rfl rfl rfl rfl) rfl ?_
    refine JL_run [10] rfl ?_
    refine JL_callR [10] (mright_fn (pathG i) hR A1 c1 ge 0 hA' pl (by omega) (fun x hx => by have := hrng x hx; unfold inB; omega) A' c' gp 0 hB') rfl rfl rfl rfl (by kernel_rfl) ⟨⟨1, _, by simp, rfl, shows_ownS hA, seen_ownS hA⟩, ⟨0, _, by simp, rfl, shows_ownS hB, seen_ownS hB⟩, trivial⟩ (fun _ => rfl) ?_
    rintro v H' ⟨rfl, rfl⟩
    refine ⟨rfl, ?_⟩
    refine JL_all [10] rfl ?_
    exact J_ret ⟨_, rfl, congrArg Value.bool (cdec_yes hM)⟩
end Go.Proofs.Ytbhfbpeldcnpfaa
