
/- The arcs that cross a cut, and what they let through. -/
import Derived.Test.YtbhfbpeldcnpfaaCut14b
namespace Go.Proofs.Ytbhfbpeldcnpfaa
open Go.RowKit
/-- The arcs that cross, of the first k. -/
def crossK (N : Net) (s : List Int) (k : Nat) : List Int := ((List.range k).filter fun (i : Nat) => match N.arcs[i]? with
  | some a => decide (a.fr ∈ s ∧ a.to ∉ s)
  | none => false).map fun (i : Nat) => (i : Int)
theorem crossK_succ {N : Net} {s : List Int} {k : Nat} {a : Arc} (h : N.arcs[k]? = some a) : crossK N s (k + 1) = crossK N s k ++ (if a.fr ∈ s ∧ a.to ∉ s then [(k : Int)] else []) := by
  unfold crossK
  rw [List.range_succ, List.filter_append, List.map_append]
  congr 1
  by_cases h2 : a.fr ∈ s ∧ a.to ∉ s <;> simp [h, h2]
theorem crossK_length (N : Net) (s : List Int) (k : Nat) : (crossK N s k).length ≤ k := by
  unfold crossK
  rw [List.length_map]
  exact Nat.le_trans (List.length_filter_le _ _) (by simp)
def marks (s : List Int) : List (Int × Value) := s.map fun v => (v, .bool true)
theorem lookL_marks (s : List Int) (n : Int) : (lookL (marks s) n).getD (.bool false) = .bool (cdec (n ∈ s)) := by
  induction s with
  | nil => rw [cdec_no (by simp)]; rfl
  | cons v s ih =>
    show (lookL ((v, .bool true) :: marks s) n).getD _ = _
    unfold lookL
    by_cases h : v = n
    · rw [if_pos h, cdec_yes (by simp [h])]; rfl
    · rw [if_neg h, ih]
      have : (n ∈ v :: s) ↔ n ∈ s := by simp [Ne.symm h]
      rw [cdec_iff this]
theorem cutarcs_fn (N : Net) (hN : N.Fits) (hR : N.Right) (A : Option Addr) (c b o : Nat) (hA : N.arcs ≠ [] → A = some ⟨b, o, none⟩) (s : List Int) (hs : IsCut N s) (hsl : s.length ≤ 100000) (S : Option Addr) (cs bs os : Nat) (hS : s ≠ [] → S = some ⟨bs, os, none⟩) :
    Fn 29 [netV N A c, .slice S s.length cs] [] [.seg b o (arcs N.arcs), .seg bs os (ints s)] fun v H' => ∃ A' c', v = .tuple #[.slice A' (crossK N s N.arcs.length).length c', .int .i64 0] ∧
      H' = [.own (.slice A' (crossK N s N.arcs.length).length c') 3 1 (crossK N s N.arcs.length).length (ints (crossK N s N.arcs.length))] := by
  have hl2 := hR.len
  have hnn := hR.nodes
  refine Fn_of Try.func29 rfl rfl fun w0 => ?_
  (repeat' (first | refine J_seq ?_ | refine J_skip ?_ | refine J_yes rfl ?_ | refine J_no rfl ?_))
  refine J_region ?_
  refine JL_box (cs := netC N A c) rfl rfl rfl (fun _ => rfl) fun p => ?_
  refine JL_all [] rfl ?_
  (repeat' (first | refine J_seq ?_ | refine J_skip ?_ | refine J_yes rfl ?_ | refine J_no rfl ?_))
  refine J_region ?_
  refine JL_val [] (v := netV N A c) (OpV_blk 0 rfl rfl rfl rfl) rfl ?_
  refine JL_callR [] (check_fn N hN A c b o hA) rfl rfl rfl rfl (by kernel_rfl) ⟨⟨1, _, by simp, rfl, shows_seg _ _ _, seen_seg⟩, trivial⟩ (fun _ => rfl) ?_
  rintro v H' ⟨rfl, rfl⟩
  refine ⟨rfl, ?_⟩
  rw [hR.check]
  refine JL_all [] rfl ?_
  (repeat' (first | refine J_seq ?_ | refine J_skip ?_ | refine J_yes rfl ?_ | refine J_no rfl ?_))
  refine J_region ?_
  refine JL_all [] rfl ?_
  refine J_dec rfl (fun h => absurd rfl h) (fun _ => J_skip ?_)
  (repeat' (first | refine J_seq ?_ | refine J_skip ?_ | refine J_yes rfl ?_ | refine J_no rfl ?_))
  refine J_region ?_
  refine JL_makeMap rfl (fun _ => rfl) fun bm => ?_
  refine JL_all [] rfl ?_
  (repeat' (first | refine J_seq ?_ | refine J_skip ?_ | refine J_yes rfl ?_ | refine J_no rfl ?_))
  refine J_region ?_
  refine JL_all [] rfl ?_
  (repeat' (first | refine J_seq ?_ | refine J_skip ?_ | refine J_yes rfl ?_ | refine J_no rfl ?_))
  refine J_region ?_
  refine JL_all [] rfl ?_
  refine J_block ?_
  refine J_loop (σ := Nat) (fun k => [(22, .int .i64 k), (21, .int .i64 s.length), (20, .slice S s.length cs), (8, .int .i64 ((s.take k).getLast?.getD 0)), (7, .map (some bm)), (2, .pointer (some ⟨p, 0, none⟩))])
    (fun k => [.obj bm (mapO (marks (s.take k))), blk p 27 (netC N A c), .seg b o (arcs N.arcs), .seg bs os (ints s)]) (fun k => k ≤ s.length) (fun k => s.length - k)
    0 [0, 1, 2, 3] ⟨rfl, rfl, rfl, rfl, rfl, rfl, trivial⟩ (by decide) rfl (Nat.zero_le _) ?_
  intro k hk
  (repeat' (first | refine J_seq ?_ | refine J_skip ?_ | refine J_yes rfl ?_ | refine J_no rfl ?_))
  refine J_region ?_
  refine JL_all [] rfl ?_
  refine J_seq (J_dec rfl (fun hlt => J_skip ?_) (fun hge => J_exit ?_))
  · have hlt : k < s.length := by omega
    obtain rfl := hS (by rintro rfl; simp at hlt)
    obtain ⟨x, hx⟩ : ∃ x, s[k]? = some x := ⟨s[k], List.getElem?_eq_getElem hlt⟩
    have hxr := hs.rng x (List.mem_of_getElem? hx)
    have hless : ∀ y ∈ s.take k, y < x := by
      intro y hy
      obtain ⟨j, hj, hjy⟩ := List.mem_iff_getElem.1 hy
      have hj' : j < k := by simp at hj; omega
      have h1 := List.pairwise_iff_getElem.1 hs.rise j k (by omega) hlt hj'
      rw [List.getElem_take] at hjy
      obtain ⟨_, h2⟩ := List.getElem?_eq_some_iff.1 hx
      rw [← hjy, ← h2]; exact h1
    have hlast : (s.take k).getLast?.getD 0 < x := by
      cases h : (s.take k).getLast? with
      | none => show (0 : Int) < x; omega
      | some y => exact hless y (List.mem_of_getLast? h)
    have htk : s.take (k + 1) = s.take k ++ [x] := by rw [List.take_add_one, hx]; rfl
    refine J_seq (J_block ?_)
    (repeat' (first | refine J_seq ?_ | refine J_skip ?_ | refine J_yes rfl ?_ | refine J_no rfl ?_))
    refine J_region ?_
    refine JL_run [] rfl ?_
    refine JL_val [] (idx1 rfl rfl rfl rfl rfl hlt) rfl ?_
    refine JL_val [] (ldseg 3 rfl rfl rfl rfl (readT_int' hx)) rfl ?_
    refine JL_all [] rfl ?_
    (repeat' (first | refine J_seq ?_ | refine J_skip ?_ | refine J_yes rfl ?_ | refine J_no rfl ?_))
    refine J_region ?_
    refine JL_run [] rfl ?_
    refine JL_set 29 (v' := .bool false) rfl (congrArg Value.bool (cdec_no (by omega))) ?_
    refine JL_run [3] rfl ?_
    refine JL_val [3] (OpV_blk 1 rfl rfl rfl rfl) rfl ?_
    refine JL_all [3] rfl ?_
    refine J_dec rfl (fun h => absurd h (by omega)) (fun _ => J_skip ?_)
    (repeat' (first | refine J_seq ?_ | refine J_skip ?_ | refine J_yes rfl ?_ | refine J_no rfl ?_))
    refine J_region ?_
    refine JL_run [] rfl ?_
    refine JL_mapPush 0 Try.underlying98 Try.underlying3 rfl rfl rfl rfl rfl (fun q hq => ?_) [] rfl ?_
    · obtain ⟨y, hy, rfl⟩ := List.mem_map.1 hq
      have := hless y hy
      show y ≠ x
      omega
    refine JL_all [] rfl ?_
    (repeat' (first | refine J_seq ?_ | refine J_skip ?_ | refine J_yes rfl ?_ | refine J_no rfl ?_))
    refine J_region ?_
    refine JL_all [] rfl ?_
    refine ⟨k + 1, [0, 1, 2, 3], ⟨?_, rfl, rfl, ?_, rfl, rfl, trivial⟩, by decide, ?_, by omega, by omega⟩
    · show some (Value.int .i64 (IntKind.i64.wrap ((k : Int) + 1))) = _
      rw [w64 (by omega)]; rfl
    · rw [htk, List.getLast?_append]; rfl
    · rw [htk]; unfold marks; rw [List.map_append]; rfl
  · have hk' : k = s.length := by omega
    subst hk'
    rw [List.take_length]
    (repeat' (first | refine J_seq ?_ | refine J_skip ?_ | refine J_yes rfl ?_ | refine J_no rfl ?_))
    refine J_region ?_
    refine JL_run [] rfl ?_
    refine JL_val [] (OpV_blk 1 rfl rfl rfl rfl) rfl ?_
    refine JL_val [] (OpV_lookup 0 Try.underlying98 Try.underlying3 rfl rfl rfl rfl rfl) rfl ?_
    refine JL_set 42 (v' := .bool true) rfl (by rw [lookL_marks, cdec_yes hs.src]) ?_
    refine JL_run [] rfl ?_
    refine JL_set 44 (v' := .bool false) rfl rfl ?_
    refine JL_run [5] rfl ?_
    refine JL_val [5] (OpV_blk 1 rfl rfl rfl rfl) rfl ?_
    refine JL_val [5] (OpV_lookup 0 Try.underlying98 Try.underlying3 rfl rfl rfl rfl rfl) rfl ?_
    refine JL_set 48 (v' := .bool false) rfl (by rw [lookL_marks, cdec_no hs.snk]) ?_
    refine JL_all [5] rfl ?_
    refine J_no rfl (J_skip ?_)
    (repeat' (first | refine J_seq ?_ | refine J_skip ?_ | refine J_yes rfl ?_ | refine J_no rfl ?_))
    refine J_region ?_
    refine JL_all [] rfl ?_
    (repeat' (first | refine J_seq ?_ | refine J_skip ?_ | refine J_yes rfl ?_ | refine J_no rfl ?_))
    refine J_region ?_
    refine JL_run [] rfl ?_
    refine JL_val [] (OpV_blk 1 rfl rfl rfl rfl) rfl ?_
    refine JL_all [] rfl ?_
    refine J_block ?_
    refine J_addnil 3 1 ?_
    refine J_loop (σ := Nat × Option Addr × Nat) (fun t => [(53, .int .i64 t.1), (52, .int .i64 N.arcs.length), (51, .slice A N.arcs.length c), (11, .slice t.2.1 (crossK N s t.1).length t.2.2), (7, .map (some bm)), (2, .pointer (some ⟨p, 0, none⟩))])
      (fun t => [.own (.slice t.2.1 (crossK N s t.1).length t.2.2) 3 1 (crossK N s t.1).length (ints (crossK N s t.1)), .obj bm (mapO (marks s)), blk p 27 (netC N A c), .seg b o (arcs N.arcs)]) (fun t => t.1 ≤ N.arcs.length) (fun t => N.arcs.length - t.1)
      (0, none, 0) [0, 1, 2, 3] ⟨rfl, rfl, rfl, rfl, rfl, rfl, trivial⟩ (by decide) rfl (Nat.zero_le _) ?_
    rintro ⟨k, A1, c1⟩ hk
    simp only at hk ⊢
    have hwl := crossK_length N s k
    (repeat' (first | refine J_seq ?_ | refine J_skip ?_ | refine J_yes rfl ?_ | refine J_no rfl ?_))
    refine J_region ?_
    refine JL_all [] rfl ?_
    refine J_seq (J_dec rfl (fun hlt => J_skip ?_) (fun hge => J_exit ?_))
    · have hlt : k < N.arcs.length := by omega
      obtain rfl := hA (by intro h0; rw [h0] at hlt; simp at hlt)
      obtain ⟨x, hx⟩ : ∃ x, N.arcs[k]? = some x := ⟨N.arcs[k], List.getElem?_eq_getElem hlt⟩
      have hws := crossK_succ (s := s) hx
      have hq : IntKind.i64.wrap ((k : Int) + 1) = ((k + 1 : Nat) : Int) := w64 (by omega)
      refine J_seq (J_block ?_)
      (repeat' (first | refine J_seq ?_ | refine J_skip ?_ | refine J_yes rfl ?_ | refine J_no rfl ?_))
      refine J_region ?_
      refine JL_run [] rfl ?_
      refine JL_val [] (idxN rfl rfl rfl rfl rfl hlt) rfl ?_
      refine JL_val [] (ldseg 3 rfl rfl rfl rfl (readT_arc hx)) rfl ?_
      refine JL_alloc rfl rfl rfl (fun _ => rfl) fun q => ?_
      refine JL_run [] rfl ?_
      refine JL_store 0 rfl rfl rfl rfl rfl [] rfl ?_
      refine JL_nil ?_
      by_cases hgo : x.fr ∈ s ∧ x.to ∉ s
      · rw [if_pos hgo] at hws
        (repeat' (first | refine J_seq ?_ | refine J_skip ?_ | refine J_yes rfl ?_ | refine J_no rfl ?_))
        refine J_region ?_
        refine JL_run [] rfl ?_
        refine JL_val [] (OpV_blk 0 rfl rfl rfl rfl) rfl ?_
        refine JL_val [] (OpV_lookup 2 Try.underlying98 Try.underlying3 rfl rfl rfl rfl rfl) rfl ?_
        refine JL_run [] rfl ?_
        refine JL_set 62 (v' := .bool true) rfl (by rw [lookL_marks, cdec_yes hgo.1]) ?_
        refine JL_run [4] rfl ?_
        refine JL_val [4] (OpV_blk 0 rfl rfl rfl rfl) rfl ?_
        refine JL_val [4] (OpV_lookup 2 Try.underlying98 Try.underlying3 rfl rfl rfl rfl rfl) rfl ?_
        refine JL_set 66 (v' := .bool false) rfl (by rw [lookL_marks, cdec_no hgo.2]) ?_
        refine JL_all [4] rfl ?_
        refine J_yes rfl ?_
        refine J_region (JL_run [] rfl ?_)
        refine JL_lit rfl rfl rfl rfl rfl rfl rfl (fun _ => rfl) fun g2 => ?_
        refine JL_appendS (n := (crossK N s k).length) (m := 1) (off := 0) (news := ints [(k : Int)]) 2 0 rfl rfl rfl rfl rfl rfl (by decide) rfl rfl (shows_blk g2 _ _ (0, 0)) (fun _ => rfl) rfl rfl (by omega) (by omega) (fun _ _ => rfl) fun A2 c2 => ?_
        rw [show (crossK N s k).length + 1 = (crossK N s (k + 1)).length by rw [hws]; simp, show ints (crossK N s k) ++ ints [(k : Int)] = ints (crossK N s (k + 1)) by rw [hws]; simp [ints]]
        refine JL_all [] rfl ?_
        (repeat' (first | refine J_seq ?_ | refine J_skip ?_ | refine J_yes rfl ?_ | refine J_no rfl ?_))
        refine J_region ?_
        refine JL_all [] rfl ?_
        exact ⟨(k + 1, A2, c2), [2, 3, 4, 5], ⟨congrArg some (congrArg (Value.int .i64) hq), rfl, rfl, rfl, rfl, rfl, trivial⟩, by decide, rfl, by simp only; omega, by simp only; omega⟩
      · rw [if_neg hgo, List.append_nil] at hws
        refine J_cut [(68, .bool false), (53, .int .i64 k), (52, .int .i64 N.arcs.length), (51, .slice (some ⟨b, o, none⟩) N.arcs.length c), (11, .slice A1 (crossK N s k).length c1), (7, .map (some bm)), (2, .pointer (some ⟨p, 0, none⟩))]
          [.own (.slice A1 (crossK N s k).length c1) 3 1 (crossK N s k).length (ints (crossK N s k)), .obj bm (mapO (marks s)), blk p 27 (netC N (some ⟨b, o, none⟩) c), .seg b o (arcs N.arcs)] ?_ ?_
        · (repeat' (first | refine J_seq ?_ | refine J_skip ?_ | refine J_yes rfl ?_ | refine J_no rfl ?_))
          refine J_region ?_
          refine JL_run [] rfl ?_
          refine JL_val [] (OpV_blk 0 rfl rfl rfl rfl) rfl ?_
          refine JL_val [] (OpV_lookup 2 Try.underlying98 Try.underlying3 rfl rfl rfl rfl rfl) rfl ?_
          refine JL_run [] rfl ?_
          by_cases h1 : x.fr ∈ s
          · have h2 : x.to ∈ s := Classical.not_not.1 fun h => hgo ⟨h1, h⟩
            refine JL_set 62 (v' := .bool true) rfl (by rw [lookL_marks, cdec_yes h1]) ?_
            refine JL_run [4] rfl ?_
            refine JL_val [4] (OpV_blk 0 rfl rfl rfl rfl) rfl ?_
            refine JL_val [4] (OpV_lookup 2 Try.underlying98 Try.underlying3 rfl rfl rfl rfl rfl) rfl ?_
            refine JL_set 66 (v' := .bool true) rfl (by rw [lookL_marks, cdec_yes h2]) ?_
            refine JL_all [4] rfl ?_
            exact ⟨[1, 2, 3, 4], ⟨rfl, rfl, rfl, rfl, rfl, rfl, rfl, trivial⟩, by decide, rfl⟩
          · refine JL_set 62 (v' := .bool false) rfl (by rw [lookL_marks, cdec_no h1]) ?_
            refine JL_all [4] rfl ?_
            exact ⟨[1, 2, 3, 4], ⟨rfl, rfl, rfl, rfl, rfl, rfl, rfl, trivial⟩, by decide, rfl⟩
        · refine J_no rfl (J_skip ?_)
          (repeat' (first | refine J_seq ?_ | refine J_skip ?_ | refine J_yes rfl ?_ | refine J_no rfl ?_))
          refine J_region ?_
          refine JL_all [] rfl ?_
          exact ⟨(k + 1, A1, c1), [0, 1, 2, 3], ⟨congrArg some (congrArg (Value.int .i64) hq), rfl, rfl, by simp only [hws]; rfl, rfl, rfl, trivial⟩, by decide, by simp only [hws]; rfl, by simp only; omega, by simp only; omega⟩
    · have hk' : k = N.arcs.length := by omega
      subst hk'
      (repeat' (first | refine J_seq ?_ | refine J_skip ?_ | refine J_yes rfl ?_ | refine J_no rfl ?_))
      refine J_region ?_
      refine JL_all [] rfl ?_
      exact J_drop [0] (by decide) rfl (J_ret ⟨_, rfl, A1, c1, rfl, rfl⟩)
def capAt (N : Net) (i : Int) : Int := match N.arcs[i.toNat]? with
  | some a => a.cap
  | none => 0
open Classical in
/-- What a cut lets through. -/
noncomputable def capZ (s : List Int) (l : List Arc) : Int := (l.map fun a => if a.fr ∈ s ∧ a.to ∉ s then a.cap else 0).sum
theorem cap_cross (N : Net) (s : List Int) : ∀ k, k ≤ N.arcs.length → ((crossK N s k).map (capAt N)).sum = capZ s (N.arcs.take k)
  | 0, _ => by simp [crossK, capZ]
  | k + 1, h => by
    obtain ⟨a, ha⟩ : ∃ a, N.arcs[k]? = some a := ⟨N.arcs[k], List.getElem?_eq_getElem (by omega)⟩
    have ih := cap_cross N s k (by omega)
    rw [crossK_succ ha, List.take_add_one, ha, List.map_append, List.sum_append, ih]
    unfold capZ
    rw [List.map_append, List.sum_append]
    congr 1
    by_cases h2 : a.fr ∈ s ∧ a.to ∉ s
    · simp only [if_pos h2, List.map_cons, List.map_nil, List.sum_cons, List.sum_nil, Option.toList_some]
      show capAt N (k : Int) + 0 = a.cap + 0
      unfold capAt; rw [Int.toNat_natCast, ha]
    · simp only [if_neg h2, List.map_cons, List.map_nil, List.sum_cons, List.sum_nil, Option.toList_some]
      rfl
theorem sum_nonneg : ∀ (l : List Int), (∀ x ∈ l, 0 ≤ x) → 0 ≤ l.sum
  | [], _ => by simp
  | x :: l, h => by
    have := sum_nonneg l fun y hy => h y (by simp [hy])
    have := h x (by simp)
    simp only [List.sum_cons]; omega
theorem capZ_in {N : Net} (hR : N.Right) (s : List Int) : 0 ≤ capZ s N.arcs ∧ capZ s N.arcs ≤ 4611686018427387903 := by
  have h1 : ∀ (l : List Arc), (∀ a ∈ l, 0 ≤ a.cap) → 0 ≤ capZ s l ∧ capZ s l ≤ (l.map (·.cap)).sum := by
    intro l
    induction l with
    | nil => intro _; simp [capZ]
    | cons a l ih =>
      intro h
      have h2 := ih fun x hx => h x (by simp [hx])
      have h3 := h a (by simp)
      unfold capZ at h2 ⊢
      simp only [List.map_cons, List.sum_cons]
      split <;> omega
  have := h1 N.arcs fun a ha => (hR.arc a ha).2.2
  have := hR.sum
  omega
theorem capacity_fn (N : Net) (hN : N.Fits) (hR : N.Right) (A : Option Addr) (c b o : Nat) (hA : N.arcs ≠ [] → A = some ⟨b, o, none⟩) (s : List Int) (hs : IsCut N s) (hsl : s.length ≤ 100000) (S : Option Addr) (cs bs os : Nat) (hS : s ≠ [] → S = some ⟨bs, os, none⟩) :
    Fn 23 [netV N A c, .slice S s.length cs] [] [.seg b o (arcs N.arcs), .seg bs os (ints s)] fun v H' => v = two (capZ s N.arcs, 0) ∧ H' = [] := by
  have hl2 := hR.len
  obtain ⟨l, hl⟩ : ∃ l, l = crossK N s N.arcs.length := ⟨_, rfl⟩
  have hll := crossK_length N s N.arcs.length
  have htot : (l.map (capAt N)).sum = capZ s N.arcs := by rw [hl, cap_cross N s _ (Nat.le_refl _), List.take_length]
  have hmem : ∀ x ∈ l, ∃ (i : Nat) (a : Arc), x = i ∧ N.arcs[i]? = some a ∧ capAt N x = a.cap ∧ 0 ≤ a.cap := by
    intro x hx
    rw [hl] at hx
    unfold crossK at hx
    obtain ⟨i, hi, rfl⟩ := List.mem_map.1 hx
    have hi2 := (List.mem_filter.1 hi).2
    cases ha : N.arcs[i]? with
    | none => rw [ha] at hi2; simp at hi2
    | some a => exact ⟨i, a, rfl, ha, by unfold capAt; rw [Int.toNat_natCast, ha], (hR.arc a (List.mem_of_getElem? ha)).2.2⟩
  have hpos : ∀ x ∈ l.map (capAt N), 0 ≤ x := by
    intro x hx
    obtain ⟨y, hy, rfl⟩ := List.mem_map.1 hx
    obtain ⟨_, a, _, _, h3, h4⟩ := hmem y hy
    rw [h3]; exact h4
  have hcz := capZ_in hR s
  have hpart : ∀ k, 0 ≤ ((l.take k).map (capAt N)).sum ∧ ((l.take k).map (capAt N)).sum ≤ 4611686018427387903 := by
    intro k
    have e : ((l.take k).map (capAt N)).sum + ((l.drop k).map (capAt N)).sum = capZ s N.arcs := by rw [← List.sum_append, ← List.map_append, List.take_append_drop, htot]
    have h1 := sum_nonneg ((l.take k).map (capAt N)) fun x hx => hpos x (by rw [List.map_take] at hx; exact List.mem_of_mem_take hx)
    have h2 := sum_nonneg ((l.drop k).map (capAt N)) fun x hx => hpos x (by rw [List.map_drop] at hx; exact List.mem_of_mem_drop hx)
    omega
  refine Fn_of Try.func23 rfl rfl fun w0 => ?_
  (repeat' (first | refine J_seq ?_ | refine J_skip ?_ | refine J_yes rfl ?_ | refine J_no rfl ?_))
  refine J_region ?_
  refine JL_box (cs := netC N A c) rfl rfl rfl (fun _ => rfl) fun p => ?_
  refine JL_all [] rfl ?_
  (repeat' (first | refine J_seq ?_ | refine J_skip ?_ | refine J_yes rfl ?_ | refine J_no rfl ?_))
  refine J_region ?_
  refine JL_val [] (v := netV N A c) (OpV_blk 0 rfl rfl rfl rfl) rfl ?_
  refine JL_run [] rfl ?_
  refine JL_callR [] (cutarcs_fn N hN hR A c b o hA s hs hsl S cs bs os hS) rfl rfl rfl rfl (by kernel_rfl) ⟨⟨1, _, by simp, rfl, shows_seg _ _ _, seen_seg⟩, ⟨2, _, by simp, rfl, shows_seg _ _ _, seen_seg⟩, trivial⟩ (fun _ => rfl) ?_
  rintro v H' ⟨A1, c1, rfl, rfl⟩
  refine ⟨rfl, ?_⟩
  rw [← hl] at hll ⊢
  refine JL_all [] rfl ?_
  (repeat' (first | refine J_seq ?_ | refine J_skip ?_ | refine J_yes rfl ?_ | refine J_no rfl ?_))
  refine J_region ?_
  refine JL_all [] rfl ?_
  (repeat' (first | refine J_seq ?_ | refine J_skip ?_ | refine J_yes rfl ?_ | refine J_no rfl ?_))
  refine J_region ?_
  refine JL_all [] rfl ?_
  refine J_know (own_is 0 rfl) fun ⟨_, _, hA1, _⟩ => ?_
  refine J_block ?_
  refine J_loop (σ := Nat) (fun k => [(19, .int .i64 k), (18, .int .i64 l.length), (17, .slice A1 l.length c1), (8, .int .i64 ((l.take k).map (capAt N)).sum), (7, .int .i64 0), (2, .pointer (some ⟨p, 0, none⟩))])
    (fun k => [.own (.slice A1 l.length c1) 3 1 l.length (ints l), blk p 27 (netC N A c), .seg b o (arcs N.arcs)]) (fun k => k ≤ l.length) (fun k => l.length - k)
    0 [0, 1, 2] ⟨rfl, rfl, rfl, rfl, rfl, rfl, trivial⟩ (by decide) rfl (Nat.zero_le _) ?_
  intro k hk
  (repeat' (first | refine J_seq ?_ | refine J_skip ?_ | refine J_yes rfl ?_ | refine J_no rfl ?_))
  refine J_region ?_
  refine JL_all [] rfl ?_
  refine J_seq (J_dec rfl (fun hlt => J_skip ?_) (fun hge => J_exit ?_))
  · have hlt : k < l.length := by omega
    obtain ⟨g1, rfl⟩ := hA1 (by omega)
    obtain ⟨x, hx⟩ : ∃ x, l[k]? = some x := ⟨l[k], List.getElem?_eq_getElem hlt⟩
    obtain ⟨i, a, rfl, ha, hcap, hc0⟩ := hmem x (List.mem_of_getElem? hx)
    have hil : i < N.arcs.length := (List.getElem?_eq_some_iff.1 ha).1
    obtain rfl := hA (by intro h0; rw [h0] at hil; simp at hil)
    obtain ⟨_, _, hac⟩ := arcs_get ha
    have htk : ((l.take (k + 1)).map (capAt N)).sum = ((l.take k).map (capAt N)).sum + a.cap := by rw [List.take_add_one, hx, List.map_append, List.sum_append]; simp [hcap]
    have hb1 := hpart (k + 1)
    rw [htk] at hb1
    refine J_seq (J_block ?_)
    (repeat' (first | refine J_seq ?_ | refine J_skip ?_ | refine J_yes rfl ?_ | refine J_no rfl ?_))
    refine J_region ?_
    refine JL_run [] rfl ?_
    refine JL_val [] (idx1z rfl rfl rfl rfl rfl hlt) rfl ?_
    refine JL_val [] (OpV_own 0 rfl rfl rfl (readT_int' hx)) rfl ?_
    refine JL_all [] rfl ?_
    (repeat' (first | refine J_seq ?_ | refine J_skip ?_ | refine J_yes rfl ?_ | refine J_no rfl ?_))
    refine J_region ?_
    refine JL_run [] rfl ?_
    refine JL_val [] (OpV_blk 1 rfl rfl rfl rfl) rfl ?_
    refine JL_run [] rfl ?_
    refine JL_val [] (idxN rfl rfl rfl rfl rfl hil) rfl ?_
    refine JL_run [] rfl ?_
    refine JL_val [] (ldseg 2 rfl rfl rfl rfl hac) rfl ?_
    refine JL_all [] rfl ?_
    (repeat' (first | refine J_seq ?_ | refine J_skip ?_ | refine J_yes rfl ?_ | refine J_no rfl ?_))
    refine J_region ?_
    refine JL_all [] rfl ?_
    refine ⟨k + 1, [0, 1, 2], ⟨?_, rfl, rfl, ?_, rfl, rfl, trivial⟩, by decide, rfl, by omega, by omega⟩
    · show some (Value.int .i64 (IntKind.i64.wrap ((k : Int) + 1))) = _
      rw [w64 (by omega)]; rfl
    · show some (Value.int .i64 (IntKind.i64.wrap (((l.take k).map (capAt N)).sum + a.cap))) = _
      rw [htk, w64 (by omega)]
  · have hk' : k = l.length := by omega
    subst hk'
    (repeat' (first | refine J_seq ?_ | refine J_skip ?_ | refine J_yes rfl ?_ | refine J_no rfl ?_))
    refine J_region ?_
    refine JL_all [] rfl ?_
    refine J_drop [] (by decide) rfl (J_ret ⟨_, rfl, ?_, rfl⟩)
    rw [List.take_length, htot]; rfl
end Go.Proofs.Ytbhfbpeldcnpfaa
