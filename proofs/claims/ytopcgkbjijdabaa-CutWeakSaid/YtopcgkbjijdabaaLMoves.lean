
/- CutMoves: a node that is moved over a cut changes what that lets through by its own arcs alone: however a network is made, every cut, every node, no condition. -/
import Derived.Test.YtopcgkbjijdabaaCutA
namespace Go.Proofs.Ytopcgkbjijdabaa
open Go.RowKit
theorem fits_of {N : Net} (h : N.Right) (hc : ∀ a ∈ N.arcs, a.cap ≤ 4611686018427387903) : N.Fits := by
  have h1 := h.nodes
  have h2 := h.src
  have h3 := h.snk
  have h4 := h.len
  refine ⟨by unfold inB; omega, by unfold inB; omega, by unfold inB; omega, by omega, fun a ha => ?_⟩
  have := h.arc a ha
  have := hc a ha
  unfold inB
  omega
/-- The nodes of a cut and one more, up to k. -/
def moreK (s : List Int) (u : Int) (k : Nat) : List Int := ((List.range k).filter fun (v : Nat) => decide (0 < v ∧ ((v : Int) = u ∨ (v : Int) ∈ s))).map fun (v : Nat) => (v : Int)
theorem moreK_succ (s : List Int) (u : Int) (k : Nat) : moreK s u (k + 1) = moreK s u k ++ (if 0 < k ∧ ((k : Int) = u ∨ (k : Int) ∈ s) then [(k : Int)] else []) := by
  unfold moreK
  rw [List.range_succ, List.filter_append, List.map_append]
  congr 1
  by_cases h : 0 < k ∧ ((k : Int) = u ∨ (k : Int) ∈ s) <;> simp [h]
theorem moreK_length (s : List Int) (u : Int) (k : Nat) : (moreK s u k).length ≤ k := by
  unfold moreK
  rw [List.length_map]
  exact Nat.le_trans (List.length_filter_le _ _) (by simp)
theorem mem_moreK {s : List Int} {u : Int} {k : Nat} {x : Int} : x ∈ moreK s u k ↔ ∃ v : Nat, v < k ∧ 0 < v ∧ ((v : Int) = u ∨ (v : Int) ∈ s) ∧ x = v := by
  unfold moreK
  simp only [List.mem_map, List.mem_filter, List.mem_range, decide_eq_true_eq]
  constructor
  · rintro ⟨v, ⟨h1, h2, h3⟩, rfl⟩; exact ⟨v, h1, h2, h3, rfl⟩
  · rintro ⟨v, h1, h2, h3, rfl⟩; exact ⟨v, ⟨h1, h2, h3⟩, rfl⟩
theorem moreK_rise (s : List Int) (u : Int) : ∀ k, (moreK s u k).Pairwise (· < ·)
  | 0 => by simp [moreK]
  | k + 1 => by
    rw [moreK_succ]
    split
    · exact rise_app (moreK_rise s u k) fun x hx => by obtain ⟨v, h1, _, _, rfl⟩ := mem_moreK.1 hx; omega
    · rw [List.append_nil]; exact moreK_rise s u k
theorem more_cut {N : Net} {s : List Int} {u : Int} {n : Nat} (hn : N.nodes = n) (hs : IsCut N s) (hu : 1 ≤ u ∧ u ≤ N.nodes) (hsn : u ≠ N.snk) : IsCut N (moreK s u (n + 1)) ∧ ∀ x : Int, x ∈ moreK s u (n + 1) ↔ x = u ∨ x ∈ s := by
  have key : ∀ x : Int, x ∈ moreK s u (n + 1) ↔ x = u ∨ x ∈ s := by
    intro x
    rw [mem_moreK]
    constructor
    · rintro ⟨v, _, _, h, rfl⟩; exact h
    · intro h
      have hx : 1 ≤ x ∧ x ≤ N.nodes := h.elim (fun e => e ▸ hu) (fun h => hs.rng x h)
      exact ⟨x.toNat, by omega, by omega, by rw [show ((x.toNat : Nat) : Int) = x by omega]; exact h, by omega⟩
  refine ⟨⟨moreK_rise s u _, fun x hx => ?_, (key _).2 (.inr hs.src), fun h => ?_⟩, key⟩
  · exact ((key x).1 hx).elim (fun e => e ▸ hu) (fun h => hs.rng x h)
  · exact ((key _).1 h).elim (fun e => hsn e.symm) hs.snk
open Classical in
/-- What an arc changes. -/
noncomputable def chg (s : List Int) (u : Int) (a : Arc) : Int := (if a.fr = u ∧ a.to ≠ u ∧ a.to ∉ s then a.cap else 0) - (if a.to = u ∧ a.fr ≠ u ∧ a.fr ∈ s then a.cap else 0)
theorem cap_more {s t : List Int} {u : Int} (hu : u ∉ s) (ht : ∀ x : Int, x ∈ t ↔ x = u ∨ x ∈ s) : ∀ l : List Arc, capZ t l = capZ s l + (l.map (chg s u)).sum
  | [] => by simp [capZ]
  | a :: l => by
    have ih := cap_more hu ht l
    unfold capZ at ih ⊢
    simp only [List.map_cons, List.sum_cons]
    have e : (if a.fr ∈ t ∧ a.to ∉ t then a.cap else 0) = (if a.fr ∈ s ∧ a.to ∉ s then a.cap else 0) + chg s u a := by
      unfold chg
      by_cases h1 : a.fr = u <;> by_cases h2 : a.to = u <;> by_cases h3 : a.fr ∈ s <;> by_cases h4 : a.to ∈ s <;> simp [ht, h1, h2, h3, h4, hu] <;> (try simp_all) <;> (try omega)
    rw [e]; omega
theorem chg_in {s : List Int} {u : Int} : ∀ (l : List Arc), (∀ a ∈ l, 0 ≤ a.cap ∧ a.cap ≤ 1000000) → -(1000000 * (l.length : Int)) ≤ (l.map (chg s u)).sum ∧ (l.map (chg s u)).sum ≤ 1000000 * (l.length : Int)
  | [], _ => by simp
  | a :: l, h => by
    have ih := chg_in (s := s) (u := u) l fun x hx => h x (by simp [hx])
    have h1 := h a (by simp)
    have h2 : -1000000 ≤ chg s u a ∧ chg s u a ≤ 1000000 := by unfold chg; split <;> split <;> omega
    simp only [List.map_cons, List.sum_cons, List.length_cons]
    omega
set_option maxHeartbeats 1000000 in
theorem moves_fn (nodes : Int) (hn : inB nodes) (ends : Int) (he : inB ends) (A : Option Addr) (c b o : Nat) (l : List Arc) (hA : l ≠ [] → A = some ⟨b, o, none⟩) (hl : ∀ x ∈ l, inB x.fr ∧ inB x.to ∧ inB x.cap) (hs : l.length * 24 ≤ 140737488351232) (bits : Int) (_hbits : inB bits) (at_ : Int) (hat : inB at_) :
    Fn 13 [.int .i64 nodes, .int .i64 ends, .slice A l.length c, .int .i64 bits, .int .i64 at_] [] [.seg b o (arcs l)] fun v _ => v = .bool true := by
  refine Fn_of Try.func13 rfl rfl fun w0 => ?_
  (repeat' (first | refine J_seq ?_ | refine J_skip ?_ | refine J_yes rfl ?_ | refine J_no rfl ?_))
  refine J_region ?_
  refine JL_all [] rfl ?_
  (repeat' (first | refine J_seq ?_ | refine J_skip ?_ | refine J_yes rfl ?_ | refine J_no rfl ?_))
  refine J_region ?_
  refine JL_callR [] (shown14_fn) rfl rfl rfl rfl (by kernel_rfl) trivial (fun _ => rfl) ?_
  rintro v H' ⟨rfl, rfl⟩
  refine ⟨rfl, ?_⟩
  refine JL_all [] rfl ?_
  (repeat' (first | refine J_seq ?_ | refine J_skip ?_ | refine J_yes rfl ?_ | refine J_no rfl ?_))
  refine J_region ?_
  refine JL_all [] rfl ?_
  (repeat' (first | refine J_seq ?_ | refine J_skip ?_ | refine J_yes rfl ?_ | refine J_no rfl ?_))
  refine J_region ?_
  refine JL_run [] rfl ?_
  refine JL_callR [] (made14_fn nodes ends hn he A c b o l hA hl (by omega)) rfl rfl rfl rfl (by kernel_rfl) ⟨⟨0, _, by simp, rfl, shows_seg _ _ _, seen_seg⟩, trivial⟩ (fun _ => rfl) ?_
  rintro v H' ⟨N, A', c', hR, hn9, h24, hcap, rfl, rfl⟩
  refine ⟨rfl, ?_⟩
  refine JL_alloc rfl rfl rfl (fun _ => rfl) fun b12 => ?_
  refine JL_store 0 rfl rfl rfl rfl rfl [] rfl ?_
  refine JL_know (own_is 1 rfl) fun ⟨_, _, hA1, hl1⟩ => ?_
  obtain ⟨g1, hA1⟩ := own_at hA1 hl1
  have hA1' : N.arcs ≠ [] → A' = some ⟨g1, 0, none⟩ := fun h => hA1 (fun h0 => h (List.length_eq_zero_iff.1 (by have := arcs_length N.arcs; rw [h0] at this; simp at this; omega)))
  have hF := fits_of hR fun a ha => by have := hcap a ha; omega
  have hnn := hR.nodes
  have hsr := hR.src
  have hsk := hR.snk
  obtain ⟨n, hnd⟩ : ∃ n : Nat, N.nodes = n := ⟨N.nodes.toNat, by omega⟩
  refine JL_nil ?_
  (repeat' (first | refine J_seq ?_ | refine J_skip ?_ | refine J_yes rfl ?_ | refine J_no rfl ?_))
  refine J_region ?_
  refine JL_val [] (v := netV N A' c') (OpV_blk 0 rfl rfl rfl rfl) rfl ?_
  refine JL_run [] rfl ?_
  refine JL_callR [] (some_fn N hR A' c' bits) rfl rfl rfl rfl (by kernel_rfl) trivial (fun _ => rfl) ?_
  rintro v H' ⟨s, A2, c2, hcut, hsl, rfl, rfl⟩
  refine ⟨rfl, ?_⟩
  refine JL_all [] rfl ?_
  refine J_know (own_is 0 rfl) fun ⟨_, _, hA2, hl2⟩ => ?_
  obtain ⟨g2, hA2⟩ := own_at hA2 hl2
  have hA2' : s ≠ [] → A2 = some ⟨g2, 0, none⟩ := fun h => hA2 (by simpa [ints] using h)
  have hp := pickZ_in (c := at_) (n := N.nodes) (by omega)
  obtain ⟨u, hu⟩ : ∃ u, u = 1 + pickZ at_ N.nodes := ⟨_, rfl⟩
  have hur : 1 ≤ u ∧ u ≤ N.nodes := by omega
  (repeat' (first | refine J_seq ?_ | refine J_skip ?_ | refine J_yes rfl ?_ | refine J_no rfl ?_))
  refine J_region ?_
  refine JL_run [] rfl ?_
  refine JL_val [] (OpV_blk 1 rfl rfl rfl rfl) rfl ?_
  refine JL_callR [] (pick14_fn hat (by omega : 0 < N.nodes)) rfl rfl rfl rfl (by kernel_rfl) trivial (fun _ => rfl) ?_
  rintro v H' ⟨rfl, rfl⟩
  refine ⟨rfl, ?_⟩
  refine JL_all [] rfl ?_
  refine J_set 14 (v' := .int .i64 u) rfl (congrArg (Value.int .i64) ((w64 (by omega)).trans hu.symm)) ?_
  have H1 := has_fn A2 c2 g2 0 s hA2' (by omega) u
  (repeat' (first | refine J_seq ?_ | refine J_skip ?_ | refine J_yes rfl ?_ | refine J_no rfl ?_))
  refine J_region ?_
  refine JL_run [] rfl ?_
  refine JL_val [] (OpV_blk 1 rfl rfl rfl rfl) rfl ?_
  refine JL_run [] rfl ?_
  by_cases k1 : u = N.src
  · refine JL_set 42 (v' := .bool true) rfl (congrArg Value.bool (cdec_yes k1)) ?_
    refine JL_run [4] rfl ?_
    refine JL_set 48 (v' := .bool true) rfl rfl ?_
    refine JL_all [4, 10] rfl ?_
    refine J_yes rfl ?_
    (repeat' (first | refine J_seq ?_ | refine J_skip ?_ | refine J_yes rfl ?_ | refine J_no rfl ?_))
    refine J_region ?_
    refine JL_all [] rfl ?_
    exact J_ret ⟨_, rfl, rfl⟩
  refine JL_set 42 (v' := .bool false) rfl (congrArg Value.bool (cdec_no k1)) ?_
  refine JL_run [4] rfl ?_
  refine JL_val [4] (OpV_blk 1 rfl rfl rfl rfl) rfl ?_
  refine JL_run [4] rfl ?_
  by_cases k2 : u = N.snk
  · refine JL_set 48 (v' := .bool true) rfl (congrArg Value.bool (cdec_yes k2)) ?_
    refine JL_all [4, 10] rfl ?_
    refine J_yes rfl ?_
    (repeat' (first | refine J_seq ?_ | refine J_skip ?_ | refine J_yes rfl ?_ | refine J_no rfl ?_))
    refine J_region ?_
    refine JL_all [] rfl ?_
    exact J_ret ⟨_, rfl, rfl⟩
  refine JL_set 48 (v' := .bool false) rfl (congrArg Value.bool (cdec_no k2)) ?_
  refine JL_run [4, 10] rfl ?_
  refine JL_callR [4, 10] H1 rfl rfl rfl rfl (by kernel_rfl) ⟨⟨0, _, by simp, rfl, shows_ownS hA2, seen_ownS hA2⟩, trivial⟩ (fun _ => rfl) ?_
  rintro v H' ⟨rfl, rfl⟩
  refine ⟨rfl, ?_⟩
  refine JL_all [4, 10] rfl ?_
  refine J_dec rfl (fun h => ?_) (fun hus => J_skip ?_)
  · (repeat' (first | refine J_seq ?_ | refine J_skip ?_ | refine J_yes rfl ?_ | refine J_no rfl ?_))
    refine J_region ?_
    refine JL_all [] rfl ?_
    exact J_ret ⟨_, rfl, rfl⟩
  obtain ⟨hmc, hmem⟩ := more_cut hnd hcut hur k2
  (repeat' (first | refine J_seq ?_ | refine J_skip ?_ | refine J_yes rfl ?_ | refine J_no rfl ?_))
  refine J_region ?_
  refine JL_all [] rfl ?_
  (repeat' (first | refine J_seq ?_ | refine J_skip ?_ | refine J_yes rfl ?_ | refine J_no rfl ?_))
  refine J_region ?_
  refine JL_all [] rfl ?_
  refine J_block ?_
  refine J_addnil 3 1 ?_
  refine J_loop (σ := Nat × Option Addr × Nat) (fun t => [(16, .int .i64 (t.1 : Int)), (15, .slice t.2.1 (moreK s u t.1).length t.2.2), (14, .int .i64 u), (13, .slice A2 s.length c2), (12, .pointer (some ⟨b12, 0, none⟩))])
    (fun t => [.own (.slice t.2.1 (moreK s u t.1).length t.2.2) 3 1 (moreK s u t.1).length (ints (moreK s u t.1)), .own (.slice A2 s.length c2) 3 1 s.length (ints s), blk b12 39 (netC N A' c'), .own (.slice A' N.arcs.length c') 43 3 N.arcs.length (arcs N.arcs)])
    (fun t => 1 ≤ t.1 ∧ t.1 ≤ n + 1) (fun t => n + 1 - t.1)
    (1, none, 0) [0, 1, 2, 3] ⟨rfl, rfl, rfl, rfl, rfl, trivial⟩ (by decide) rfl ⟨Nat.le_refl _, by simp only; omega⟩ ?_
  rintro ⟨k, A3, c3⟩ ⟨hk1, hk2⟩
  simp only at hk1 hk2 ⊢
  have hml := moreK_length s u k
  (repeat' (first | refine J_seq ?_ | refine J_skip ?_ | refine J_yes rfl ?_ | refine J_no rfl ?_))
  refine J_region ?_
  refine JL_run [] rfl ?_
  refine JL_val [] (OpV_blk 2 rfl rfl rfl rfl) rfl ?_
  refine JL_all [] rfl ?_
  refine J_dec rfl (fun hle => J_skip ?_) (fun hgt => J_exit ?_)
  · have hq : IntKind.i64.wrap ((k : Int) + 1) = ((k + 1 : Nat) : Int) := w64 (by omega)
    have H2 := has_fn A2 c2 g2 0 s hA2' (by omega) (k : Int)
    have hms := moreK_succ s u k
    refine J_seq (J_block ?_)
    by_cases hgo : (k : Int) = u ∨ (k : Int) ∈ s
    · rw [if_pos ⟨by omega, hgo⟩] at hms
      refine J_cut [(66, .bool true), (16, .int .i64 (k : Int)), (15, .slice A3 (moreK s u k).length c3), (14, .int .i64 u), (13, .slice A2 s.length c2), (12, .pointer (some ⟨b12, 0, none⟩))]
        [.own (.slice A3 (moreK s u k).length c3) 3 1 (moreK s u k).length (ints (moreK s u k)), .own (.slice A2 s.length c2) 3 1 s.length (ints s), blk b12 39 (netC N A' c'), .own (.slice A' N.arcs.length c') 43 3 N.arcs.length (arcs N.arcs)] ?_ ?_
      · (repeat' (first | refine J_seq ?_ | refine J_skip ?_ | refine J_yes rfl ?_ | refine J_no rfl ?_))
        refine J_region ?_
        refine JL_run [] rfl ?_
        by_cases g3 : (k : Int) = u
        · refine JL_set 62 (v' := .bool true) rfl (congrArg Value.bool (cdec_yes g3)) ?_
          refine JL_all [3] rfl ?_
          exact ⟨[0, 1, 2, 3], ⟨rfl, rfl, rfl, rfl, rfl, rfl, trivial⟩, by decide, rfl⟩
        · refine JL_set 62 (v' := .bool false) rfl (congrArg Value.bool (cdec_no g3)) ?_
          refine JL_run [3] rfl ?_
          refine JL_callR [3] H2 rfl rfl rfl rfl (by kernel_rfl) ⟨⟨1, _, by simp, rfl, shows_ownS hA2, seen_ownS hA2⟩, trivial⟩ (fun _ => rfl) ?_
          rintro v H' ⟨rfl, rfl⟩
          refine ⟨rfl, ?_⟩
          refine JL_all [3] rfl ?_
          exact ⟨[0, 1, 2, 3], ⟨congrArg some (congrArg Value.bool (cdec_yes (hgo.resolve_left g3))), rfl, rfl, rfl, rfl, rfl, trivial⟩, by decide, rfl⟩
      · refine J_yes rfl ?_
        refine J_region (JL_run [] rfl ?_)
        refine JL_lit rfl rfl rfl rfl rfl rfl rfl (fun _ => rfl) fun g3 => ?_
        refine JL_appendS (n := (moreK s u k).length) (m := 1) (off := 0) (news := ints [(k : Int)]) 1 0 rfl rfl rfl rfl rfl rfl (by decide) rfl rfl (shows_blk g3 _ _ (0, 0)) (fun _ => rfl) rfl rfl (by omega) (by omega) (fun _ _ => rfl) fun A4 c4 => ?_
        rw [show (moreK s u k).length + 1 = (moreK s u (k + 1)).length by rw [hms]; simp, show ints (moreK s u k) ++ ints [(k : Int)] = ints (moreK s u (k + 1)) by rw [hms]; simp [ints]]
        refine JL_all [] rfl ?_
        (repeat' (first | refine J_seq ?_ | refine J_skip ?_ | refine J_yes rfl ?_ | refine J_no rfl ?_))
        refine J_region ?_
        refine JL_all [] rfl ?_
        exact ⟨(k + 1, A4, c4), [1, 2, 3, 4], ⟨congrArg some (congrArg (Value.int .i64) hq), rfl, rfl, rfl, rfl, trivial⟩, by decide, rfl, ⟨by simp only; omega, by simp only; omega⟩, by simp only; omega⟩
    · rw [if_neg (fun h => hgo h.2), List.append_nil] at hms
      (repeat' (first | refine J_seq ?_ | refine J_skip ?_ | refine J_yes rfl ?_ | refine J_no rfl ?_))
      refine J_region ?_
      refine JL_run [] rfl ?_
      refine JL_set 62 (v' := .bool false) rfl (congrArg Value.bool (cdec_no (fun h => hgo (.inl h)))) ?_
      refine JL_run [3] rfl ?_
      refine JL_callR [3] H2 rfl rfl rfl rfl (by kernel_rfl) ⟨⟨1, _, by simp, rfl, shows_ownS hA2, seen_ownS hA2⟩, trivial⟩ (fun _ => rfl) ?_
      rintro v H' ⟨rfl, rfl⟩
      refine ⟨rfl, ?_⟩
      refine JL_run [3] rfl ?_
      refine JL_set 66 (v' := .bool false) rfl (congrArg Value.bool (cdec_no (fun h => hgo (.inr h)))) ?_
      refine JL_nil ?_
      refine J_no rfl (J_skip ?_)
      (repeat' (first | refine J_seq ?_ | refine J_skip ?_ | refine J_yes rfl ?_ | refine J_no rfl ?_))
      refine J_region ?_
      refine JL_all [] rfl ?_
      exact ⟨(k + 1, A3, c3), [0, 1, 2, 3], ⟨congrArg some (congrArg (Value.int .i64) hq), by simp only [hms]; rfl, rfl, rfl, rfl, trivial⟩, by decide, by simp only [hms]; rfl, ⟨by simp only; omega, by simp only; omega⟩, by simp only; omega⟩
  · obtain rfl : k = n + 1 := by omega
    obtain ⟨t, ht⟩ : ∃ t, t = moreK s u (n + 1) := ⟨_, rfl⟩
    rw [← ht] at hml hmc hmem ⊢
    refine J_know (own_is 0 rfl) fun ⟨_, _, hA3, hl3⟩ => ?_
    obtain ⟨g3, hA3⟩ := own_at hA3 hl3
    have hA3' : t ≠ [] → A3 = some ⟨g3, 0, none⟩ := fun h => hA3 (by simpa [ints] using h)
    (repeat' (first | refine J_seq ?_ | refine J_skip ?_ | refine J_yes rfl ?_ | refine J_no rfl ?_))
    refine J_region ?_
    refine JL_val [] (v := netV N A' c') (OpV_blk 2 rfl rfl rfl rfl) rfl ?_
    refine JL_run [] rfl ?_
    refine JL_callR [] (capacity_fn N hF hR A' c' g1 0 hA1' s hcut (by omega) A2 c2 g2 0 hA2') rfl rfl rfl rfl (by kernel_rfl) ⟨⟨3, _, by simp, rfl, shows_ownS hA1, seen_ownS hA1⟩, ⟨1, _, by simp, rfl, shows_ownS hA2, seen_ownS hA2⟩, trivial⟩ (fun _ => rfl) ?_
    rintro v H' ⟨rfl, rfl⟩
    refine ⟨rfl, ?_⟩
    refine JL_all [] rfl ?_
    (repeat' (first | refine J_seq ?_ | refine J_skip ?_ | refine J_yes rfl ?_ | refine J_no rfl ?_))
    refine J_region ?_
    refine JL_val [] (v := netV N A' c') (OpV_blk 2 rfl rfl rfl rfl) rfl ?_
    refine JL_run [] rfl ?_
    refine JL_callR [] (capacity_fn N hF hR A' c' g1 0 hA1' t hmc (by omega) A3 c3 g3 0 hA3') rfl rfl rfl rfl (by kernel_rfl) ⟨⟨3, _, by simp, rfl, shows_ownS hA1, seen_ownS hA1⟩, ⟨0, _, by simp, rfl, shows_ownS hA3, seen_ownS hA3⟩, trivial⟩ (fun _ => rfl) ?_
    rintro v H' ⟨rfl, rfl⟩
    refine ⟨rfl, ?_⟩
    refine JL_all [] rfl ?_
    rw [cap_more hus hmem]
    (repeat' (first | refine J_seq ?_ | refine J_skip ?_ | refine J_yes rfl ?_ | refine J_no rfl ?_))
    refine J_region ?_
    refine JL_all [] rfl ?_
    refine J_block ?_
    refine J_loop (σ := Nat) (fun k => [(21, .int .i64 k), (20, .int .i64 0), (19, .int .i64 (capZ s N.arcs + (N.arcs.map (chg s u)).sum)), (18, .int .i64 0), (17, .int .i64 (capZ s N.arcs + ((N.arcs.take k).map (chg s u)).sum)), (14, .int .i64 u), (13, .slice A2 s.length c2), (12, .pointer (some ⟨b12, 0, none⟩))])
      (fun k => [.own (.slice A2 s.length c2) 3 1 s.length (ints s), blk b12 39 (netC N A' c'), .own (.slice A' N.arcs.length c') 43 3 N.arcs.length (arcs N.arcs)])
      (fun k => k ≤ N.arcs.length) (fun k => N.arcs.length - k)
      0 [1, 2, 3] ⟨rfl, rfl, rfl, rfl, by simp only [List.take_zero, List.map_nil, List.sum_nil, Int.add_zero]; rfl, rfl, rfl, rfl, trivial⟩ (by decide) rfl (Nat.zero_le _) ?_
    intro k hk
    (repeat' (first | refine J_seq ?_ | refine J_skip ?_ | refine J_yes rfl ?_ | refine J_no rfl ?_))
    refine J_region ?_
    refine JL_run [] rfl ?_
    refine JL_val [] (OpV_blk 1 rfl rfl rfl rfl) rfl ?_
    refine JL_all [] rfl ?_
    refine J_dec rfl (fun hlt => J_skip ?_) (fun hge => J_exit ?_)
    · have hlt : k < N.arcs.length := by omega
      obtain ⟨a, ha⟩ : ∃ a, N.arcs[k]? = some a := ⟨N.arcs[k], List.getElem?_eq_getElem hlt⟩
      obtain rfl := hA1' (by intro h0; rw [h0] at hlt; simp at hlt)
      have hcz := capZ_in hR s
      have hc2 := chg_in (s := s) (u := u) (N.arcs.take k) fun x hx => ⟨(hR.arc x (List.mem_of_mem_take hx)).2.2, hcap x (List.mem_of_mem_take hx)⟩
      have hca := hcap a (List.mem_of_getElem? ha)
      have hca0 := (hR.arc a (List.mem_of_getElem? ha)).2.2
      have htl : (N.arcs.take k).length ≤ 24 := by rw [List.length_take]; omega
      have htk : ((N.arcs.take (k + 1)).map (chg s u)).sum = ((N.arcs.take k).map (chg s u)).sum + chg s u a := by rw [List.take_add_one, ha, List.map_append, List.sum_append]; simp
      obtain ⟨X, hX⟩ : ∃ X, X = capZ s N.arcs + ((N.arcs.take k).map (chg s u)).sum := ⟨_, rfl⟩
      obtain ⟨d, hd⟩ : ∃ d, d = if a.to = u ∧ a.fr ≠ u ∧ a.fr ∈ s then a.cap else 0 := ⟨_, rfl⟩
      obtain ⟨e, hee⟩ : ∃ e, e = if a.fr = u ∧ a.to ≠ u ∧ a.to ∉ s then a.cap else 0 := ⟨_, rfl⟩
      have hde : chg s u a = e - d := by rw [hd, hee]; unfold chg; congr
      have hdb : 0 ≤ d ∧ d ≤ 1000000 := by split at hd <;> omega
      have heb : 0 ≤ e ∧ e ≤ 1000000 := by split at hee <;> omega
      rw [← hX]
      have Hf := has_fn A2 c2 g2 0 s hA2' (by omega) a.fr
      have Ht := has_fn A2 c2 g2 0 s hA2' (by omega) a.to
      have hq : IntKind.i64.wrap ((k : Int) + 1) = ((k + 1 : Nat) : Int) := w64 (by omega)
      refine J_seq (J_block ?_)
      (repeat' (first | refine J_seq ?_ | refine J_skip ?_ | refine J_yes rfl ?_ | refine J_no rfl ?_))
      refine J_region ?_
      refine JL_run [] rfl ?_
      refine JL_val [] (OpV_blk 1 rfl rfl rfl rfl) rfl ?_
      refine JL_run [] rfl ?_
      refine JL_val [] (idxNz rfl rfl rfl rfl rfl hlt) rfl ?_
      refine JL_val [] (OpV_own 2 rfl rfl rfl (readT_arc ha)) rfl ?_
      refine JL_alloc rfl rfl rfl (fun _ => rfl) fun q => ?_
      refine JL_store 0 rfl rfl rfl rfl rfl [] rfl ?_
      refine JL_nil ?_
      refine J_cut [(22, .pointer (some ⟨q, 0, none⟩)), (17, .int .i64 (X - d)), (21, .int .i64 k), (20, .int .i64 0), (19, .int .i64 (capZ s N.arcs + (N.arcs.map (chg s u)).sum)), (18, .int .i64 0), (14, .int .i64 u), (13, .slice A2 s.length c2), (12, .pointer (some ⟨b12, 0, none⟩))] [blk q 43 [.int .i64 a.fr, .int .i64 a.to, .int .i64 a.cap], .own (.slice A2 s.length c2) 3 1 s.length (ints s), blk b12 39 (netC N (some ⟨g1, 0, none⟩) c'), .own (.slice (some ⟨g1, 0, none⟩) N.arcs.length c') 43 3 N.arcs.length (arcs N.arcs)] ?_ ?_
      · (repeat' (first | refine J_seq ?_ | refine J_skip ?_ | refine J_yes rfl ?_ | refine J_no rfl ?_))
        refine J_region ?_
        refine JL_run [] rfl ?_
        refine JL_val [] (OpV_blk 0 rfl rfl rfl rfl) rfl ?_
        refine JL_run [] rfl ?_
        by_cases p1 : a.to = u
        case neg =>
          rw [if_neg (fun hc => p1 hc.1)] at hd
          refine JL_set 99 (v' := .bool false) rfl (congrArg Value.bool (cdec_no p1)) ?_
          refine JL_all [4, 10] rfl ?_
          refine J_no rfl (J_skip ?_)
          exact ⟨[0, 1, 2, 3], ⟨rfl, congrArg some (congrArg (Value.int .i64) (by omega)), rfl, rfl, rfl, rfl, rfl, rfl, rfl, trivial⟩, by decide, rfl⟩
        refine JL_set 99 (v' := .bool true) rfl (congrArg Value.bool (cdec_yes p1)) ?_
        refine JL_run [4] rfl ?_
        refine JL_val [4] (OpV_blk 0 rfl rfl rfl rfl) rfl ?_
        refine JL_run [4] rfl ?_
        by_cases p2 : a.fr = u
        · rw [if_neg (fun hc => hc.2.1 p2)] at hd
          refine JL_set 105 (v' := .bool false) rfl (congrArg Value.bool (cdec_no (fun h => h p2))) ?_
          refine JL_all [4, 10] rfl ?_
          refine J_no rfl (J_skip ?_)
          exact ⟨[0, 1, 2, 3], ⟨rfl, congrArg some (congrArg (Value.int .i64) (by omega)), rfl, rfl, rfl, rfl, rfl, rfl, rfl, trivial⟩, by decide, rfl⟩
        refine JL_set 105 (v' := .bool true) rfl (congrArg Value.bool (cdec_yes p2)) ?_
        refine JL_run [4, 10] rfl ?_
        refine JL_val [4, 10] (OpV_blk 0 rfl rfl rfl rfl) rfl ?_
        refine JL_callR [4, 10] Hf rfl rfl rfl rfl (by kernel_rfl) ⟨⟨1, _, by simp, rfl, shows_ownS hA2, seen_ownS hA2⟩, trivial⟩ (fun _ => rfl) ?_
        rintro v H' ⟨rfl, rfl⟩
        refine ⟨rfl, ?_⟩
        refine JL_run [4, 10] rfl ?_
        by_cases p3 : a.fr ∈ s
        case neg =>
          rw [if_neg (fun hc => p3 hc.2.2)] at hd
          refine JL_set 110 (v' := .bool false) rfl (congrArg Value.bool (cdec_no p3)) ?_
          refine JL_nil ?_
          refine J_no rfl (J_skip ?_)
          exact ⟨[0, 1, 2, 3], ⟨rfl, congrArg some (congrArg (Value.int .i64) (by omega)), rfl, rfl, rfl, rfl, rfl, rfl, rfl, trivial⟩, by decide, rfl⟩
        rw [if_pos ⟨p1, p2, p3⟩] at hd
        refine JL_set 110 (v' := .bool true) rfl (congrArg Value.bool (cdec_yes p3)) ?_
        refine JL_nil ?_
        refine J_yes rfl ?_
        refine J_region (JL_run [] rfl ?_)
        refine JL_val [] (OpV_blk 0 rfl rfl rfl rfl) rfl ?_
        refine JL_all [] rfl ?_
        exact ⟨[0, 1, 2, 3], ⟨rfl, congrArg some (congrArg (Value.int .i64) ((w64 (by omega)).trans (by omega))), rfl, rfl, rfl, rfl, rfl, rfl, rfl, trivial⟩, by decide, rfl⟩
      refine J_cut [(131, .bool (cdec (a.fr = u ∧ a.to ≠ u ∧ a.to ∉ s))), (22, .pointer (some ⟨q, 0, none⟩)), (17, .int .i64 (X - d)), (21, .int .i64 k), (20, .int .i64 0), (19, .int .i64 (capZ s N.arcs + (N.arcs.map (chg s u)).sum)), (18, .int .i64 0), (14, .int .i64 u), (13, .slice A2 s.length c2), (12, .pointer (some ⟨b12, 0, none⟩))] [blk q 43 [.int .i64 a.fr, .int .i64 a.to, .int .i64 a.cap], .own (.slice A2 s.length c2) 3 1 s.length (ints s), blk b12 39 (netC N (some ⟨g1, 0, none⟩) c'), .own (.slice (some ⟨g1, 0, none⟩) N.arcs.length c') 43 3 N.arcs.length (arcs N.arcs)] ?_ ?_
      · (repeat' (first | refine J_seq ?_ | refine J_skip ?_ | refine J_yes rfl ?_ | refine J_no rfl ?_))
        refine J_region ?_
        refine JL_run [] rfl ?_
        refine JL_val [] (OpV_blk 0 rfl rfl rfl rfl) rfl ?_
        refine JL_run [] rfl ?_
        by_cases p1 : a.fr = u
        case neg =>
          refine JL_set 119 (v' := .bool false) rfl (congrArg Value.bool (cdec_no p1)) ?_
          refine JL_all [4, 10] rfl ?_
          exact ⟨[0, 1, 2, 3], ⟨congrArg some (congrArg Value.bool (cdec_no (fun hc => p1 hc.1)).symm), rfl, rfl, rfl, rfl, rfl, rfl, rfl, rfl, rfl, trivial⟩, by decide, rfl⟩

        refine JL_set 119 (v' := .bool true) rfl (congrArg Value.bool (cdec_yes p1)) ?_
        refine JL_run [4] rfl ?_
        refine JL_val [4] (OpV_blk 0 rfl rfl rfl rfl) rfl ?_
        refine JL_run [4] rfl ?_
        by_cases p2 : a.to = u
        · refine JL_set 125 (v' := .bool false) rfl (congrArg Value.bool (cdec_no (fun h => h p2))) ?_
          refine JL_all [4, 10] rfl ?_
          exact ⟨[0, 1, 2, 3], ⟨congrArg some (congrArg Value.bool (cdec_no (fun hc => hc.2.1 p2)).symm), rfl, rfl, rfl, rfl, rfl, rfl, rfl, rfl, rfl, trivial⟩, by decide, rfl⟩

        refine JL_set 125 (v' := .bool true) rfl (congrArg Value.bool (cdec_yes p2)) ?_
        refine JL_run [4, 10] rfl ?_
        refine JL_val [4, 10] (OpV_blk 0 rfl rfl rfl rfl) rfl ?_
        refine JL_callR [4, 10] Ht rfl rfl rfl rfl (by kernel_rfl) ⟨⟨1, _, by simp, rfl, shows_ownS hA2, seen_ownS hA2⟩, trivial⟩ (fun _ => rfl) ?_
        rintro v H' ⟨rfl, rfl⟩
        refine ⟨rfl, ?_⟩
        refine JL_run [4, 10] rfl ?_
        by_cases p3 : a.to ∈ s
        · refine JL_set 131 (v' := .bool false) rfl (congrArg Value.bool (by rw [cdec_yes p3]; rfl)) ?_
          refine JL_nil ?_
          exact ⟨[0, 1, 2, 3], ⟨congrArg some (congrArg Value.bool (cdec_no (fun hc => hc.2.2 p3)).symm), rfl, rfl, rfl, rfl, rfl, rfl, rfl, rfl, rfl, trivial⟩, by decide, rfl⟩

        · refine JL_set 131 (v' := .bool true) rfl (congrArg Value.bool (by rw [cdec_no p3]; rfl)) ?_
          refine JL_nil ?_
          exact ⟨[0, 1, 2, 3], ⟨congrArg some (congrArg Value.bool (cdec_yes ⟨p1, p2, p3⟩).symm), rfl, rfl, rfl, rfl, rfl, rfl, rfl, rfl, rfl, trivial⟩, by decide, rfl⟩

      refine J_dec rfl (fun hp => ?_) (fun hp => J_skip ?_)
      · rw [if_pos hp] at hee
        refine J_region (JL_run [] rfl ?_)
        refine JL_val [] (OpV_blk 0 rfl rfl rfl rfl) rfl ?_
        refine JL_all [] rfl ?_
        (repeat' (first | refine J_seq ?_ | refine J_skip ?_ | refine J_yes rfl ?_ | refine J_no rfl ?_))
        refine J_region ?_
        refine JL_all [] rfl ?_
        refine ⟨k + 1, [1, 2, 3], ⟨congrArg some (congrArg (Value.int .i64) hq), rfl, rfl, rfl, ?_, rfl, rfl, rfl, trivial⟩, by decide, rfl, by omega, by omega⟩
        refine congrArg some (congrArg (Value.int .i64) ((w64 (by omega)).trans ?_))
        rw [htk, hde]; omega
      · rw [if_neg hp] at hee
        (repeat' (first | refine J_seq ?_ | refine J_skip ?_ | refine J_yes rfl ?_ | refine J_no rfl ?_))
        refine J_region ?_
        refine JL_all [] rfl ?_
        refine ⟨k + 1, [1, 2, 3], ⟨congrArg some (congrArg (Value.int .i64) hq), rfl, rfl, rfl, ?_, rfl, rfl, rfl, trivial⟩, by decide, rfl, by omega, by omega⟩
        refine congrArg some (congrArg (Value.int .i64) ?_)
        rw [htk, hde]; omega
    · have hk' : k = N.arcs.length := by omega
      subst hk'
      rw [List.take_length]
      (repeat' (first | refine J_seq ?_ | refine J_skip ?_ | refine J_yes rfl ?_ | refine J_no rfl ?_))
      refine J_region ?_
      refine JL_run [] rfl ?_
      refine JL_set 138 (v' := .bool true) rfl (congrArg Value.bool (cdec_yes rfl)) ?_
      refine JL_run [2] rfl ?_
      refine JL_set 142 (v' := .bool true) rfl (congrArg Value.bool (cdec_yes rfl)) ?_
      refine JL_all [2, 6] rfl ?_
      exact J_ret ⟨_, rfl, congrArg Value.bool (cdec_yes rfl)⟩
end Go.Proofs.Ytopcgkbjijdabaa
