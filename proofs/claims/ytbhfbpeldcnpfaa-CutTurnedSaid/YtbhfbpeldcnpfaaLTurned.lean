
/- CutTurned: the least and the greatest cut of a network turned. No condition. -/
import Derived.Test.YtbhfbpeldcnpfaaLStrong
namespace Go.Proofs.Ytbhfbpeldcnpfaa
open Go.RowKit
/-- The nodes that are not of a row. -/
def othK (s : List Int) (k : Nat) : List Int := ((List.range k).filter fun (v : Nat) => decide (0 < v ∧ (v : Int) ∉ s)).map fun (v : Nat) => (v : Int)
theorem othK_succ (s : List Int) (k : Nat) : othK s (k + 1) = othK s k ++ (if 0 < k ∧ (k : Int) ∉ s then [(k : Int)] else []) := by
  unfold othK
  rw [List.range_succ, List.filter_append, List.map_append]
  congr 1
  by_cases h : 0 < k ∧ (k : Int) ∉ s <;> simp [h]
theorem othK_length (s : List Int) (k : Nat) : (othK s k).length ≤ k := by
  unfold othK
  rw [List.length_map]
  exact Nat.le_trans (List.length_filter_le _ _) (by simp)
theorem mem_othK {s : List Int} {k : Nat} {x : Int} : x ∈ othK s k ↔ 1 ≤ x ∧ x < k ∧ x ∉ s := by
  unfold othK
  simp only [List.mem_map, List.mem_filter, List.mem_range, decide_eq_true_eq]
  constructor
  · rintro ⟨v, ⟨h1, h2, h3⟩, rfl⟩; exact ⟨by omega, by omega, h3⟩
  · rintro ⟨h1, h2, h3⟩
    have e : ((x.toNat : Nat) : Int) = x := by omega
    exact ⟨x.toNat, ⟨by omega, by omega, by rw [e]; exact h3⟩, e⟩
theorem oth_rise (s : List Int) : ∀ k, (othK s k).Pairwise (· < ·)
  | 0 => by simp [othK]
  | k + 1 => by
    rw [othK_succ]
    split
    · refine rise_app (oth_rise s k) fun x hx => ?_
      have := (mem_othK.1 hx).2.1
      omega
    · rw [List.append_nil]; exact oth_rise s k
theorem oth_cut {N : Net} {n : Nat} (hR : N.Right) (hn : N.nodes = n) {s : List Int} (hs : IsCut N s) : IsCut (turnN N) (othK s (n + 1)) := by
  have hsr := hR.src
  have hsk := hR.snk
  refine ⟨oth_rise _ _, fun x hx => ?_, mem_othK.2 ⟨hsk.1, by show N.snk < _; omega, hs.snk⟩, fun h => (mem_othK.1 h).2.2 hs.src⟩
  have := mem_othK.1 hx
  exact ⟨this.1, by show x ≤ N.nodes; omega⟩
theorem oth_iff {N : Net} {n : Nat} (hn : N.nodes = n) {s : List Int} {x : Int} (hx : 1 ≤ x ∧ x ≤ N.nodes) : x ∈ othK s (n + 1) ↔ x ∉ s := by
  rw [mem_othK]
  exact ⟨fun h => h.2.2, fun h => ⟨hx.1, by omega, h⟩⟩
theorem cap_turn {N : Net} {n : Nat} (hR : N.Right) (hn : N.nodes = n) (s : List Int) : capZ (othK s (n + 1)) (turnN N).arcs = capZ s N.arcs := by
  show capZ (othK s (n + 1)) (N.arcs.map turnA) = _
  unfold capZ
  rw [List.map_map]
  congr 1
  refine List.map_congr_left fun a ha => ?_
  have hr := hR.arc a ha
  have h1 := oth_iff (s := s) hn hr.1
  have h2 := oth_iff (s := s) hn hr.2.1
  show (if a.to ∈ othK s (n + 1) ∧ a.fr ∉ othK s (n + 1) then a.cap else 0) = _
  by_cases k1 : a.fr ∈ s <;> by_cases k2 : a.to ∈ s <;> simp [h1, h2, k1, k2]
theorem cross_turn {N : Net} {n : Nat} (hR : N.Right) (hn : N.nodes = n) (s : List Int) : ∀ k, k ≤ N.arcs.length → crossK (turnN N) (othK s (n + 1)) k = crossK N s k
  | 0, _ => rfl
  | k + 1, hk => by
    obtain ⟨a, ha⟩ : ∃ a, N.arcs[k]? = some a := ⟨N.arcs[k], List.getElem?_eq_getElem (by omega)⟩
    have hr := hR.arc a (List.mem_of_getElem? ha)
    have ha' : (turnN N).arcs[k]? = some (turnA a) := by show (N.arcs.map turnA)[k]? = _; rw [List.getElem?_map, ha]; rfl
    have h1 := oth_iff (s := s) hn hr.1
    have h2 := oth_iff (s := s) hn hr.2.1
    rw [crossK_succ ha', crossK_succ ha, cross_turn hR hn s k (by omega)]
    congr 1
    show (if a.to ∈ othK s (n + 1) ∧ a.fr ∉ othK s (n + 1) then _ else _) = _
    by_cases k1 : a.fr ∈ s <;> by_cases k2 : a.to ∈ s <;> simp [h1, h2, k1, k2]
theorem turn_turn (N : Net) : turnN (turnN N) = N := by
  obtain ⟨n, s, t, l⟩ := N
  show (⟨n, s, t, (l.map turnA).map turnA⟩ : Net) = _
  congr 1
  rw [List.map_map]
  exact (List.map_congr_left fun a _ => rfl).trans (List.map_id l)
theorem others_fn (N : Net) (n : Nat) (hn : N.nodes = n) (hn5 : n ≤ 500) (A : Option Addr) (c : Nat) (S : Option Addr) (cs bs os : Nat) (s : List Int) (hS : s ≠ [] → S = some ⟨bs, os, none⟩) (hsl : s.length ≤ 100000) :
    Fn 28 [netV N A c, .slice S s.length cs] [] [.seg bs os (ints s)] fun v H' => ∃ (A' : Option Addr) (c' : Nat), v = .slice A' (othK s (n + 1)).length c' ∧ H' = [.own (.slice A' (othK s (n + 1)).length c') 3 1 (othK s (n + 1)).length (ints (othK s (n + 1)))] := by
  refine Fn_of Try.func28 rfl rfl fun w0 => ?_
  (repeat' (first | refine J_seq ?_ | refine J_skip ?_ | refine J_yes rfl ?_ | refine J_no rfl ?_))
  refine J_region ?_
  refine JL_box (cs := netC N A c) rfl rfl rfl (fun _ => rfl) fun p => ?_
  refine JL_all [] rfl ?_
  (repeat' (first | refine J_seq ?_ | refine J_skip ?_ | refine J_yes rfl ?_ | refine J_no rfl ?_))
  refine J_region ?_
  refine JL_all [] rfl ?_
  (repeat' (first | refine J_seq ?_ | refine J_skip ?_ | refine J_yes rfl ?_ | refine J_no rfl ?_))
  refine J_region ?_
  refine JL_all [] rfl ?_
  (repeat' (first | refine J_seq ?_ | refine J_skip ?_ | refine J_yes rfl ?_ | refine J_no rfl ?_))
  refine J_block ?_
  refine J_addnil 3 1 ?_
  refine J_loop (σ := Nat × Option Addr × Nat) (fun t => [(6, .int .i64 t.1), (5, .slice t.2.1 (othK s t.1).length t.2.2), (2, .pointer (some ⟨p, 0, none⟩)), (1, .slice S s.length cs)])
    (fun t => [.own (.slice t.2.1 (othK s t.1).length t.2.2) 3 1 (othK s t.1).length (ints (othK s t.1)), blk p 27 (netC N A c), .seg bs os (ints s)]) (fun t => 1 ≤ t.1 ∧ t.1 ≤ n + 1) (fun t => n + 1 - t.1)
    (1, none, 0) [0, 1, 2] ⟨rfl, rfl, rfl, rfl, trivial⟩ (by decide) rfl ⟨Nat.le_refl _, by simp only; omega⟩ ?_
  rintro ⟨k, A1, c1⟩ ⟨hk1, hk2⟩
  simp only at hk1 hk2 ⊢
  have hwl := othK_length s k
  have hws := othK_succ s k
  (repeat' (first | refine J_seq ?_ | refine J_skip ?_ | refine J_yes rfl ?_ | refine J_no rfl ?_))
  refine J_region ?_
  refine JL_run [] rfl ?_
  (first | refine JL_val [] (OpV_blk 0 rfl rfl rfl rfl) rfl ?_ | refine JL_val [] (OpV_blk 1 rfl rfl rfl rfl) rfl ?_ | refine JL_val [] (OpV_blk 2 rfl rfl rfl rfl) rfl ?_ | refine JL_val [] (OpV_blk 3 rfl rfl rfl rfl) rfl ?_ | refine JL_val [] (OpV_blk 4 rfl rfl rfl rfl) rfl ?_ | refine JL_val [] (OpV_blk 5 rfl rfl rfl rfl) rfl ?_ | refine JL_val [] (OpV_blk 6 rfl rfl rfl rfl) rfl ?_ | refine JL_val [] (OpV_blk 7 rfl rfl rfl rfl) rfl ?_)
  refine JL_all [] rfl ?_
  refine J_dec rfl (fun hle => J_skip ?_) (fun hgt => J_exit ?_)
  · have hq : IntKind.i64.wrap ((k : Int) + 1) = ((k + 1 : Nat) : Int) := w64 (by omega)
    refine J_seq (J_block ?_)
    (repeat' (first | refine J_seq ?_ | refine J_skip ?_ | refine J_yes rfl ?_ | refine J_no rfl ?_))
    refine J_region ?_
    refine JL_run [] rfl ?_
    refine JL_callR [] (has_fn S cs bs os s hS hsl (k : Int)) rfl rfl rfl rfl (by kernel_rfl) ⟨⟨2, _, by simp, rfl, shows_seg _ _ _, seen_seg⟩, trivial⟩ (fun _ => rfl) ?_
    rintro v H' ⟨rfl, rfl⟩
    refine ⟨rfl, ?_⟩
    refine JL_all [] rfl ?_
    by_cases hgo : (k : Int) ∈ s
    · rw [if_neg (fun h => h.2 hgo), List.append_nil] at hws
      refine J_set 16 (v' := .bool false) rfl (congrArg Value.bool (by rw [cdec_yes hgo]; rfl)) ?_
      refine J_no rfl (J_skip ?_)
      (repeat' (first | refine J_seq ?_ | refine J_skip ?_ | refine J_yes rfl ?_ | refine J_no rfl ?_))
      refine J_region ?_
      refine JL_all [] rfl ?_
      exact ⟨(k + 1, A1, c1), [0, 1, 2], ⟨congrArg some (congrArg (Value.int .i64) hq), by simp only [hws]; rfl, rfl, rfl, trivial⟩, by decide, by simp only [hws]; rfl, ⟨by simp only; omega, by simp only; omega⟩, by simp only; omega⟩
    · rw [if_pos ⟨by omega, hgo⟩] at hws
      refine J_set 16 (v' := .bool true) rfl (congrArg Value.bool (by rw [cdec_no hgo]; rfl)) ?_
      refine J_yes rfl ?_
      refine J_region (JL_run [] rfl ?_)
      refine JL_lit rfl rfl rfl rfl rfl rfl rfl (fun _ => rfl) fun g2 => ?_
      refine JL_appendS (n := (othK s k).length) (m := 1) (off := 0) (news := ints [(k : Int)]) 1 0 rfl rfl rfl rfl rfl rfl (by decide) rfl rfl (shows_blk g2 _ _ (0, 0)) (fun _ => rfl) rfl rfl (by omega) (by omega) (fun _ _ => rfl) fun A2 c2 => ?_
      rw [show (othK s k).length + 1 = (othK s (k + 1)).length by rw [hws]; simp, show ints (othK s k) ++ ints [(k : Int)] = ints (othK s (k + 1)) by rw [hws]; simp [ints]]
      refine JL_all [] rfl ?_
      (repeat' (first | refine J_seq ?_ | refine J_skip ?_ | refine J_yes rfl ?_ | refine J_no rfl ?_))
      refine J_region ?_
      refine JL_all [] rfl ?_
      exact ⟨(k + 1, A2, c2), [1, 2, 3], ⟨congrArg some (congrArg (Value.int .i64) hq), rfl, rfl, rfl, trivial⟩, by decide, rfl, ⟨by simp only; omega, by simp only; omega⟩, by simp only; omega⟩
  · obtain rfl : k = n + 1 := by omega
    (repeat' (first | refine J_seq ?_ | refine J_skip ?_ | refine J_yes rfl ?_ | refine J_no rfl ?_))
    refine J_region ?_
    refine JL_all [] rfl ?_
    exact J_drop [0] (by decide) rfl (J_ret ⟨_, rfl, A1, c1, rfl, rfl⟩)
set_option maxHeartbeats 1000000 in
theorem turned_fn (nodes : Int) (hn : inB nodes) (ends : Int) (he : inB ends) (A : Option Addr) (c b o : Nat) (l : List Arc) (hA : l ≠ [] → A = some ⟨b, o, none⟩) (hl : ∀ x ∈ l, inB x.fr ∧ inB x.to ∧ inB x.cap) (hs : l.length * 24 ≤ 140737488351232) (bits : Int) (_hbits : inB bits) :
    Fn 4 [.int .i64 nodes, .int .i64 ends, .slice A l.length c, .int .i64 bits] [] [.seg b o (arcs l)] fun v _ => v = .bool true := by
  refine Fn_of Try.func4 rfl rfl fun w0 => ?_
  (repeat' (first | refine J_seq ?_ | refine J_skip ?_ | refine J_yes rfl ?_ | refine J_no rfl ?_))
  refine J_region ?_
  refine JL_all [] rfl ?_
  (repeat' (first | refine J_seq ?_ | refine J_skip ?_ | refine J_yes rfl ?_ | refine J_no rfl ?_))
  refine J_region ?_
  refine JL_callR [] (shown14_fn) rfl rfl rfl rfl (by kernel_rfl) trivial (fun _ => rfl) ?_
  rintro v H' ⟨rfl, rfl⟩
  refine ⟨rfl, ?_⟩
  refine JL_all [] rfl ?_
  (repeat' (first | refine J_seq ?_ | refine J_skip ?_ | refine J_yes rfl ?_ | refine J_no rfl ?_))
  refine J_region ?_
  refine JL_all [] rfl ?_
  (repeat' (first | refine J_seq ?_ | refine J_skip ?_ | refine J_yes rfl ?_ | refine J_no rfl ?_))
  refine J_region ?_
  refine JL_run [] rfl ?_
  refine JL_callR [] (made14_fn nodes ends hn he A c b o l hA hl (by omega)) rfl rfl rfl rfl (by kernel_rfl) ⟨⟨0, _, by simp, rfl, shows_seg _ _ _, seen_seg⟩, trivial⟩ (fun _ => rfl) ?_
  rintro v H' ⟨N, A', c', hR, hn9, h24, _, rfl, rfl⟩
  refine ⟨rfl, ?_⟩
  refine JL_alloc rfl rfl rfl (fun _ => rfl) fun b10 => ?_
  refine JL_store 0 rfl rfl rfl rfl rfl [] rfl ?_
  refine JL_know (own_is 1 rfl) fun ⟨_, _, hA1, hl1⟩ => ?_
  obtain ⟨g1, hA1⟩ := own_at hA1 hl1
  have hA1' : N.arcs ≠ [] → A' = some ⟨g1, 0, none⟩ := fun h => hA1 (fun h0 => h (List.length_eq_zero_iff.1 (by have := arcs_length N.arcs; rw [h0] at this; simp at this; omega)))
  have hF := hR.fits'
  have hnn := hR.nodes
  obtain ⟨n, hnd⟩ : ∃ n : Nat, N.nodes = n := ⟨N.nodes.toNat, by omega⟩
  have hTR := turn_right hR
  have hTF := turn_fits hF
  have hTl : (turnN N).arcs.length = N.arcs.length := by simp [turnN]
  refine JL_nil ?_
  (repeat' (first | refine J_seq ?_ | refine J_skip ?_ | refine J_yes rfl ?_ | refine J_no rfl ?_))
  refine J_region ?_
  refine JL_val [] (v := netV N A' c') (OpV_blk 0 rfl rfl rfl rfl) rfl ?_
  refine JL_callR [] (turnN_fn N (by omega) A' c' g1 0 hA1') rfl rfl rfl rfl (by kernel_rfl) ⟨⟨1, _, by simp, rfl, shows_ownS hA1, seen_ownS hA1⟩, trivial⟩ (fun _ => rfl) ?_
  rintro v H' ⟨At, ct, rfl, rfl⟩
  refine ⟨rfl, ?_⟩
  refine JL_alloc rfl rfl rfl (fun _ => rfl) fun b11 => ?_
  refine JL_store 0 rfl rfl rfl rfl rfl [] rfl ?_
  refine JL_know (own_is 1 rfl) fun ⟨_, _, hAt, hlt⟩ => ?_
  obtain ⟨gt, hAt⟩ := own_at hAt hlt
  have hAt' : (turnN N).arcs ≠ [] → At = some ⟨gt, 0, none⟩ := fun h => hAt (fun h0 => h (List.length_eq_zero_iff.1 (by have := arcs_length (turnN N).arcs; rw [h0] at this; simp at this; omega)))
  refine JL_nil ?_
  (repeat' (first | refine J_seq ?_ | refine J_skip ?_ | refine J_yes rfl ?_ | refine J_no rfl ?_))
  refine J_region ?_
  refine JL_val [] (v := netV N A' c') (OpV_blk 2 rfl rfl rfl rfl) rfl ?_
  refine JL_callR [] (max_fn N hF hR A' c' g1 0 hA1') rfl rfl rfl rfl (by kernel_rfl) ⟨⟨3, _, by simp, rfl, shows_ownS hA1, seen_ownS hA1⟩, trivial⟩ (fun _ => rfl) ?_
  rintro v H' ⟨f, ph, wk, Af, cf, hdn, _, rfl, rfl⟩
  obtain ⟨hf, _, _, lv, hlv, hlt⟩ := hdn.keeps hR (by decide) (zeroFlow N hR)
  have hno := no_reach hf.toRanged hlv hlt
  have hfl := hf.len
  have hfin := IsFlow.inB hR hf.toRanged
  have hTf := turn_flow hf
  have hTno : ¬ Rch (turnN N) (roomL ((turnN N).arcs.zip f)) 1 (turnN N).snk := by
    rw [show (turnN N).arcs = N.arcs.map turnA from rfl, turn_room]
    have hrl : (roomL (N.arcs.zip f)).length = 2 * N.arcs.length := by rw [roomL_length, List.length_zip, hf.len, Nat.min_self]
    exact fun h => hno (last_keeps (P := fun x => Rch N (roomL (N.arcs.zip f)) 1 x) hf.len (fun r hr h1 h2 => .step _ r h2 (by rw [hrl]; exact hr) rfl h1) h .src)
  refine ⟨rfl, ?_⟩
  refine JL_run [] rfl ?_
  refine JL_alloc rfl rfl rfl (fun _ => rfl) fun b12 => ?_
  refine JL_store 0 rfl rfl rfl rfl rfl [] rfl ?_
  refine JL_all [] rfl ?_
  refine J_know (own_is 1 rfl) fun ⟨_, _, hAf, hlx⟩ => ?_
  obtain ⟨gf, hAf⟩ := own_at hAf hlx
  have hAf' : f ≠ [] → Af = some ⟨gf, 0, none⟩ := fun h => hAf (by simpa [ints] using h)
  (repeat' (first | refine J_seq ?_ | refine J_skip ?_ | refine J_yes rfl ?_ | refine J_no rfl ?_))
  refine J_region ?_
  refine JL_val [] (v := netV N A' c') (OpV_blk 4 rfl rfl rfl rfl) rfl ?_
  refine JL_run [] rfl ?_
  refine JL_val [] (OpV_blk (v := .slice Af f.length cf) 0 rfl rfl rfl rfl) rfl ?_
  refine JL_callR [] (first_fn N hF hR A' c' g1 0 hA1' f Af cf gf 0 hAf' hfin (by omega) n hnd) rfl rfl rfl rfl (by kernel_rfl) ⟨⟨5, _, by simp, rfl, shows_ownS hA1, seen_ownS hA1⟩, ⟨1, _, by simp, rfl, shows_ownS hAf, seen_ownS hAf⟩, trivial⟩ (fun _ => rfl) ?_
  rintro v H' (⟨_, _, la, Aa, ca, hla, hlar, rfl, rfl⟩ | ⟨h, _, _⟩ | ⟨_, h, _, _⟩)
  case inr.inl => exact absurd hf h
  case inr.inr => exact absurd h hno
  refine ⟨rfl, ?_⟩
  refine JL_all [] rfl ?_
  (repeat' (first | refine J_seq ?_ | refine J_skip ?_ | refine J_yes rfl ?_ | refine J_no rfl ?_))
  refine J_region ?_
  refine JL_val [] (v := netV N A' c') (OpV_blk 5 rfl rfl rfl rfl) rfl ?_
  refine JL_run [] rfl ?_
  refine JL_val [] (OpV_blk (v := .slice Af f.length cf) 1 rfl rfl rfl rfl) rfl ?_
  refine JL_callR [] (last_fn N hF hR A' c' g1 0 hA1' f Af cf gf 0 hAf' hfin (by omega) n hnd hf) rfl rfl rfl rfl (by kernel_rfl) ⟨⟨6, _, by simp, rfl, shows_ownS hA1, seen_ownS hA1⟩, ⟨2, _, by simp, rfl, shows_ownS hAf, seen_ownS hAf⟩, trivial⟩ (fun _ => rfl) ?_
  rintro v H' (⟨h, _, _⟩ | ⟨_, lb, Ab, cb, hlb, hlbr, rfl, rfl⟩)
  case inl => exact absurd h hno
  refine ⟨rfl, ?_⟩
  refine JL_all [] rfl ?_
  (repeat' (first | refine J_seq ?_ | refine J_skip ?_ | refine J_yes rfl ?_ | refine J_no rfl ?_))
  refine J_region ?_
  refine JL_val [] (v := netV (turnN N) At ct) (OpV_blk 4 rfl rfl rfl rfl) rfl ?_
  refine JL_run [] rfl ?_
  refine JL_val [] (OpV_blk (v := .slice Af f.length cf) 2 rfl rfl rfl rfl) rfl ?_
  refine JL_callR [] (first_fn (turnN N) hTF hTR At ct gt 0 hAt' f Af cf gf 0 hAf' hfin (by omega) n hnd) rfl rfl rfl rfl (by kernel_rfl) ⟨⟨5, _, by simp, rfl, shows_ownS hAt, seen_ownS hAt⟩, ⟨3, _, by simp, rfl, shows_ownS hAf, seen_ownS hAf⟩, trivial⟩ (fun _ => rfl) ?_
  rintro v H' (⟨_, _, lc, Ac, cc, hlc, hlcr, rfl, rfl⟩ | ⟨h, _, _⟩ | ⟨_, h, _, _⟩)
  rotate_left
  · exact absurd hTf h
  · exact absurd h hTno
  refine ⟨rfl, ?_⟩
  refine JL_all [] rfl ?_
  (repeat' (first | refine J_seq ?_ | refine J_skip ?_ | refine J_yes rfl ?_ | refine J_no rfl ?_))
  refine J_region ?_
  refine JL_val [] (v := netV (turnN N) At ct) (OpV_blk 5 rfl rfl rfl rfl) rfl ?_
  refine JL_run [] rfl ?_
  refine JL_val [] (OpV_blk (v := .slice Af f.length cf) 3 rfl rfl rfl rfl) rfl ?_
  refine JL_callR [] (last_fn (turnN N) hTF hTR At ct gt 0 hAt' f Af cf gf 0 hAf' hfin (by omega) n hnd hTf) rfl rfl rfl rfl (by kernel_rfl) ⟨⟨6, _, by simp, rfl, shows_ownS hAt, seen_ownS hAt⟩, ⟨4, _, by simp, rfl, shows_ownS hAf, seen_ownS hAf⟩, trivial⟩ (fun _ => rfl) ?_
  rintro v H' (⟨h, _, _⟩ | ⟨_, ld, Ad, cd, hld, hldr, rfl, rfl⟩)
  case inl => exact absurd h hTno
  refine ⟨rfl, ?_⟩
  refine JL_all [] rfl ?_
  rw [turn_turn, show (turnN N).arcs = N.arcs.map turnA from rfl, turn_room] at hldr
  rw [show (turnN N).arcs = N.arcs.map turnA from rfl, turn_room] at hlcr
  have hwa := whereK_length la true (n + 1)
  have hwb := whereK_length lb false (n + 1)
  have hwc := whereK_length lc true (n + 1)
  have hwd := whereK_length ld false (n + 1)
  obtain ⟨sa, hsa⟩ : ∃ sa, sa = whereK la true (n + 1) := ⟨_, rfl⟩
  obtain ⟨sb, hsb⟩ : ∃ sb, sb = whereK lb false (n + 1) := ⟨_, rfl⟩
  obtain ⟨sc, hsc⟩ : ∃ sc, sc = whereK lc true (n + 1) := ⟨_, rfl⟩
  obtain ⟨sd, hsd⟩ : ∃ sd, sd = whereK ld false (n + 1) := ⟨_, rfl⟩
  have hma : ∀ x, x ∈ sa ↔ 1 ≤ x ∧ x ≤ N.nodes ∧ Rch N (roomL (N.arcs.zip f)) 1 x := fun x => by rw [hsa]; exact mem_first hnd hlar
  have hmb : ∀ x, x ∈ sb ↔ 1 ≤ x ∧ x ≤ N.nodes ∧ ¬ Rch (turnN N) (roomL (N.arcs.zip f)) 1 x := fun x => by rw [hsb]; exact mem_last hnd hlb hlbr
  have hcb : sc = othK sb (n + 1) := rise_eq (by rw [hsc]; exact where_rise _ _ _) (oth_rise _ _) fun x => by
    rw [hsc, mem_whereK, mem_othK, hmb]
    constructor
    · rintro ⟨v, h1, h2, h3, rfl⟩
      exact ⟨by omega, by omega, fun h => h.2.2 ((hlcr v).1 h3).2⟩
    · rintro ⟨h1, h2, h3⟩
      have e : ((x.toNat : Nat) : Int) = x := by omega
      exact ⟨x.toNat, by omega, by omega, (hlcr _).2 ⟨by omega, by rw [e]; exact Classical.byContradiction fun hn2 => h3 ⟨h1, by omega, hn2⟩⟩, e.symm⟩
  have hda : sd = othK sa (n + 1) := rise_eq (by rw [hsd]; exact where_rise _ _ _) (oth_rise _ _) fun x => by
    rw [hsd, mem_whereK, mem_othK, hma]
    constructor
    · rintro ⟨v, h1, h2, h3, rfl⟩
      exact ⟨by omega, by omega, fun h => by have := (hldr v).2 ⟨by omega, h.2.2⟩; rw [h3] at this; simp at this⟩
    · rintro ⟨h1, h2, h3⟩
      have e : ((x.toNat : Nat) : Int) = x := by omega
      refine ⟨x.toNat, by omega, by omega, ?_, e.symm⟩
      have hlt2 : x.toNat < ld.length := by omega
      cases hb : ld[x.toNat] with
      | true => exact absurd ⟨h1, by omega, by have := ((hldr x.toNat).1 (by rw [List.getElem?_eq_getElem hlt2, hb])).2; rw [e] at this; exact this⟩ h3
      | false => rw [List.getElem?_eq_getElem hlt2, hb]
  rw [← hsa] at hwa ⊢
  rw [← hsb] at hwb ⊢
  rw [← hsc] at hwc ⊢
  rw [← hsd] at hwd ⊢
  refine J_know (own_is 3 rfl) fun ⟨_, _, hAa, hlx⟩ => ?_
  obtain ⟨ga, hAa⟩ := own_at hAa hlx
  have hAa' : sa ≠ [] → Aa = some ⟨ga, 0, none⟩ := fun h => hAa (by simpa [ints] using h)
  refine J_know (own_is 2 rfl) fun ⟨_, _, hAb, hlx⟩ => ?_
  obtain ⟨gb, hAb⟩ := own_at hAb hlx
  have hAb' : sb ≠ [] → Ab = some ⟨gb, 0, none⟩ := fun h => hAb (by simpa [ints] using h)
  refine J_know (own_is 1 rfl) fun ⟨_, _, hAc, hlx⟩ => ?_
  obtain ⟨gc, hAc⟩ := own_at hAc hlx
  have hAc' : sc ≠ [] → Ac = some ⟨gc, 0, none⟩ := fun h => hAc (by simpa [ints] using h)
  refine J_know (own_is 0 rfl) fun ⟨_, _, hAd, hlx⟩ => ?_
  obtain ⟨gd, hAd⟩ := own_at hAd hlx
  have hAd' : sd ≠ [] → Ad = some ⟨gd, 0, none⟩ := fun h => hAd (by simpa [ints] using h)
  (repeat' (first | refine J_seq ?_ | refine J_skip ?_ | refine J_yes rfl ?_ | refine J_no rfl ?_))
  refine J_region ?_
  refine JL_run [] rfl ?_
  refine JL_set 75 (v' := .bool false) rfl (congrArg Value.bool (cdec_no (fun h => h rfl))) ?_
  refine JL_run [2] rfl ?_
  refine JL_set 79 (v' := .bool false) rfl (congrArg Value.bool (cdec_no (fun h => h rfl))) ?_
  refine JL_run [6] rfl ?_
  refine JL_set 83 (v' := .bool false) rfl (congrArg Value.bool (cdec_no (fun h => h rfl))) ?_
  refine JL_run [10] rfl ?_
  refine JL_set 87 (v' := .bool false) rfl (congrArg Value.bool (cdec_no (fun h => h rfl))) ?_
  refine JL_run [14] rfl ?_
  refine JL_val [14] (v := netV N A' c') (OpV_blk 8 rfl rfl rfl rfl) rfl ?_
  refine JL_run [14] rfl ?_
  refine JL_callR [14] (others_fn N n hnd (by omega) A' c' Ab cb gb 0 sb hAb' (by omega)) rfl rfl rfl rfl (by kernel_rfl) ⟨⟨2, _, by simp, rfl, shows_ownS hAb, seen_ownS hAb⟩, trivial⟩ (fun _ => rfl) ?_
  rintro v H' ⟨Ao, co, rfl, rfl⟩
  refine ⟨rfl, ?_⟩
  refine JL_know (own_is 0 rfl) fun ⟨_, _, hAo, hlo⟩ => ?_
  obtain ⟨go, hAo⟩ := own_at hAo hlo
  refine JL_callR [14] (same_fn Ac cc gc 0 sc hAc' (by omega) Ao co go 0 (othK sb (n + 1)) (fun h => hAo (by simpa [ints] using h))) rfl rfl rfl rfl (by kernel_rfl) ⟨⟨2, _, by simp, rfl, shows_ownS hAc, seen_ownS hAc⟩, ⟨0, _, by simp, rfl, shows_ownS hAo, seen_ownS hAo⟩, trivial⟩ (fun _ => rfl) ?_
  rintro v H' ⟨rfl, rfl⟩
  refine ⟨rfl, ?_⟩
  refine JL_run [14] rfl ?_
  refine JL_set 95 (v' := .bool false) rfl (congrArg Value.bool (by rw [cdec_yes hcb]; rfl)) ?_
  refine JL_run [22] rfl ?_
  refine JL_val [22] (v := netV N A' c') (OpV_blk 9 rfl rfl rfl rfl) rfl ?_
  refine JL_run [22] rfl ?_
  refine JL_callR [22] (others_fn N n hnd (by omega) A' c' Aa ca ga 0 sa hAa' (by omega)) rfl rfl rfl rfl (by kernel_rfl) ⟨⟨4, _, by simp, rfl, shows_ownS hAa, seen_ownS hAa⟩, trivial⟩ (fun _ => rfl) ?_
  rintro v H' ⟨Ap, cp, rfl, rfl⟩
  refine ⟨rfl, ?_⟩
  refine JL_know (own_is 0 rfl) fun ⟨_, _, hAp, hlp⟩ => ?_
  obtain ⟨gp, hAp⟩ := own_at hAp hlp
  refine JL_callR [22] (same_fn Ad cd gd 0 sd hAd' (by omega) Ap cp gp 0 (othK sa (n + 1)) (fun h => hAp (by simpa [ints] using h))) rfl rfl rfl rfl (by kernel_rfl) ⟨⟨2, _, by simp, rfl, shows_ownS hAd, seen_ownS hAd⟩, ⟨0, _, by simp, rfl, shows_ownS hAp, seen_ownS hAp⟩, trivial⟩ (fun _ => rfl) ?_
  rintro v H' ⟨rfl, rfl⟩
  refine ⟨rfl, ?_⟩
  refine JL_run [22] rfl ?_
  refine JL_set 102 (v' := .bool false) rfl (congrArg Value.bool (by rw [cdec_yes hda]; rfl)) ?_
  refine JL_nil ?_
  refine J_no rfl (J_skip ?_)
  refine J_drop [8, 9, 10, 11] (by decide) rfl ?_
  (repeat' (first | refine J_seq ?_ | refine J_skip ?_ | refine J_yes rfl ?_ | refine J_no rfl ?_))
  refine J_region ?_
  refine JL_val [] (v := netV N A' c') (OpV_blk 2 rfl rfl rfl rfl) rfl ?_
  refine JL_run [] rfl ?_
  refine JL_callR [] (some_fn N hR A' c' bits) rfl rfl rfl rfl (by kernel_rfl) trivial (fun _ => rfl) ?_
  rintro v H' ⟨s, As, cs, hcut, hsl, rfl, rfl⟩
  refine ⟨rfl, ?_⟩
  refine JL_all [] rfl ?_
  refine J_know (own_is 0 rfl) fun ⟨_, _, hAs, hlx⟩ => ?_
  obtain ⟨gs, hAs⟩ := own_at hAs hlx
  have hAs' : s ≠ [] → As = some ⟨gs, 0, none⟩ := fun h => hAs (by simpa [ints] using h)
  have hTcut := oth_cut hR hnd hcut
  have hol := othK_length s (n + 1)
  (repeat' (first | refine J_seq ?_ | refine J_skip ?_ | refine J_yes rfl ?_ | refine J_no rfl ?_))
  refine J_region ?_
  refine JL_val [] (v := netV N A' c') (OpV_blk 3 rfl rfl rfl rfl) rfl ?_
  refine JL_run [] rfl ?_
  refine JL_callR [] (capacity_fn N hF hR A' c' g1 0 hA1' s hcut (by omega) As cs gs 0 hAs') rfl rfl rfl rfl (by kernel_rfl) ⟨⟨4, _, by simp, rfl, shows_ownS hA1, seen_ownS hA1⟩, ⟨0, _, by simp, rfl, shows_ownS hAs, seen_ownS hAs⟩, trivial⟩ (fun _ => rfl) ?_
  rintro v H' ⟨rfl, rfl⟩
  refine ⟨rfl, ?_⟩
  refine JL_all [] rfl ?_
  (repeat' (first | refine J_seq ?_ | refine J_skip ?_ | refine J_yes rfl ?_ | refine J_no rfl ?_))
  refine J_walk 10 [(0, true), (1, true), (2, true), (3, false), (4, false), (5, true), (6, true), (7, true), (8, true), (9, true)] [1, 3] (by kernel_rfl) (by decide) rfl ?_
  refine JW_still [] rfl (OpV_blk (v := netV (turnN N) At ct) 0 rfl rfl rfl rfl) rfl ?_
  refine JW_still [] rfl (OpV_blk (v := netV N A' c') 1 rfl rfl rfl rfl) rfl ?_
  refine JW_run [] rfl ?_
  refine JW_eff rfl ?_
  refine JL_callR [] (others_fn N n hnd (by omega) A' c' As cs gs 0 s hAs' (by omega)) rfl rfl rfl rfl (by kernel_rfl) ⟨⟨0, _, by simp, rfl, shows_ownS hAs, seen_ownS hAs⟩, trivial⟩ (fun _ => rfl) ?_
  rintro v H' ⟨Ao, co, rfl, rfl⟩
  refine ⟨rfl, ?_⟩
  refine JL_know (own_is 0 rfl) fun ⟨_, _, hAo, hlo⟩ => ?_
  obtain ⟨go, hAo⟩ := own_at hAo hlo
  have hAo' : othK s (n + 1) ≠ [] → Ao = some ⟨go, 0, none⟩ := fun h => hAo (by simpa [ints] using h)
  refine JL_nil ⟨⟨[2, 4], by decide, rfl⟩, ?_⟩
  refine JW_eff rfl ?_
  refine JL_callR [] (capacity_fn (turnN N) hTF hTR At ct gt 0 hAt' (othK s (n + 1)) hTcut (by omega) Ao co go 0 hAo') rfl rfl rfl rfl (by kernel_rfl) ⟨⟨3, _, by simp, rfl, shows_ownS hAt, seen_ownS hAt⟩, ⟨0, _, by simp, rfl, shows_ownS hAo, seen_ownS hAo⟩, trivial⟩ (fun _ => rfl) ?_
  rintro v H' ⟨rfl, rfl⟩
  refine ⟨rfl, JL_nil ⟨⟨[2, 4], by decide, rfl⟩, ?_⟩⟩
  rw [cap_turn hR hnd]
  refine JW_all [] rfl ?_
  refine JL_nil ?_
  (repeat' (first | refine J_seq ?_ | refine J_skip ?_ | refine J_yes rfl ?_ | refine J_no rfl ?_))
  refine J_region ?_
  refine JL_val [] (v := netV N A' c') (OpV_blk 4 rfl rfl rfl rfl) rfl ?_
  refine JL_run [] rfl ?_
  refine JL_callR [] (cutarcs_fn N hF hR A' c' g1 0 hA1' s hcut (by omega) As cs gs 0 hAs') rfl rfl rfl rfl (by kernel_rfl) ⟨⟨5, _, by simp, rfl, shows_ownS hA1, seen_ownS hA1⟩, ⟨1, _, by simp, rfl, shows_ownS hAs, seen_ownS hAs⟩, trivial⟩ (fun _ => rfl) ?_
  rintro v H' ⟨Ap, cp, rfl, rfl⟩
  refine ⟨rfl, ?_⟩
  refine JL_all [] rfl ?_
  have hpl := crossK_length N s N.arcs.length
  obtain ⟨lp, hlp⟩ : ∃ lp, lp = crossK N s N.arcs.length := ⟨_, rfl⟩
  rw [← hlp] at hpl ⊢
  refine J_know (own_is 0 rfl) fun ⟨_, _, hAp, hlx⟩ => ?_
  obtain ⟨gp, hAp⟩ := own_at hAp hlx
  have hAp' : lp ≠ [] → Ap = some ⟨gp, 0, none⟩ := fun h => hAp (by simpa [ints] using h)
  (repeat' (first | refine J_seq ?_ | refine J_skip ?_ | refine J_yes rfl ?_ | refine J_no rfl ?_))
  refine J_walk 10 [(0, true), (1, true), (2, true), (3, false), (4, false), (5, true), (6, true), (7, true), (8, true), (9, true)] [3, 5] (by kernel_rfl) (by decide) rfl ?_
  refine JW_still [] rfl (OpV_blk (v := netV (turnN N) At ct) 0 rfl rfl rfl rfl) rfl ?_
  refine JW_still [] rfl (OpV_blk (v := netV N A' c') 1 rfl rfl rfl rfl) rfl ?_
  refine JW_run [] rfl ?_
  refine JW_eff rfl ?_
  refine JL_callR [] (others_fn N n hnd (by omega) A' c' As cs gs 0 s hAs' (by omega)) rfl rfl rfl rfl (by kernel_rfl) ⟨⟨2, _, by simp, rfl, shows_ownS hAs, seen_ownS hAs⟩, trivial⟩ (fun _ => rfl) ?_
  rintro v H' ⟨Au, cu, rfl, rfl⟩
  refine ⟨rfl, ?_⟩
  refine JL_know (own_is 0 rfl) fun ⟨_, _, hAu, hlu⟩ => ?_
  obtain ⟨gu, hAu⟩ := own_at hAu hlu
  have hAu' : othK s (n + 1) ≠ [] → Au = some ⟨gu, 0, none⟩ := fun h => hAu (by simpa [ints] using h)
  refine JL_nil ⟨⟨[4, 6], by decide, rfl⟩, ?_⟩
  refine JW_eff rfl ?_
  refine JL_callR [] (cutarcs_fn (turnN N) hTF hTR At ct gt 0 hAt' (othK s (n + 1)) hTcut (by omega) Au cu gu 0 hAu') rfl rfl rfl rfl (by kernel_rfl) ⟨⟨5, _, by simp, rfl, shows_ownS hAt, seen_ownS hAt⟩, ⟨0, _, by simp, rfl, shows_ownS hAu, seen_ownS hAu⟩, trivial⟩ (fun _ => rfl) ?_
  rintro v H' ⟨Aq, cq, rfl, rfl⟩
  rw [hTl, cross_turn hR hnd s _ (Nat.le_refl _), ← hlp]
  refine ⟨rfl, JL_nil ⟨⟨[5, 7], by decide, rfl⟩, ?_⟩⟩
  refine JW_all [] rfl ?_
  refine JL_nil ?_
  refine J_know (own_is 0 rfl) fun ⟨_, _, hAq, hlx⟩ => ?_
  obtain ⟨gq, hAq⟩ := own_at hAq hlx
  have hAq' : lp ≠ [] → Aq = some ⟨gq, 0, none⟩ := fun h => hAq (by simpa [ints] using h)
  (repeat' (first | refine J_seq ?_ | refine J_skip ?_ | refine J_yes rfl ?_ | refine J_no rfl ?_))
  refine J_region ?_
  refine JL_run [] rfl ?_
  refine JL_set 136 (v' := .bool true) rfl (congrArg Value.bool (cdec_yes rfl)) ?_
  refine JL_run [2] rfl ?_
  refine JL_set 140 (v' := .bool true) rfl (congrArg Value.bool (cdec_yes rfl)) ?_
  refine JL_run [6] rfl ?_
  refine JL_set 145 (v' := .bool true) rfl (congrArg Value.bool (cdec_yes rfl)) ?_
  refine JL_run [11] rfl ?_
  refine JL_callR [11] (same_fn Ap cp gp 0 lp hAp' (by omega) Aq cq gq 0 lp hAq') rfl rfl rfl rfl (by kernel_rfl) ⟨⟨2, _, by simp, rfl, shows_ownS hAp, seen_ownS hAp⟩, ⟨0, _, by simp, rfl, shows_ownS hAq, seen_ownS hAq⟩, trivial⟩ (fun _ => rfl) ?_
  rintro v H' ⟨rfl, rfl⟩
  refine ⟨rfl, ?_⟩
  refine JL_all [] rfl ?_
  exact J_ret ⟨_, rfl, congrArg Value.bool (cdec_yes rfl)⟩
end Go.Proofs.Ytbhfbpeldcnpfaa
