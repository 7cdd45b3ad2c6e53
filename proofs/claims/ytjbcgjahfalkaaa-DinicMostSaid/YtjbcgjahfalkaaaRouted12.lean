
/- Chapter 14's flows of raw numbers. -/
import Derived.Test.YtjbcgjahfalkaaaQF
import Derived.Test.YtjbcgjahfalkaaaMade12
set_option linter.unusedVariables false
set_option linter.unusedSimpArgs false
namespace Go.Proofs.Ytjbcgjahfalkaaa
open Go.RowKit
def fitK (N : Net) (f : List Int) (met : List Bool) (at_ : Int) (k : Nat) : List Int := ((List.range k).filter fun (i : Nat) => match N.arcs[i]? with
  | some a => decide (a.fr = at_ ∧ met[a.to.toNat]? = some false ∧ f.getD i 0 < a.cap)
  | none => false).map fun (i : Nat) => (i : Int)
theorem fitK_succ {N : Net} {f : List Int} {met : List Bool} {at_ : Int} {k : Nat} {a : Arc} (h : N.arcs[k]? = some a) : fitK N f met at_ (k + 1) = fitK N f met at_ k ++ (if a.fr = at_ ∧ met[a.to.toNat]? = some false ∧ f.getD k 0 < a.cap then [(k : Int)] else []) := by
  unfold fitK
  rw [List.range_succ, List.filter_append, List.map_append]
  congr 1
  simp only [List.filter_cons, List.filter_nil, h, decide_eq_true_eq]
  split <;> rfl
theorem fitK_length (N : Net) (f : List Int) (met : List Bool) (at_ : Int) (k : Nat) : (fitK N f met at_ k).length ≤ k := by
  unfold fitK
  rw [List.length_map]
  exact Nat.le_trans (List.length_filter_le _ _) (by simp)
theorem mem_fitK {N : Net} {f : List Int} {met : List Bool} {at_ : Int} {k : Nat} {x : Int} (h : x ∈ fitK N f met at_ k) : ∃ (i : Nat) (a : Arc), x = i ∧ N.arcs[i]? = some a ∧ a.fr = at_ ∧ met[a.to.toNat]? = some false ∧ f.getD i 0 < a.cap := by
  unfold fitK at h
  obtain ⟨i, hi, rfl⟩ := List.mem_map.1 h
  have hi2 := (List.mem_filter.1 hi).2
  cases ha : N.arcs[i]? with
  | none => rw [ha] at hi2; simp at hi2
  | some a =>
    rw [ha] at hi2
    simp only [decide_eq_true_eq] at hi2
    exact ⟨i, a, rfl, ha, hi2⟩
structure OnWalk (N : Net) (f : List Int) (met : List Bool) (W : List Nat) (at_ : Int) : Prop where
  walk : isWalk N N.src W at_
  nodup : W.Nodup
  room : ∀ i ∈ W, ∃ r : Arc, N.arcs[i]? = some r ∧ f.getD i 0 < r.cap ∧ met[r.to.toNat]? = some true
theorem OnWalk.step {N : Net} {f : List Int} {met : List Bool} {W : List Nat} {i : Nat} {a : Arc} (h : OnWalk N f met W a.fr) (ha : N.arcs[i]? = some a) (hm : met[a.to.toNat]? = some false) (hc : f.getD i 0 < a.cap) : OnWalk N f (met.set a.to.toNat true) (W ++ [i]) a.to := by
  have hlt : a.to.toNat < met.length := (List.getElem?_eq_some_iff.1 hm).1
  refine ⟨isWalk_app ha h.walk, ?_, fun j hj => ?_⟩
  · rw [List.nodup_append]
    refine ⟨h.nodup, by simp, fun x hx y hy => ?_⟩
    rw [List.mem_singleton.1 hy]
    rintro rfl
    obtain ⟨r, h1, _, h3⟩ := h.room x hx
    rw [ha] at h1
    simp only [Option.some.injEq] at h1
    rw [← h1, hm] at h3
    simp at h3
  · rcases List.mem_append.1 hj with hj | hj
    · obtain ⟨r, h1, h2, h3⟩ := h.room j hj
      exact ⟨r, h1, h2, set_true_get h3⟩
    · rw [List.mem_singleton.1 hj]
      exact ⟨a, ha, hc, by rw [List.getElem?_set_self hlt]⟩
theorem inB_tdiv {a b : Int} (ha : inB a) (hb : 0 < b) : inB (a.tdiv b) := by
  have key : ∀ M : Int, 0 ≤ M → 0 ≤ M.tdiv b ∧ M.tdiv b ≤ M := fun M hM => by
    rw [Int.tdiv_eq_ediv_of_nonneg hM]
    exact ⟨Int.ediv_nonneg hM (by omega), Int.ediv_le_self _ hM⟩
  unfold inB at ha ⊢
  by_cases h : 0 ≤ a
  · have := key a h
    omega
  · have := key (-a) (by omega)
    rw [Int.neg_tdiv] at this
    omega
set_option maxHeartbeats 1000000 in
theorem walked_fn (N : Net) (hR : N.Right) (A : Option Addr) (c b o : Nat) (hA : N.arcs ≠ [] → A = some ⟨b, o, none⟩) (f : List Int) (hfl : f.length = N.arcs.length) (F : Option Addr) (cf bf of : Nat) (hF : f ≠ [] → F = some ⟨bf, of, none⟩) (raw : Int) (hraw : inB raw) :
    Fn 58 [netV N A c, .slice F f.length cf, .int .i64 raw] [] [.seg b o (arcs N.arcs), .seg bf of (ints f)] fun v H' => ∃ (W : List Nat) (A' : Option Addr) (c' : Nat) (met : List Bool), v = .slice A' W.length c' ∧
      H' = [.own (.slice A' W.length c') 3 1 W.length (ints (W.map fun (i : Nat) => (i : Int)))] ∧ (W = [] ∨ OnWalk N f met W N.snk) ∧ W.length ≤ 500 := by
  have hnn := hR.nodes
  have hl2 := hR.len
  have hsr := hR.src
  have hsk := hR.snk
  obtain ⟨n, hn⟩ : ∃ n : Nat, N.nodes = n := ⟨N.nodes.toNat, by omega⟩
  obtain ⟨s0, hs0⟩ : ∃ s : Nat, N.src = s := ⟨N.src.toNat, by omega⟩
  refine Fn_of Try.func58 rfl rfl fun w0 => ?_
  (repeat' (first | refine J_seq ?_ | refine J_skip ?_ | refine J_yes rfl ?_ | refine J_no rfl ?_))
  refine J_region ?_
  refine JL_box (cs := netC N A c) rfl rfl rfl (fun _ => rfl) fun p => ?_
  refine JL_all [] rfl ?_
  (repeat' (first | refine J_seq ?_ | refine J_skip ?_ | refine J_yes rfl ?_ | refine J_no rfl ?_))
  refine J_region ?_
  refine JL_run [] rfl ?_
  refine JL_val [] (OpV_blk 0 rfl rfl rfl rfl) rfl ?_
  refine JL_run [] rfl ?_
  refine JL_set 15 (v' := .int .i64 ((n + 1 : Nat) : Int)) rfl (congrArg (Value.int .i64) ((w64 (n := N.nodes + 1) (by omega)).trans (by omega))) ?_
  refine JL_make (n := n + 1) (c := n + 1) rfl rfl rfl rfl rfl rfl (by omega) (by omega) (by omega) (fun _ => rfl) fun gm => ?_
  refine JL_all [] rfl ?_
  rw [made_bools]
  (repeat' (first | refine J_seq ?_ | refine J_skip ?_ | refine J_yes rfl ?_ | refine J_no rfl ?_))
  refine J_region ?_
  refine JL_run [] rfl ?_
  refine JL_val [] (OpV_blk 1 rfl rfl rfl rfl) rfl ?_
  refine JL_all [] rfl ?_
  refine J_set 8 (v' := .int .i64 (s0 : Int)) rfl (congrArg (Value.int .i64) hs0) ?_
  (repeat' (first | refine J_seq ?_ | refine J_skip ?_ | refine J_yes rfl ?_ | refine J_no rfl ?_))
  refine J_region ?_
  refine JL_run [] rfl ?_
  refine JL_val [] (idx1z rfl rfl rfl rfl rfl (by omega)) rfl ?_
  refine JL_store_own 0 rfl rfl rfl rfl (put_bools rfl (by simp; omega)) [] rfl ?_
  refine JL_nil ?_
  (repeat' (first | refine J_seq ?_ | refine J_skip ?_ | refine J_yes rfl ?_ | refine J_no rfl ?_))
  refine J_region ?_
  refine JL_all [] rfl ?_
  (repeat' (first | refine J_seq ?_ | refine J_skip ?_ | refine J_yes rfl ?_ | refine J_no rfl ?_))
  refine J_block ?_
  refine J_addnil 3 1 ?_
  refine J_loop (σ := List Bool × Nat × List Nat × Option Addr × Nat) (fun s => [(9, .slice s.2.2.2.1 s.2.2.1.length s.2.2.2.2), (8, .int .i64 (s.2.1 : Int)), (7, .slice (some ⟨gm, 0, none⟩) (n + 1) (n + 1)), (3, .pointer (some ⟨p, 0, none⟩)), (2, .int .i64 raw), (1, .slice F f.length cf)])
    (fun s => [.own (.slice s.2.2.2.1 s.2.2.1.length s.2.2.2.2) 3 1 s.2.2.1.length (ints (s.2.2.1.map fun (i : Nat) => (i : Int))), .own (.slice (some ⟨gm, 0, none⟩) (n + 1) (n + 1)) 4 1 (n + 1) (bools s.1), blk p 27 (netC N A c), .seg b o (arcs N.arcs), .seg bf of (ints f)])
    (fun s => s.1.length = n + 1 ∧ 1 ≤ s.2.1 ∧ s.2.1 ≤ n ∧ OnWalk N f s.1 s.2.2.1 (s.2.1 : Int) ∧ s.2.2.1.length + s.1.count false ≤ n) (fun s => s.1.count false)
    ((List.replicate (n + 1) false).set s0 true, s0, [], none, 0) [0, 1, 2, 3, 4] ⟨rfl, rfl, rfl, rfl, rfl, rfl, trivial⟩ (by decide) rfl ⟨by simp, by simp only; omega, by simp only; omega, ⟨hs0, List.nodup_nil, fun i hi => by cases hi⟩, ?_⟩ ?_
  · have := count_set (List.replicate (n + 1) false) s0 (by rw [List.getElem?_replicate, if_pos (by omega)])
    have h2 : (List.replicate (n + 1) false).count false = n + 1 := by simp
    simp only [List.length_nil]
    omega
  rintro ⟨met, at_, W, Aw, cw⟩ ⟨hml, ha1, han, how, hwl⟩
  simp only at hml ha1 han how hwl ⊢
  (repeat' (first | refine J_seq ?_ | refine J_skip ?_ | refine J_yes rfl ?_ | refine J_no rfl ?_))
  refine J_region ?_
  refine JL_run [] rfl ?_
  refine JL_val [] (OpV_blk 2 rfl rfl rfl rfl) rfl ?_
  refine JL_all [] rfl ?_
  refine J_dec rfl (fun hne => J_skip ?_) (fun heq => J_exit ?_)
  · refine J_block ?_
    (repeat' (first | refine J_seq ?_ | refine J_skip ?_ | refine J_yes rfl ?_ | refine J_no rfl ?_))
    refine J_region ?_
    refine JL_all [] rfl ?_
    (repeat' (first | refine J_seq ?_ | refine J_skip ?_ | refine J_yes rfl ?_ | refine J_no rfl ?_))
    refine J_region ?_
    refine JL_all [] rfl ?_
    refine J_block ?_
    refine J_addnil 3 1 ?_
    refine J_loop (σ := Nat × Option Addr × Nat) (fun t => [(11, .int .i64 t.1), (10, .slice t.2.1 (fitK N f met at_ t.1).length t.2.2), (9, .slice Aw W.length cw), (8, .int .i64 (at_ : Int)), (7, .slice (some ⟨gm, 0, none⟩) (n + 1) (n + 1)), (3, .pointer (some ⟨p, 0, none⟩)), (2, .int .i64 raw), (1, .slice F f.length cf)])
      (fun t => [.own (.slice t.2.1 (fitK N f met at_ t.1).length t.2.2) 3 1 (fitK N f met at_ t.1).length (ints (fitK N f met at_ t.1)), .own (.slice Aw W.length cw) 3 1 W.length (ints (W.map fun (i : Nat) => (i : Int))), .own (.slice (some ⟨gm, 0, none⟩) (n + 1) (n + 1)) 4 1 (n + 1) (bools met), blk p 27 (netC N A c), .seg b o (arcs N.arcs), .seg bf of (ints f)])
      (fun t => t.1 ≤ N.arcs.length) (fun t => N.arcs.length - t.1)
      (0, none, 0) [0, 1, 2, 3, 4, 5] ⟨rfl, rfl, rfl, rfl, rfl, rfl, rfl, rfl, trivial⟩ (by decide) rfl (Nat.zero_le _) ?_
    · rintro ⟨k, A1, c1⟩ hk
      simp only at hk ⊢
      have hfkl := fitK_length N f met at_ k
      (repeat' (first | refine J_seq ?_ | refine J_skip ?_ | refine J_yes rfl ?_ | refine J_no rfl ?_))
      refine J_region ?_
      refine JL_run [] rfl ?_
      refine JL_val [] (OpV_blk 3 rfl rfl rfl rfl) rfl ?_
      refine JL_all [] rfl ?_
      refine J_dec rfl (fun hlt => J_skip ?_) (fun hge => J_exit ?_)
      · have hlt : k < N.arcs.length := by omega
        obtain rfl := hA (by intro h0; rw [h0] at hlt; simp at hlt)
        obtain rfl := hF (by intro h0; rw [h0] at hfl; simp at hfl; omega)
        obtain ⟨a, ha⟩ : ∃ a, N.arcs[k]? = some a := ⟨N.arcs[k], List.getElem?_eq_getElem hlt⟩
        obtain ⟨x, hx⟩ : ∃ x, f[k]? = some x := ⟨f[k]'(by omega), List.getElem?_eq_getElem (by omega)⟩
        have hxd : f.getD k 0 = x := by rw [List.getD_eq_getElem?_getD, hx]; rfl
        obtain ⟨q0, q1, q2⟩ := arcs_get ha
        have har := hR.arc a (List.mem_of_getElem? ha)
        obtain ⟨t, ht⟩ : ∃ t : Nat, a.to = t := ⟨a.to.toNat, by omega⟩
        obtain ⟨bt, hbt⟩ : ∃ bt, met[t]? = some bt := ⟨met[t]'(by omega), List.getElem?_eq_getElem (by omega)⟩
        have hws := fitK_succ (f := f) (met := met) (at_ := (at_ : Int)) ha
        have hq : IntKind.i64.wrap ((k : Int) + 1) = ((k + 1 : Nat) : Int) := w64 (by omega)
        refine J_seq (J_block ?_)
        refine J_cut [(65, .bool (cdec (a.fr = at_ ∧ met[a.to.toNat]? = some false ∧ f.getD k 0 < a.cap))), (11, .int .i64 k), (10, .slice A1 (fitK N f met at_ k).length c1), (9, .slice Aw W.length cw), (8, .int .i64 (at_ : Int)), (7, .slice (some ⟨gm, 0, none⟩) (n + 1) (n + 1)), (3, .pointer (some ⟨p, 0, none⟩)), (2, .int .i64 raw), (1, .slice (some ⟨bf, of, none⟩) f.length cf)]
          [.own (.slice A1 (fitK N f met at_ k).length c1) 3 1 (fitK N f met at_ k).length (ints (fitK N f met at_ k)), .own (.slice Aw W.length cw) 3 1 W.length (ints (W.map fun (i : Nat) => (i : Int))), .own (.slice (some ⟨gm, 0, none⟩) (n + 1) (n + 1)) 4 1 (n + 1) (bools met), blk p 27 (netC N (some ⟨b, o, none⟩) c), .seg b o (arcs N.arcs), .seg bf of (ints f)] ?_ ?_
        · (repeat' (first | refine J_seq ?_ | refine J_skip ?_ | refine J_yes rfl ?_ | refine J_no rfl ?_))
          refine J_walk 33 [(0, true), (1, true), (2, true), (3, true), (4, true), (5, true), (6, true), (7, true), (8, true), (9, true), (10, true), (11, true), (12, true), (13, true), (14, true), (15, true), (16, true), (17, true), (18, true), (19, true), (20, true), (21, true), (22, true), (23, true), (24, true), (25, true), (26, true), (27, true), (28, true), (29, true), (30, true), (31, true), (32, true)] [2, 3, 4, 5] (by kernel_rfl) (by decide) rfl ?_
          refine JW_run [] rfl ?_
          (first | refine JW_still [] rfl (OpV_blk 0 rfl rfl rfl rfl) rfl ?_ | refine JW_still [] rfl (OpV_blk 1 rfl rfl rfl rfl) rfl ?_ | refine JW_still [] rfl (OpV_blk 2 rfl rfl rfl rfl) rfl ?_ | refine JW_still [] rfl (OpV_blk 3 rfl rfl rfl rfl) rfl ?_ | refine JW_still [] rfl (OpV_blk 4 rfl rfl rfl rfl) rfl ?_ | refine JW_still [] rfl (OpV_blk 5 rfl rfl rfl rfl) rfl ?_)
          refine JW_run [] rfl ?_
          refine JW_still [] rfl (idxN rfl rfl rfl rfl rfl hlt) rfl ?_
          refine JW_run [] rfl ?_
          refine JW_still [] rfl (ldseg 2 rfl rfl rfl (Nat.add_zero _) q0) rfl ?_
          refine JW_run [] rfl ?_
          by_cases h1 : a.fr = at_
          · refine JW_set 41 (v' := .bool true) rfl (congrArg Value.bool (cdec_yes h1)) ?_
            refine JW_run [8] rfl ?_
            (first | refine JW_still [8] rfl (OpV_blk 0 rfl rfl rfl rfl) rfl ?_ | refine JW_still [8] rfl (OpV_blk 1 rfl rfl rfl rfl) rfl ?_ | refine JW_still [8] rfl (OpV_blk 2 rfl rfl rfl rfl) rfl ?_ | refine JW_still [8] rfl (OpV_blk 3 rfl rfl rfl rfl) rfl ?_ | refine JW_still [8] rfl (OpV_blk 4 rfl rfl rfl rfl) rfl ?_ | refine JW_still [8] rfl (OpV_blk 5 rfl rfl rfl rfl) rfl ?_)
            refine JW_run [8] rfl ?_
            refine JW_still [8] rfl (idxN rfl rfl rfl rfl rfl hlt) rfl ?_
            refine JW_run [8] rfl ?_
            refine JW_still [8] rfl (ldseg 2 rfl rfl rfl (Nat.add_assoc _ _ _) q1) rfl ?_
            refine JW_set 48 (v' := .int .i64 (t : Int)) rfl (congrArg (Value.int .i64) ht) ?_
            refine JW_still [8] rfl (idx1z rfl rfl rfl rfl rfl (by omega)) rfl ?_
            refine JW_still [8] rfl (OpV_own 0 rfl rfl rfl (show (bools met)[t]? = some (.bool bt) from bools_get hbt)) rfl ?_
            cases bt with
            | true =>
              refine JW_run [8] rfl ?_
              refine JW_all [20] rfl ?_
              refine JL_nil ⟨[0, 1, 2, 3, 4, 5], ⟨congrArg some (congrArg Value.bool (cdec_no (fun h => by rw [ht, Int.toNat_natCast, hbt] at h; simp at h)).symm), rfl, rfl, rfl, rfl, rfl, rfl, rfl, rfl, trivial⟩, by decide, rfl⟩
            | false =>
              refine JW_run [8] rfl ?_
              refine JW_run [20] rfl ?_
              refine JW_still [20] rfl (idx1 rfl rfl rfl rfl rfl (by omega)) rfl ?_
              refine JW_still [20] rfl (ldseg 3 rfl rfl rfl rfl (readT_int hx)) rfl ?_
              refine JW_run [20] rfl ?_
              (first | refine JW_still [20] rfl (OpV_blk 0 rfl rfl rfl rfl) rfl ?_ | refine JW_still [20] rfl (OpV_blk 1 rfl rfl rfl rfl) rfl ?_ | refine JW_still [20] rfl (OpV_blk 2 rfl rfl rfl rfl) rfl ?_ | refine JW_still [20] rfl (OpV_blk 3 rfl rfl rfl rfl) rfl ?_ | refine JW_still [20] rfl (OpV_blk 4 rfl rfl rfl rfl) rfl ?_ | refine JW_still [20] rfl (OpV_blk 5 rfl rfl rfl rfl) rfl ?_)
              refine JW_run [20] rfl ?_
              refine JW_still [20] rfl (idxN rfl rfl rfl rfl rfl hlt) rfl ?_
              refine JW_run [20] rfl ?_
              refine JW_still [20] rfl (ldseg 2 rfl rfl rfl (Nat.add_assoc _ _ _) q2) rfl ?_
              refine JW_all [20] rfl ?_
              refine JL_nil ⟨[0, 1, 2, 3, 4, 5], ⟨congrArg some (congrArg Value.bool ?_), rfl, rfl, rfl, rfl, rfl, rfl, rfl, rfl, trivial⟩, by decide, rfl⟩
              exact cdec_iff ⟨fun h => ⟨h1, by rw [ht, Int.toNat_natCast, hbt], by rw [hxd]; exact h⟩, fun h => by rw [hxd] at h; exact h.2.2⟩
          · refine JW_set 41 (v' := .bool false) rfl (congrArg Value.bool (cdec_no h1)) ?_
            refine JW_all [8, 20] rfl ?_
            refine JL_nil ⟨[0, 1, 2, 3, 4, 5], ⟨congrArg some (congrArg Value.bool (cdec_no (fun h => h1 h.1)).symm), rfl, rfl, rfl, rfl, rfl, rfl, rfl, rfl, trivial⟩, by decide, rfl⟩
        · by_cases hgo : a.fr = at_ ∧ met[a.to.toNat]? = some false ∧ f.getD k 0 < a.cap
          · rw [if_pos hgo] at hws
            refine J_set 65 (v' := .bool true) rfl (congrArg Value.bool (cdec_yes hgo)) ?_
            refine J_yes rfl ?_
            (repeat' (first | refine J_seq ?_ | refine J_skip ?_ | refine J_yes rfl ?_ | refine J_no rfl ?_))
            refine J_region ?_
            refine JL_run [] rfl ?_
            refine JL_lit rfl rfl rfl rfl rfl rfl rfl (fun _ => rfl) fun g2 => ?_
            refine JL_appendS (n := (fitK N f met at_ k).length) (m := 1) (off := 0) (news := ints [(k : Int)]) 1 0 rfl rfl rfl rfl rfl rfl (by decide) rfl rfl (shows_blk g2 _ _ (0, 0)) (fun _ => rfl) rfl rfl (by omega) (by omega) (fun _ _ => rfl) fun A2 c2 => ?_
            rw [show (fitK N f met at_ k).length + 1 = (fitK N f met at_ (k + 1)).length by rw [hws]; simp, show ints (fitK N f met at_ k) ++ ints [(k : Int)] = ints (fitK N f met at_ (k + 1)) by rw [hws]; simp [ints]]
            refine JL_all [] rfl ?_
            (repeat' (first | refine J_seq ?_ | refine J_skip ?_ | refine J_yes rfl ?_ | refine J_no rfl ?_))
            refine J_region ?_
            refine JL_all [] rfl ?_
            exact ⟨(k + 1, A2, c2), [1, 2, 3, 4, 5, 6], ⟨congrArg some (congrArg (Value.int .i64) hq), rfl, rfl, rfl, rfl, rfl, rfl, rfl, trivial⟩, by decide, rfl, by simp only; omega, by simp only; omega⟩
          · rw [if_neg hgo, List.append_nil] at hws
            refine J_set 65 (v' := .bool false) rfl (congrArg Value.bool (cdec_no hgo)) ?_
            refine J_no rfl (J_skip ?_)
            (repeat' (first | refine J_seq ?_ | refine J_skip ?_ | refine J_yes rfl ?_ | refine J_no rfl ?_))
            refine J_region ?_
            refine JL_all [] rfl ?_
            refine ⟨(k + 1, A1, c1), [0, 1, 2, 3, 4, 5], ⟨congrArg some (congrArg (Value.int .i64) hq), ?_, rfl, rfl, rfl, rfl, rfl, rfl, trivial⟩, by decide, ?_, by simp only; omega, by simp only; omega⟩
            · show _ = some (Value.slice A1 (fitK N f met at_ (k + 1)).length c1)
              rw [hws]; rfl
            · show _ = some [Chunk.own (Value.slice A1 (fitK N f met at_ (k + 1)).length c1) 3 1 (fitK N f met at_ (k + 1)).length (ints (fitK N f met at_ (k + 1))), _, _, _, _, _]
              rw [hws]; rfl
      · have hk' : k = N.arcs.length := by omega
        subst hk'
        obtain ⟨m, hm⟩ : ∃ m, m = (fitK N f met at_ N.arcs.length).length := ⟨_, rfl⟩
        rw [← hm] at hfkl ⊢
        (repeat' (first | refine J_seq ?_ | refine J_skip ?_ | refine J_yes rfl ?_ | refine J_no rfl ?_))
        refine J_region ?_
        refine JL_all [] rfl ?_
        refine J_dec rfl (fun h0 => ?_) (fun hne0 => J_skip ?_)
        · (repeat' (first | refine J_seq ?_ | refine J_skip ?_ | refine J_yes rfl ?_ | refine J_no rfl ?_))
          refine J_region ?_
          refine JL_all [] rfl ?_
          refine J_addnil 3 1 ?_
          refine J_drop [0] (by decide) rfl (J_ret ⟨_, rfl, [], none, 0, met, rfl, rfl, .inl rfl, Nat.zero_le _⟩)
        have hm0 : 0 < m := by omega
        have hWn : W.length < n + 1 := by omega
        have hbig := hR.nodes
        obtain ⟨q, hq⟩ : ∃ q, q = raw.tdiv ((W.length + 1 : Nat) : Int) := ⟨_, rfl⟩
        have hqin : inB q := by
          rw [hq]
          exact inB_tdiv hraw (by omega)
        obtain ⟨j, hj⟩ : ∃ j : Nat, pickZ q m = j := ⟨(pickZ q m).toNat, by have := (pickZ_in (c := q) (n := m) (by omega)).1; omega⟩
        have hjm : j < m := by have := (pickZ_in (c := q) (n := m) (by omega)).2; omega
        obtain ⟨x, hx⟩ : ∃ x, (fitK N f met at_ N.arcs.length)[j]? = some x := ⟨(fitK N f met at_ N.arcs.length)[j]'(by omega), List.getElem?_eq_getElem (by omega)⟩
        obtain ⟨i, a, rfl, ha, hfr, hma, hca⟩ := mem_fitK (List.mem_of_getElem? hx)
        have hi : i < N.arcs.length := (List.getElem?_eq_some_iff.1 ha).1
        obtain ⟨q0, q1, q2⟩ := arcs_get ha
        have har := hR.arc a (List.mem_of_getElem? ha)
        obtain ⟨t, ht⟩ : ∃ t : Nat, a.to = t := ⟨a.to.toNat, by omega⟩
        obtain rfl := hA (by intro h0; rw [h0] at hi; simp at hi)
        refine J_know (own_is 0 rfl) fun ⟨_, hwc, hAw, _⟩ => ?_
        obtain ⟨g1, rfl⟩ := hAw hm0
        (repeat' (first | refine J_seq ?_ | refine J_skip ?_ | refine J_yes rfl ?_ | refine J_no rfl ?_))
        refine J_region ?_
        refine JL_run [] rfl ?_
        refine JL_set 77 (v' := .int .i64 ((W.length + 1 : Nat) : Int)) rfl (congrArg (Value.int .i64) ((w64 (n := (W.length : Int) + 1) (by omega)).trans (by omega))) ?_
        refine JL_val [] (OpV_quo rfl rfl rfl (by omega)) rfl ?_
        refine JL_set 78 (v' := .int .i64 q) rfl (congrArg (Value.int .i64) (by rw [hq]; exact w64 (hq ▸ hqin))) ?_
        refine JL_run [] rfl ?_
        refine JL_callR [] (pick12_fn hqin (by omega : (0 : Int) < m)) rfl rfl rfl rfl (by kernel_rfl) trivial (fun _ => rfl) ?_
        rintro v H' ⟨rfl, rfl⟩
        refine ⟨rfl, ?_⟩
        refine JL_set 81 (v' := .int .i64 (j : Int)) rfl (congrArg (Value.int .i64) hj) ?_
        refine JL_val [] (idx1z rfl rfl rfl rfl rfl hjm) rfl ?_
        refine JL_val [] (OpV_own (v := .int .i64 (i : Int)) 0 rfl rfl rfl (ints_get hx)) rfl ?_
        refine JL_all [] rfl ?_
        (repeat' (first | refine J_seq ?_ | refine J_skip ?_ | refine J_yes rfl ?_ | refine J_no rfl ?_))
        refine J_region ?_
        refine JL_run [] rfl ?_
        refine JL_lit rfl rfl rfl rfl rfl rfl rfl (fun _ => rfl) fun g2 => ?_
        refine JL_appendS (n := W.length) (m := 1) (off := 0) (news := ints [(i : Int)]) 2 0 rfl rfl rfl rfl rfl rfl (by decide) rfl rfl (shows_blk g2 _ _ (0, 0)) (fun _ => rfl) rfl rfl (by omega) (by omega) (fun _ _ => rfl) fun A2 c2 => ?_
        rw [show W.length + 1 = (W ++ [i]).length by simp, show ints (W.map fun (i : Nat) => (i : Int)) ++ ints [(i : Int)] = ints ((W ++ [i]).map fun (i : Nat) => (i : Int)) by simp [ints]]
        refine JL_all [] rfl ?_
        (repeat' (first | refine J_seq ?_ | refine J_skip ?_ | refine J_yes rfl ?_ | refine J_no rfl ?_))
        refine J_region ?_
        refine JL_run [] rfl ?_
        (first | refine JL_val [] (OpV_blk 0 rfl rfl rfl rfl) rfl ?_ | refine JL_val [] (OpV_blk 1 rfl rfl rfl rfl) rfl ?_ | refine JL_val [] (OpV_blk 2 rfl rfl rfl rfl) rfl ?_ | refine JL_val [] (OpV_blk 3 rfl rfl rfl rfl) rfl ?_ | refine JL_val [] (OpV_blk 4 rfl rfl rfl rfl) rfl ?_ | refine JL_val [] (OpV_blk 5 rfl rfl rfl rfl) rfl ?_ | refine JL_val [] (OpV_blk 6 rfl rfl rfl rfl) rfl ?_ | refine JL_val [] (OpV_blk 7 rfl rfl rfl rfl) rfl ?_)
        refine JL_run [] rfl ?_
        refine JL_val [] (idxN rfl rfl rfl rfl rfl hi) rfl ?_
        refine JL_run [] rfl ?_
        refine JL_val [] (ldseg 5 rfl rfl rfl (Nat.add_assoc _ _ _) q1) rfl ?_
        refine JL_all [] rfl ?_
        refine J_set 8 (v' := .int .i64 (t : Int)) rfl (congrArg (Value.int .i64) ht) ?_
        (repeat' (first | refine J_seq ?_ | refine J_skip ?_ | refine J_yes rfl ?_ | refine J_no rfl ?_))
        refine J_region ?_
        refine JL_run [] rfl ?_
        refine JL_val [] (idx1z rfl rfl rfl rfl rfl (by omega)) rfl ?_
        refine JL_store_own 3 rfl rfl rfl rfl (put_bools rfl (by omega)) [] rfl ?_
        refine JL_nil ?_
        have hmt : met[t]? = some false := by rw [← Int.toNat_natCast t, ← ht]; exact hma
        have hcs := count_set met t hmt
        refine ⟨(met.set t true, t, W ++ [i], A2, c2), [2, 3, 4, 5, 6], ⟨rfl, rfl, rfl, rfl, rfl, rfl, trivial⟩, by decide, rfl, ⟨by simp only [List.length_set]; omega, by simp only; omega, by simp only; omega, ?_, by simp only [List.length_append, List.length_singleton]; omega⟩, by simp only; omega⟩
        have hst := OnWalk.step (hfr ▸ how) ha hma hca
        rw [ht, Int.toNat_natCast] at hst
        exact hst
  · (repeat' (first | refine J_seq ?_ | refine J_skip ?_ | refine J_yes rfl ?_ | refine J_no rfl ?_))
    refine J_region ?_
    refine JL_all [] rfl ?_
    refine J_drop [0] (by decide) rfl (J_ret ⟨_, rfl, W, Aw, cw, met, rfl, rfl, .inr ?_, by omega⟩)
    rw [← Classical.not_not.1 heq]; exact how
end Go.Proofs.Ytjbcgjahfalkaaa
