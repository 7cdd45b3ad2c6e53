
/- Chapter 14's flows of raw numbers: the whole. -/
import Derived.Test.YtjbcgjahfalkaaaRouted12
set_option linter.unusedVariables false
set_option linter.unusedSimpArgs false
namespace Go.Proofs.Ytjbcgjahfalkaaa
open Go.RowKit
theorem addW_app (m : Int) (i : Nat) : ∀ (W : List Nat) (f : List Int), addW m (W ++ [i]) f = (addW m W f).set i ((addW m W f).getD i 0 + m)
  | [], _ => rfl
  | j :: W, f => by simp only [List.cons_append, addW]; exact addW_app m i W _
set_option maxHeartbeats 1000000 in
theorem routed_fn (N : Net) (hR : N.Right) (A : Option Addr) (c b o : Nat) (hA : N.arcs ≠ [] → A = some ⟨b, o, none⟩) (L : Option Addr) (cl bl ol : Nat) (l : List Int) (hL : l ≠ [] → L = some ⟨bl, ol, none⟩) (hl : ∀ x ∈ l, inB x) (hs : l.length * 8 ≤ 140737488351232) :
    Fn 19 [netV N A c, .slice L l.length cl] [] [.seg b o (arcs N.arcs), .seg bl ol (ints l)] fun v H' => ∃ (f : List Int) (g : Nat), v = .slice (some ⟨g, 0, none⟩) N.arcs.length N.arcs.length ∧
      H' = [.own (.slice (some ⟨g, 0, none⟩) N.arcs.length N.arcs.length) 2 1 N.arcs.length (ints f)] ∧ IsFlow N f := by
  have hl2 := hR.len
  obtain ⟨m, hm⟩ : ∃ m, N.arcs.length = m := ⟨_, rfl⟩
  refine Fn_of Try.func19 rfl rfl fun w0 => ?_
  (repeat' (first | refine J_seq ?_ | refine J_skip ?_ | refine J_yes rfl ?_ | refine J_no rfl ?_))
  refine J_region ?_
  refine JL_box (cs := netC N A c) rfl rfl rfl (fun _ => rfl) fun p => ?_
  refine JL_all [] rfl ?_
  (repeat' (first | refine J_seq ?_ | refine J_skip ?_ | refine J_yes rfl ?_ | refine J_no rfl ?_))
  refine J_region ?_
  refine JL_run [] rfl ?_
  (first | refine JL_val [] (OpV_blk 0 rfl rfl rfl rfl) rfl ?_ | refine JL_val [] (OpV_blk 1 rfl rfl rfl rfl) rfl ?_ | refine JL_val [] (OpV_blk 2 rfl rfl rfl rfl) rfl ?_ | refine JL_val [] (OpV_blk 3 rfl rfl rfl rfl) rfl ?_ | refine JL_val [] (OpV_blk 4 rfl rfl rfl rfl) rfl ?_ | refine JL_val [] (OpV_blk 5 rfl rfl rfl rfl) rfl ?_ | refine JL_val [] (OpV_blk 6 rfl rfl rfl rfl) rfl ?_ | refine JL_val [] (OpV_blk 7 rfl rfl rfl rfl) rfl ?_)
  refine JL_run [] rfl ?_
  rw [hm]
  refine JL_make (n := m) (c := m) rfl rfl rfl rfl rfl rfl (by omega) (by omega) (by omega) (fun _ => rfl) fun gf => ?_
  refine JL_all [] rfl ?_
  rw [show made [Value.int .i64 0] (m * 1) = ints (List.replicate m 0) by rw [made_one, Nat.mul_one]; simp [ints]]
  (repeat' (first | refine J_seq ?_ | refine J_skip ?_ | refine J_yes rfl ?_ | refine J_no rfl ?_))
  refine J_region ?_
  refine JL_all [] rfl ?_
  (repeat' (first | refine J_seq ?_ | refine J_skip ?_ | refine J_yes rfl ?_ | refine J_no rfl ?_))
  refine J_block ?_
  refine J_loop (σ := Nat × List Int) (fun s => [(6, .int .i64 s.1), (5, .slice (some ⟨gf, 0, none⟩) m m), (2, .pointer (some ⟨p, 0, none⟩)), (1, .slice L l.length cl)])
    (fun s => [.own (.slice (some ⟨gf, 0, none⟩) m m) 2 1 m (ints s.2), blk p 27 (netC N A c), .seg b o (arcs N.arcs), .seg bl ol (ints l)])
    (fun s => s.1 ≤ l.length ∧ IsFlow N s.2) (fun s => l.length - s.1)
    (0, List.replicate m 0) [0, 1, 2, 3] ⟨rfl, rfl, rfl, rfl, trivial⟩ (by decide) rfl ⟨Nat.zero_le _, hm ▸ zeroFlow N hR⟩ ?_
  rintro ⟨i, f⟩ ⟨hi, hf⟩
  simp only at hi hf ⊢
  have hfl := hf.len
  refine J_seq (J_cut [(22, .bool (cdec (i < l.length ∧ i < 8))), (6, .int .i64 i), (5, .slice (some ⟨gf, 0, none⟩) m m), (2, .pointer (some ⟨p, 0, none⟩)), (1, .slice L l.length cl)]
    [.own (.slice (some ⟨gf, 0, none⟩) m m) 2 1 m (ints f), blk p 27 (netC N A c), .seg b o (arcs N.arcs), .seg bl ol (ints l)] ?_ ?_)
  · (repeat' (first | refine J_seq ?_ | refine J_skip ?_ | refine J_yes rfl ?_ | refine J_no rfl ?_))
    refine J_region ?_
    refine JL_run [] rfl ?_
    by_cases h1 : (i : Int) < l.length
    · refine JL_set 19 (v' := .bool true) rfl (congrArg Value.bool (cdec_yes h1)) ?_
      refine JL_all [4] rfl ?_
      exact ⟨[0, 1, 2, 3], ⟨congrArg some (congrArg Value.bool (cdec_iff (by omega))), rfl, rfl, rfl, rfl, trivial⟩, by decide, rfl⟩
    · refine JL_set 19 (v' := .bool false) rfl (congrArg Value.bool (cdec_no h1)) ?_
      refine JL_all [4] rfl ?_
      exact ⟨[0, 1, 2, 3], ⟨congrArg some (congrArg Value.bool (cdec_no (by omega)).symm), rfl, rfl, rfl, rfl, trivial⟩, by decide, rfl⟩
  · refine J_dec rfl (fun hgo => J_skip ?_) (fun hno => J_exit ?_)
    · have hlt := hgo.1
      obtain rfl := hL (by rintro rfl; simp at hlt)
      obtain ⟨x, hx⟩ : ∃ x, l[i]? = some x := ⟨l[i], List.getElem?_eq_getElem hlt⟩
      have hxin := hl x (List.mem_of_getElem? hx)
      refine J_seq (J_block ?_)
      (repeat' (first | refine J_seq ?_ | refine J_skip ?_ | refine J_yes rfl ?_ | refine J_no rfl ?_))
      refine J_walk 8 [(0, true), (1, true), (2, true), (3, true), (4, true), (5, true), (6, false), (7, true)] [0, 1, 2, 3] (by kernel_rfl) (by decide) rfl ?_
      refine JW_still [] rfl (OpV_blk (v := netV N A c) 1 rfl rfl rfl rfl) rfl ?_
      refine JW_run [] rfl ?_
      refine JW_still [] rfl (idx1 rfl rfl rfl rfl rfl hlt) rfl ?_
      refine JW_still [] rfl (ldseg 3 rfl rfl rfl rfl (readT_int' hx)) rfl ?_
      refine JW_eff rfl ?_
      refine JL_callR [] (walked_fn N hR A c b o hA f hfl (some ⟨gf, 0, none⟩) m gf 0 (fun _ => rfl) x hxin) rfl rfl rfl (by rw [hfl, hm]; rfl) (by kernel_rfl) ⟨⟨2, _, by simp, rfl, shows_seg _ _ _, seen_seg⟩, ⟨0, _, by simp, rfl, shows_own, seen_ownS (fun _ => rfl)⟩, trivial⟩ (fun _ => rfl) ?_
      rintro v H' ⟨W, A', c', met, rfl, rfl, hW, hW5⟩
      refine ⟨rfl, JL_nil ⟨⟨[1, 2, 3, 4], by decide, rfl⟩, ?_⟩⟩
      refine JW_all [] rfl ?_
      refine JL_nil ?_
      have hWr : ∀ j ∈ W, ∃ r : Arc, N.arcs[j]? = some r ∧ f.getD j 0 < r.cap := by
        intro j hj
        rcases hW with rfl | hW
        · cases hj
        · obtain ⟨r, h1, h2, _⟩ := hW.room j hj
          exact ⟨r, h1, h2⟩
      have hWn : W.Nodup := by
        rcases hW with rfl | hW
        · exact List.nodup_nil
        · exact hW.nodup
      have hfb : ∀ (f' : List Int) (j : Nat) (r : Arc), Ranged N f' → N.arcs[j]? = some r → f'[j]? = some (f'.getD j 0) ∧ 0 ≤ f'.getD j 0 ∧ f'.getD j 0 ≤ r.cap ∧ r.cap ≤ 4611686018427387903 := by
        intro f' j r hf' hr
        have hj : j < N.arcs.length := (List.getElem?_eq_some_iff.1 hr).1
        have h1 : f'[j]? = some (f'.getD j 0) := by rw [List.getD_eq_getElem?_getD, List.getElem?_eq_getElem (by have := hf'.len; omega)]; rfl
        have h2 := hf'.all (r, f'.getD j 0) (List.mem_of_getElem? (List.getElem?_zip_eq_some.2 ⟨hr, h1⟩))
        exact ⟨h1, h2.1, h2.2, hR.cap (List.mem_of_getElem? hr)⟩
      have hpk := pickZ_in (c := x) (n := 30) (by decide)
      refine J_know (own_is 0 rfl) fun ⟨_, hwc, hAw, _⟩ => ?_
      (repeat' (first | refine J_seq ?_ | refine J_skip ?_ | refine J_yes rfl ?_ | refine J_no rfl ?_))
      refine J_region ?_
      refine JL_run [] rfl ?_
      refine JL_val [] (idx1 rfl rfl rfl rfl rfl hlt) rfl ?_
      refine JL_val [] (ldseg 4 rfl rfl rfl rfl (readT_int' hx)) rfl ?_
      refine JL_callR [] (pick12_fn hxin (by decide : (0 : Int) < 30)) rfl rfl rfl rfl (by kernel_rfl) trivial (fun _ => rfl) ?_
      rintro v H' ⟨rfl, rfl⟩
      refine ⟨rfl, ?_⟩
      refine JL_all [] rfl ?_
      refine J_set 8 (v' := .int .i64 (pickZ x 30 + 1)) rfl (congrArg (Value.int .i64) (w64 (by omega))) ?_
      (repeat' (first | refine J_seq ?_ | refine J_skip ?_ | refine J_yes rfl ?_ | refine J_no rfl ?_))
      refine J_region ?_
      refine JL_all [] rfl ?_
      (repeat' (first | refine J_seq ?_ | refine J_skip ?_ | refine J_yes rfl ?_ | refine J_no rfl ?_))
      refine J_block ?_
      refine J_loop (σ := Nat × Int) (fun t => [(9, .int .i64 t.1), (8, .int .i64 t.2), (7, .slice A' W.length c'), (6, .int .i64 i), (5, .slice (some ⟨gf, 0, none⟩) m m), (2, .pointer (some ⟨p, 0, none⟩)), (1, .slice (some ⟨bl, ol, none⟩) l.length cl)])
        (fun _ => [.own (.slice A' W.length c') 3 1 W.length (ints (W.map fun (i : Nat) => (i : Int))), .own (.slice (some ⟨gf, 0, none⟩) m m) 2 1 m (ints f), blk p 27 (netC N A c), .seg b o (arcs N.arcs), .seg bl ol (ints l)])
        (fun t => t.1 ≤ W.length ∧ 1 ≤ t.2 ∧ t.2 ≤ 30 ∧ ∀ j ∈ W.take t.1, ∃ r : Arc, N.arcs[j]? = some r ∧ f.getD j 0 + t.2 ≤ r.cap) (fun t => W.length - t.1)
        (0, pickZ x 30 + 1) [0, 1, 2, 3, 4] ⟨rfl, rfl, rfl, rfl, rfl, rfl, rfl, trivial⟩ (by decide) rfl ⟨Nat.zero_le _, by simp only; omega, by simp only; omega, fun j hj => by simp at hj⟩ ?_
      · rintro ⟨k, mo⟩ ⟨hk, hmo1, hmo2, hmo⟩
        simp only at hk hmo1 hmo2 hmo ⊢
        (repeat' (first | refine J_seq ?_ | refine J_skip ?_ | refine J_yes rfl ?_ | refine J_no rfl ?_))
        refine J_region ?_
        refine JL_all [] rfl ?_
        refine J_dec rfl (fun hkl => J_skip ?_) (fun hkl => J_exit ?_)
        · have hkl : k < W.length := by omega
          obtain ⟨j, hj⟩ : ∃ j, W[k]? = some j := ⟨W[k], List.getElem?_eq_getElem hkl⟩
          have hjm : (W.map fun (i : Nat) => (i : Int))[k]? = some (j : Int) := by rw [List.getElem?_map, hj]; rfl
          obtain ⟨r, hr, hrc⟩ := hWr j (List.mem_of_getElem? hj)
          have hjl : j < N.arcs.length := (List.getElem?_eq_some_iff.1 hr).1
          obtain ⟨hfj, hf0, hf1, hf2⟩ := hfb f j r hf.toRanged hr
          obtain ⟨q0, q1, q2⟩ := arcs_get hr
          obtain rfl := hA (by intro h0; rw [h0] at hjl; simp at hjl)
          obtain ⟨g1, rfl⟩ := hAw (by omega)
          refine J_seq (J_block ?_)
          (repeat' (first | refine J_seq ?_ | refine J_skip ?_ | refine J_yes rfl ?_ | refine J_no rfl ?_))
          refine J_walk 20 [(0, true), (1, true), (2, true), (3, true), (4, true), (5, true), (6, true), (7, true), (8, true), (9, true), (10, true), (11, true), (12, true), (13, true), (14, true), (15, true), (16, true), (17, true), (18, true), (19, true)] [0, 1, 2, 3, 4] (by kernel_rfl) (by decide) rfl ?_
          refine JW_run [] rfl ?_
          (first | refine JW_still [] rfl (OpV_blk 0 rfl rfl rfl rfl) rfl ?_ | refine JW_still [] rfl (OpV_blk 1 rfl rfl rfl rfl) rfl ?_ | refine JW_still [] rfl (OpV_blk 2 rfl rfl rfl rfl) rfl ?_ | refine JW_still [] rfl (OpV_blk 3 rfl rfl rfl rfl) rfl ?_ | refine JW_still [] rfl (OpV_blk 4 rfl rfl rfl rfl) rfl ?_ | refine JW_still [] rfl (OpV_blk 5 rfl rfl rfl rfl) rfl ?_)
          refine JW_run [] rfl ?_
          refine JW_still [] rfl (idx1z rfl rfl rfl rfl rfl hkl) rfl ?_
          refine JW_still [] rfl (OpV_own (v := .int .i64 (j : Int)) 0 rfl rfl rfl (ints_get hjm)) rfl ?_
          refine JW_still [] rfl (idxN rfl rfl rfl rfl rfl hjl) rfl ?_
          refine JW_run [] rfl ?_
          refine JW_still [] rfl (ldseg 3 rfl rfl rfl (Nat.add_assoc _ _ _) q2) rfl ?_
          refine JW_run [] rfl ?_
          refine JW_still [] rfl (idx1z rfl rfl rfl rfl rfl hkl) rfl ?_
          refine JW_still [] rfl (OpV_own (v := .int .i64 (j : Int)) 0 rfl rfl rfl (ints_get hjm)) rfl ?_
          refine JW_still [] rfl (idx1z rfl rfl rfl rfl rfl (by omega)) rfl ?_
          refine JW_still [] rfl (OpV_own 1 rfl rfl rfl (readT_int hfj)) rfl ?_
          refine JW_run [] rfl ?_
          have hw : IntKind.i64.wrap (r.cap - f.getD j 0) = r.cap - f.getD j 0 := w64 (by omega)
          obtain ⟨mo', hmo'⟩ : ∃ mo', mo' = if r.cap - f.getD j 0 < mo then r.cap - f.getD j 0 else mo := ⟨_, rfl⟩
          have hmm : 1 ≤ mo' ∧ mo' ≤ mo ∧ f.getD j 0 + mo' ≤ r.cap := by
            rw [hmo']; split <;> omega
          refine JW_set 8 (v' := .int .i64 mo') rfl (congrArg (Value.int .i64) (by rw [hw, hmo'])) ?_
          refine JW_nil ?_
          refine JL_nil ?_
          (repeat' (first | refine J_seq ?_ | refine J_skip ?_ | refine J_yes rfl ?_ | refine J_no rfl ?_))
          refine J_region ?_
          refine JL_all [] rfl ?_
          refine ⟨(k + 1, mo'), [0, 1, 2, 3, 4], ⟨?_, rfl, rfl, rfl, rfl, rfl, rfl, trivial⟩, by decide, rfl, ⟨by simp only; omega, by simp only; omega, by simp only; omega, fun j' hj' => ?_⟩, by simp only; omega⟩
          · show some (Value.int .i64 (IntKind.i64.wrap ((k : Int) + 1))) = _
            rw [w64 (by omega)]; rfl
          · simp only at hj' ⊢
            rw [List.take_add_one, hj] at hj'
            rcases List.mem_append.1 hj' with hj' | hj'
            · obtain ⟨r', h1, h2⟩ := hmo j' hj'
              exact ⟨r', h1, by omega⟩
            · obtain rfl : j' = j := by simpa using hj'
              exact ⟨r, hr, hmm.2.2⟩
        · have hk' : k = W.length := by omega
          subst hk'
          rw [List.take_length] at hmo
          (repeat' (first | refine J_seq ?_ | refine J_skip ?_ | refine J_yes rfl ?_ | refine J_no rfl ?_))
          refine J_region ?_
          refine JL_all [] rfl ?_
          refine J_block ?_
          refine J_loop (σ := Nat) (fun t => [(10, .int .i64 t), (8, .int .i64 mo), (7, .slice A' W.length c'), (6, .int .i64 i), (5, .slice (some ⟨gf, 0, none⟩) m m), (2, .pointer (some ⟨p, 0, none⟩)), (1, .slice (some ⟨bl, ol, none⟩) l.length cl)])
            (fun t => [.own (.slice A' W.length c') 3 1 W.length (ints (W.map fun (i : Nat) => (i : Int))), .own (.slice (some ⟨gf, 0, none⟩) m m) 2 1 m (ints (addW mo (W.take t) f)), blk p 27 (netC N A c), .seg b o (arcs N.arcs), .seg bl ol (ints l)])
            (fun t => t ≤ W.length) (fun t => W.length - t)
            0 [0, 1, 2, 3, 4] ⟨rfl, rfl, rfl, rfl, rfl, rfl, rfl, trivial⟩ (by decide) rfl (Nat.zero_le _) ?_
          intro k hk
          (repeat' (first | refine J_seq ?_ | refine J_skip ?_ | refine J_yes rfl ?_ | refine J_no rfl ?_))
          refine J_region ?_
          refine JL_all [] rfl ?_
          refine J_dec rfl (fun hkl => J_skip ?_) (fun hkl => J_exit ?_)
          · have hkl : k < W.length := by omega
            obtain ⟨j, hj⟩ : ∃ j, W[k]? = some j := ⟨W[k], List.getElem?_eq_getElem hkl⟩
            have hjm : (W.map fun (i : Nat) => (i : Int))[k]? = some (j : Int) := by rw [List.getElem?_map, hj]; rfl
            obtain ⟨r, hr, hrc⟩ := hmo j (List.mem_of_getElem? hj)
            have hjl : j < N.arcs.length := (List.getElem?_eq_some_iff.1 hr).1
            obtain ⟨hfj, hf0, hf1, hf2⟩ := hfb f j r hf.toRanged hr
            have htk : W.take (k + 1) = W.take k ++ [j] := by rw [List.take_add_one, hj]; rfl
            have hnt : j ∉ W.take k := by
              intro hin
              have h1 := hWn
              rw [← List.take_append_drop (k + 1) W, htk] at h1
              exact (List.nodup_append.1 (List.nodup_append.1 h1).1).2.2 j hin j (by simp) rfl
            have hcur : (addW mo (W.take k) f)[j]? = some (f.getD j 0) := by
              rw [addW_get mo (W.take k) f j ((List.take_sublist k W).nodup hWn) (fun i hi => by
                obtain ⟨r', h1, _⟩ := hmo i (List.mem_of_mem_take hi)
                have := (List.getElem?_eq_some_iff.1 h1).1
                omega), if_neg hnt]
              exact hfj
            have hcd : (addW mo (W.take k) f).getD j 0 = f.getD j 0 := by rw [List.getD_eq_getElem?_getD, hcur]; rfl
            have hnew : addW mo (W.take (k + 1)) f = (addW mo (W.take k) f).set j (f.getD j 0 + mo) := by rw [htk, addW_app, hcd]
            obtain ⟨g1, rfl⟩ := hAw (by omega)
            refine J_seq (J_block ?_)
            (repeat' (first | refine J_seq ?_ | refine J_skip ?_ | refine J_yes rfl ?_ | refine J_no rfl ?_))
            refine J_walk 15 [(0, true), (1, true), (2, true), (3, true), (4, true), (5, true), (6, true), (7, true), (8, true), (9, true), (10, true), (11, true), (12, true), (13, true), (14, true)] [0, 1, 2, 3, 4] (by kernel_rfl) (by decide) rfl ?_
            refine JW_run [] rfl ?_
            refine JW_still [] rfl (idx1z rfl rfl rfl rfl rfl hkl) rfl ?_
            refine JW_still [] rfl (OpV_own (v := .int .i64 (j : Int)) 0 rfl rfl rfl (ints_get hjm)) rfl ?_
            refine JW_run [] rfl ?_
            refine JW_still [] rfl (idx1z rfl rfl rfl rfl rfl hkl) rfl ?_
            refine JW_still [] rfl (OpV_own (v := .int .i64 (j : Int)) 0 rfl rfl rfl (ints_get hjm)) rfl ?_
            refine JW_still [] rfl (idx1z rfl rfl rfl rfl rfl (by omega)) rfl ?_
            refine JW_still [] rfl (OpV_own 1 rfl rfl rfl (readT_int hcur)) rfl ?_
            refine JW_run [] rfl ?_
            refine JW_still [] rfl (idx1z rfl rfl rfl rfl rfl (by omega)) rfl ?_
            refine JW_set 82 (v' := .int .i64 (f.getD j 0 + mo)) rfl (congrArg (Value.int .i64) (w64 (by omega))) ?_
            refine JW_nil ?_
            refine JL_store_own 1 rfl rfl rfl rfl (put_ints rfl (by rw [addW_length]; omega)) [] rfl ?_
            refine JL_nil ?_
            (repeat' (first | refine J_seq ?_ | refine J_skip ?_ | refine J_yes rfl ?_ | refine J_no rfl ?_))
            refine J_region ?_
            refine JL_all [] rfl ?_
            refine ⟨k + 1, [0, 1, 2, 3, 4], ⟨?_, rfl, rfl, rfl, rfl, rfl, rfl, trivial⟩, by decide, by rw [hnew]; rfl, by omega, by omega⟩
            show some (Value.int .i64 (IntKind.i64.wrap ((k : Int) + 1))) = _
            rw [w64 (by omega)]; rfl
          · have hk' : k = W.length := by omega
            subst hk'
            rw [List.take_length]
            (repeat' (first | refine J_seq ?_ | refine J_skip ?_ | refine J_yes rfl ?_ | refine J_no rfl ?_))
            refine J_region ?_
            refine JL_all [] rfl ?_
            refine ⟨(i + 1, addW mo W f), [1, 2, 3, 4], ⟨?_, rfl, rfl, rfl, trivial⟩, by decide, rfl, ⟨by simp only; omega, ?_⟩, by simp only; omega⟩
            · show some (Value.int .i64 (IntKind.i64.wrap ((i : Int) + 1))) = _
              rw [w64 (by omega)]; rfl
            · rcases hW with rfl | hW
              · exact hf
              · exact addW_flow hf hW.walk hW.nodup (by omega) hmo
    · (repeat' (first | refine J_seq ?_ | refine J_skip ?_ | refine J_yes rfl ?_ | refine J_no rfl ?_))
      refine J_region ?_
      refine JL_all [] rfl ?_
      refine J_drop [0] (by decide) rfl (J_ret ⟨_, rfl, f, gf, rfl, rfl, hf⟩)
end Go.Proofs.Ytjbcgjahfalkaaa
