
/- Networks turned, and the greatest cut of a flow. -/
import Derived.Test.YtjbcgjahfalkaaaQF
import Derived.Test.YtjbcgjahfalkaaaQB
set_option linter.unusedVariables false
set_option linter.unusedSimpArgs false
namespace Go.Proofs.Ytjbcgjahfalkaaa
open Go.RowKit
def turnA (a : Arc) : Arc := ⟨a.to, a.fr, a.cap⟩
def turnN (N : Net) : Net := ⟨N.nodes, N.snk, N.src, N.arcs.map turnA⟩
theorem turn_right {N : Net} (h : N.Right) : (turnN N).Right := by
  refine ⟨h.nodes, h.snk, h.src, h.diff.symm, by simp [turnN]; exact h.len, fun a ha => ?_, ?_⟩
  · obtain ⟨x, hx, rfl⟩ := List.mem_map.1 ha
    obtain ⟨h1, h2, h3⟩ := h.arc x hx
    exact ⟨h2, h1, h3⟩
  · have : (turnN N).arcs.map (·.cap) = N.arcs.map (·.cap) := by simp only [turnN, List.map_map]; rfl
    rw [this]; exact h.sum
theorem turn_fits {N : Net} (h : N.Fits) : (turnN N).Fits := by
  refine ⟨h.nodes, h.snk, h.src, by simp [turnN]; have := h.len; omega, fun a ha => ?_⟩
  obtain ⟨x, hx, rfl⟩ := List.mem_map.1 ha
  obtain ⟨h1, h2, h3⟩ := h.arc x hx
  exact ⟨h2, h1, h3⟩
theorem turn_ex : ∀ (l : List Arc) (f : List Int) (v : Int), exZ ((l.map turnA).zip f) v = - exZ (l.zip f) v
  | [], _, _ => by simp [exZ]
  | a :: l, [], _ => by simp [exZ]
  | a :: l, x :: f, v => by
    have ih := turn_ex l f v
    simp only [exZ] at ih
    simp only [exZ, List.map_cons, List.zip_cons_cons, List.sum_cons, turnA]
    omega
theorem turn_room : ∀ (l : List Arc) (f : List Int), roomL ((l.map turnA).zip f) = roomL (l.zip f)
  | [], _ => by simp [roomL]
  | a :: l, [] => by simp [roomL]
  | a :: l, x :: f => by
    have ih := turn_room l f
    unfold roomL at *
    simp only [List.map_cons, List.zip_cons_cons, List.flatMap_cons, ih, turnA]
theorem turn_flow {N : Net} {f : List Int} (h : IsFlow N f) : IsFlow (turnN N) f := by
  refine ⟨⟨by simp [turnN]; exact h.len, fun p hp => ?_⟩, fun v hv h1 h2 => ?_⟩
  · obtain ⟨i, hi, hip⟩ := List.mem_iff_getElem.1 hp
    have hz : ((turnN N).arcs.zip f)[i]? = some p := by rw [List.getElem?_eq_getElem hi, hip]
    change ((N.arcs.map turnA).zip f)[i]? = some p at hz
    obtain ⟨g1, g2⟩ := List.getElem?_zip_eq_some.1 hz
    rw [List.getElem?_map] at g1
    cases ha : N.arcs[i]? with
    | none => rw [ha] at g1; simp at g1
    | some a =>
      rw [ha] at g1
      have e : turnA a = p.1 := by simpa using g1
      have := h.all (a, p.2) (List.mem_of_getElem? (List.getElem?_zip_eq_some.2 ⟨ha, g2⟩))
      rw [← e]; exact this
  · show exZ ((N.arcs.map turnA).zip f) v = 0
    rw [turn_ex, h.kept v hv h2 h1]; rfl
theorem turn_ends (N : Net) (r : Nat) : endsZ (turnN N) r = ((endsZ N r).2, (endsZ N r).1) := by
  unfold endsZ
  simp only [turnN, List.getElem?_map]
  cases N.arcs[r / 2]? with
  | none => rfl
  | some a =>
    show endsOf (turnA a) r = ((endsOf a r).2, (endsOf a r).1)
    unfold endsOf turnA
    split <;> rfl
theorem arcs_set : ∀ (l : List Arc) (k : Nat) (a : Arc) (x : Int), l[k]? = some a → (arcs l).set (k * 3) (.int .i64 x) = arcs (l.set k ⟨x, a.to, a.cap⟩) ∧ (arcs l).set (k * 3 + 1) (.int .i64 x) = arcs (l.set k ⟨a.fr, x, a.cap⟩)
  | [], _, _, _, h => by simp at h
  | b :: l, 0, a, x, h => by
    simp only [List.getElem?_cons_zero, Option.some.injEq] at h
    subst h
    exact ⟨rfl, rfl⟩
  | b :: l, k + 1, a, x, h => by
    obtain ⟨h1, h2⟩ := arcs_set l k a x (by simpa using h)
    have e : ∀ (c : Arc) (m : List Arc), arcs (c :: m) = .int .i64 c.fr :: .int .i64 c.to :: .int .i64 c.cap :: arcs m := fun c m => by simp [arcs]
    refine ⟨?_, ?_⟩
    · rw [show (b :: l).set (k + 1) ⟨x, a.to, a.cap⟩ = b :: l.set k ⟨x, a.to, a.cap⟩ from rfl, e, e, ← h1, show (k + 1) * 3 = k * 3 + 1 + 1 + 1 by omega]; rfl
    · rw [show (b :: l).set (k + 1) ⟨a.fr, x, a.cap⟩ = b :: l.set k ⟨a.fr, x, a.cap⟩ from rfl, e, e, ← h2, show (k + 1) * 3 + 1 = k * 3 + 1 + 1 + 1 + 1 by omega]; rfl
theorem cloneA_fn (A : Option Addr) (c b o : Nat) (l : List Arc) (hA : l ≠ [] → A = some ⟨b, o, none⟩) (hl : l.length ≤ 100000) :
    Fn 61 [.slice A l.length c] [] [.seg b o (arcs l)] fun v H' => ∃ (A' : Option Addr) (c' : Nat), v = .slice A' l.length c' ∧ H' = [.own (.slice A' l.length c') 42 3 l.length (arcs l)] := by
  refine Fn_of Try.func61 rfl rfl fun w0 => ?_
  (repeat' (first | refine J_seq ?_ | refine J_skip ?_ | refine J_yes rfl ?_ | refine J_no rfl ?_))
  refine J_region ?_
  refine JL_all [] rfl ?_
  (repeat' (first | refine J_seq ?_ | refine J_skip ?_ | refine J_yes rfl ?_ | refine J_no rfl ?_))
  refine J_region ?_
  refine JL_run [] rfl ?_
  refine JL_val [] (OpV_isnil rfl rfl rfl rfl) rfl ?_
  refine JL_nil ?_
  cases A with
  | none =>
    have h0 : l = [] := Classical.byContradiction fun h => by have := hA h; simp at this
    subst h0
    refine J_yes rfl ?_
    (repeat' (first | refine J_seq ?_ | refine J_skip ?_ | refine J_yes rfl ?_ | refine J_no rfl ?_))
    refine J_region ?_
    refine JL_all [] rfl ?_
    refine J_addnil 42 3 ?_
    exact J_drop [0] (by decide) rfl (J_ret ⟨_, rfl, none, 0, rfl, rfl⟩)
  | some a =>
    refine J_no rfl (J_skip ?_)
    (repeat' (first | refine J_seq ?_ | refine J_skip ?_ | refine J_yes rfl ?_ | refine J_no rfl ?_))
    refine J_region ?_
    refine JL_lit rfl rfl rfl rfl rfl rfl rfl (fun _ => rfl) fun g => ?_
    refine JL_own 3 0 rfl (by decide) ?_
    refine JL_run [] rfl ?_
    refine JL_appendS (n := 0) (m := l.length) (off := o) (b := b) (news := arcs l) 0 1 rfl rfl rfl rfl rfl rfl (by decide) rfl rfl (shows_seg _ _ _) (fun h => hA (fun e => h (by rw [e]; rfl))) (by rw [arcs_length]) (arcs_one l) (by omega) (by omega) (fun _ _ => rfl) fun A2 c2 => ?_
    rw [Nat.zero_add]
    refine JL_all [] rfl ?_
    exact J_drop [0] (by decide) rfl (J_ret ⟨_, rfl, A2, c2, rfl, rfl⟩)
theorem copy_fn (N : Net) (hl2 : N.arcs.length ≤ 100000) (A : Option Addr) (c b o : Nat) (hA : N.arcs ≠ [] → A = some ⟨b, o, none⟩) :
    Fn 23 [netV N A c] [] [.seg b o (arcs N.arcs)] fun v H' => ∃ (A' : Option Addr) (c' : Nat), v = netV N A' c' ∧ H' = [.own (.slice A' N.arcs.length c') 42 3 N.arcs.length (arcs N.arcs)] := by
  refine Fn_ofC Try.func23 rfl rfl fun w0 => ?_
  (repeat' (first | refine J_seq ?_ | refine J_skip ?_ | refine J_yes rfl ?_ | refine J_no rfl ?_))
  refine J_region ?_
  refine JL_box (cs := netC N A c) rfl rfl rfl (fun _ => rfl) fun p1 => ?_
  refine JL_alloc rfl rfl rfl (fun _ => rfl) fun p2 => ?_
  refine JL_all [] rfl ?_
  (repeat' (first | refine J_seq ?_ | refine J_skip ?_ | refine J_yes rfl ?_ | refine J_no rfl ?_))
  refine J_region ?_
  refine JL_run [] rfl ?_
  (first | refine JL_val [] (OpV_blk 0 rfl rfl rfl rfl) rfl ?_ | refine JL_val [] (OpV_blk 1 rfl rfl rfl rfl) rfl ?_ | refine JL_val [] (OpV_blk 2 rfl rfl rfl rfl) rfl ?_ | refine JL_val [] (OpV_blk 3 rfl rfl rfl rfl) rfl ?_ | refine JL_val [] (OpV_blk 4 rfl rfl rfl rfl) rfl ?_ | refine JL_val [] (OpV_blk 5 rfl rfl rfl rfl) rfl ?_ | refine JL_val [] (OpV_blk 6 rfl rfl rfl rfl) rfl ?_ | refine JL_val [] (OpV_blk 7 rfl rfl rfl rfl) rfl ?_)
  refine JL_callR [] (cloneA_fn A c b o N.arcs hA hl2) rfl rfl rfl rfl (by kernel_rfl) ⟨⟨2, _, by simp, rfl, shows_seg _ _ _, seen_seg⟩, trivial⟩ (fun _ => rfl) ?_
  rintro v H' ⟨A', c', rfl, rfl⟩
  refine ⟨rfl, ?_⟩
  refine JL_run [] rfl ?_
  refine JL_store 2 rfl rfl rfl rfl rfl [] rfl ?_
  refine JL_nil ?_
  (repeat' (first | refine J_seq ?_ | refine J_skip ?_ | refine J_yes rfl ?_ | refine J_no rfl ?_))
  refine J_region ?_
  refine JL_val [] (v := netV N A' c') (OpV_blk 2 rfl rfl rfl rfl) rfl ?_
  refine JL_store 1 rfl rfl rfl rfl rfl [] rfl ?_
  refine JL_nil ?_
  refine J_ret ?_
  exact ⟨[_], [0], _, ⟨⟨p2, 1, _, _, rfl, rfl, rfl⟩, trivial⟩, by decide, rfl, A', c', rfl, rfl⟩
set_option maxHeartbeats 1000000 in
theorem turnN_fn (N : Net) (hl2 : N.arcs.length ≤ 100000) (A : Option Addr) (c b o : Nat) (hA : N.arcs ≠ [] → A = some ⟨b, o, none⟩) :
    Fn 21 [netV N A c] [] [.seg b o (arcs N.arcs)] fun v H' => ∃ (A' : Option Addr) (c' : Nat), v = netV (turnN N) A' c' ∧ H' = [.own (.slice A' (turnN N).arcs.length c') 42 3 (turnN N).arcs.length (arcs (turnN N).arcs)] := by
  refine Fn_ofC Try.func21 rfl rfl fun w0 => ?_
  (repeat' (first | refine J_seq ?_ | refine J_skip ?_ | refine J_yes rfl ?_ | refine J_no rfl ?_))
  refine J_region ?_
  refine JL_box (cs := netC N A c) rfl rfl rfl (fun _ => rfl) fun p1 => ?_
  refine JL_alloc rfl rfl rfl (fun _ => rfl) fun p2 => ?_
  refine JL_all [] rfl ?_
  (repeat' (first | refine J_seq ?_ | refine J_skip ?_ | refine J_yes rfl ?_ | refine J_no rfl ?_))
  refine J_region ?_
  refine JL_val [] (v := netV N A c) (OpV_blk 1 rfl rfl rfl rfl) rfl ?_
  refine JL_callR [] (copy_fn N hl2 A c b o hA) rfl rfl rfl rfl (by kernel_rfl) ⟨⟨2, _, by simp, rfl, shows_seg _ _ _, seen_seg⟩, trivial⟩ (fun _ => rfl) ?_
  rintro v H' ⟨A', c', rfl, rfl⟩
  refine ⟨rfl, ?_⟩
  refine JL_store 2 rfl rfl rfl rfl rfl [] rfl ?_
  refine JL_nil ?_
  (repeat' (first | refine J_seq ?_ | refine J_skip ?_ | refine J_yes rfl ?_ | refine J_no rfl ?_))
  refine J_region ?_
  refine JL_run [] rfl ?_
  (first | refine JL_val [] (OpV_blk 0 rfl rfl rfl rfl) rfl ?_ | refine JL_val [] (OpV_blk 1 rfl rfl rfl rfl) rfl ?_ | refine JL_val [] (OpV_blk 2 rfl rfl rfl rfl) rfl ?_ | refine JL_val [] (OpV_blk 3 rfl rfl rfl rfl) rfl ?_ | refine JL_val [] (OpV_blk 4 rfl rfl rfl rfl) rfl ?_ | refine JL_val [] (OpV_blk 5 rfl rfl rfl rfl) rfl ?_ | refine JL_val [] (OpV_blk 6 rfl rfl rfl rfl) rfl ?_ | refine JL_val [] (OpV_blk 7 rfl rfl rfl rfl) rfl ?_)
  refine JL_run [] rfl ?_
  (first | refine JL_val [] (OpV_blk 0 rfl rfl rfl rfl) rfl ?_ | refine JL_val [] (OpV_blk 1 rfl rfl rfl rfl) rfl ?_ | refine JL_val [] (OpV_blk 2 rfl rfl rfl rfl) rfl ?_ | refine JL_val [] (OpV_blk 3 rfl rfl rfl rfl) rfl ?_ | refine JL_val [] (OpV_blk 4 rfl rfl rfl rfl) rfl ?_ | refine JL_val [] (OpV_blk 5 rfl rfl rfl rfl) rfl ?_ | refine JL_val [] (OpV_blk 6 rfl rfl rfl rfl) rfl ?_ | refine JL_val [] (OpV_blk 7 rfl rfl rfl rfl) rfl ?_)
  refine JL_run [] rfl ?_
  refine JL_store 2 rfl rfl rfl rfl rfl [] rfl ?_
  refine JL_run [] rfl ?_
  refine JL_store 2 rfl rfl rfl rfl rfl [] rfl ?_
  refine JL_nil ?_
  (repeat' (first | refine J_seq ?_ | refine J_skip ?_ | refine J_yes rfl ?_ | refine J_no rfl ?_))
  refine J_region ?_
  refine JL_run [] rfl ?_
  (first | refine JL_val [] (OpV_blk 0 rfl rfl rfl rfl) rfl ?_ | refine JL_val [] (OpV_blk 1 rfl rfl rfl rfl) rfl ?_ | refine JL_val [] (OpV_blk 2 rfl rfl rfl rfl) rfl ?_ | refine JL_val [] (OpV_blk 3 rfl rfl rfl rfl) rfl ?_ | refine JL_val [] (OpV_blk 4 rfl rfl rfl rfl) rfl ?_ | refine JL_val [] (OpV_blk 5 rfl rfl rfl rfl) rfl ?_ | refine JL_val [] (OpV_blk 6 rfl rfl rfl rfl) rfl ?_ | refine JL_val [] (OpV_blk 7 rfl rfl rfl rfl) rfl ?_)
  refine JL_all [] rfl ?_
  refine J_block ?_
  refine J_loop (σ := Nat) (fun k => [(16, .int .i64 k), (15, .int .i64 N.arcs.length), (14, .slice A' N.arcs.length c'), (2, .pointer (some ⟨p2, 0, none⟩)), (1, .pointer (some ⟨p1, 0, none⟩))])
    (fun k => [.own (.slice A' N.arcs.length c') 42 3 N.arcs.length (arcs ((N.arcs.take k).map turnA ++ N.arcs.drop k)), blk p2 27 [.int .i64 0, .int .i64 0, .int .i64 0, .slice none 0 0], blk p1 27 [.int .i64 N.nodes, .int .i64 N.snk, .int .i64 N.src, .slice A' N.arcs.length c']])
    (fun k => k ≤ N.arcs.length) (fun k => N.arcs.length - k) 0 [0, 1, 2] ⟨rfl, rfl, rfl, rfl, rfl, trivial⟩ (by decide) rfl (Nat.zero_le _) ?_
  intro k hk
  (repeat' (first | refine J_seq ?_ | refine J_skip ?_ | refine J_yes rfl ?_ | refine J_no rfl ?_))
  refine J_region ?_
  refine JL_all [] rfl ?_
  refine J_seq (J_dec rfl (fun hlt => J_skip ?_) (fun hge => J_exit ?_))
  · have hlt : k < N.arcs.length := by omega
    obtain ⟨a, ha⟩ : ∃ a, N.arcs[k]? = some a := ⟨N.arcs[k]'(by omega), List.getElem?_eq_getElem (by omega)⟩
    obtain ⟨l, hl⟩ : ∃ l, l = (N.arcs.take k).map turnA ++ N.arcs.drop k := ⟨_, rfl⟩
    have htl : ((N.arcs.take k).map turnA).length = k := by rw [List.length_map, List.length_take]; omega
    have hla : l[k]? = some a := by rw [hl, List.getElem?_append_right (by omega), htl, Nat.sub_self, List.getElem?_drop, Nat.add_zero]; exact ha
    have hll : l.length = N.arcs.length := by rw [hl, List.length_append, htl, List.length_drop]; omega
    have hnext : (N.arcs.take (k + 1)).map turnA ++ N.arcs.drop (k + 1) = l.set k (turnA a) := by
      have hd : N.arcs.drop k = a :: N.arcs.drop (k + 1) := by
        obtain ⟨h1, h2⟩ := List.getElem?_eq_some_iff.1 ha
        rw [List.drop_eq_getElem_cons h1, h2]
      rw [hl, hd, List.set_append_right _ _ (by omega), htl, Nat.sub_self, List.set_cons_zero, List.take_add_one, ha, List.map_append, List.append_assoc]
      rfl
    rw [← hl]
    have s1 := (arcs_set l k a a.to hla).1
    have hl1 : (l.set k ⟨a.to, a.to, a.cap⟩)[k]? = some ⟨a.to, a.to, a.cap⟩ := List.getElem?_set_self (by omega)
    have s2 := (arcs_set (l.set k ⟨a.to, a.to, a.cap⟩) k ⟨a.to, a.to, a.cap⟩ a.fr hl1).2
    rw [List.set_set] at s2
    refine J_know (own_is 0 rfl) fun ⟨_, _, hA1, _⟩ => ?_
    obtain ⟨g, rfl⟩ := hA1 (by omega)
    refine J_seq (J_block ?_)
    (repeat' (first | refine J_seq ?_ | refine J_skip ?_ | refine J_yes rfl ?_ | refine J_no rfl ?_))
    refine J_region ?_
    refine JL_run [] rfl ?_
    refine JL_val [] (idxNz rfl rfl rfl rfl rfl hlt) rfl ?_
    refine JL_val [] (OpV_own 0 rfl rfl rfl (readT_arc hla)) rfl ?_
    refine JL_alloc rfl rfl rfl (fun _ => rfl) fun p4 => ?_
    refine JL_run [] rfl ?_
    refine JL_store 0 rfl rfl rfl rfl rfl [] rfl ?_
    refine JL_nil ?_
    (repeat' (first | refine J_seq ?_ | refine J_skip ?_ | refine J_yes rfl ?_ | refine J_no rfl ?_))
    refine J_walk 15 [(0, true), (1, true), (2, true), (3, true), (4, true), (5, true), (6, true), (7, true), (8, true), (9, true), (10, true), (11, true), (12, false), (13, true), (14, true)] [0, 3] (by kernel_rfl) (by decide) rfl ?_
    refine JW_run [] rfl ?_
    refine JW_still [] rfl (OpV_blk (v := .slice (some ⟨g, 0, none⟩) N.arcs.length c') 1 rfl rfl rfl rfl) rfl ?_
    refine JW_run [] rfl ?_
    refine JW_still [] rfl (OpV_blk (v := .slice (some ⟨g, 0, none⟩) N.arcs.length c') 1 rfl rfl rfl rfl) rfl ?_
    refine JW_run [] rfl ?_
    refine JW_still [] rfl (OpV_blk (v := .int .i64 a.to) 0 rfl rfl rfl rfl) rfl ?_
    refine JW_run [] rfl ?_
    refine JW_still [] rfl (OpV_blk (v := .int .i64 a.fr) 0 rfl rfl rfl rfl) rfl ?_
    refine JW_still [] rfl (idxNz rfl rfl rfl rfl rfl hlt) rfl ?_
    refine JW_run [] rfl ?_
    refine JW_eff rfl ?_
    refine JL_store_own 1 rfl rfl rfl rfl (put_one rfl rfl rfl (by rw [arcs_length]; omega)) [] rfl ?_
    refine JL_nil ⟨⟨[0, 3], by decide, rfl⟩, ?_⟩
    refine JW_still [] rfl (idxNz rfl rfl rfl rfl rfl hlt) rfl ?_
    refine JW_all [] rfl ?_
    rw [show k * 3 + 0 = k * 3 from rfl, s1]
    refine JL_store_own 1 rfl rfl rfl rfl (put_one rfl rfl rfl (by rw [arcs_length, List.length_set]; omega)) [] rfl ?_
    rw [s2]
    refine JL_nil ?_
    (repeat' (first | refine J_seq ?_ | refine J_skip ?_ | refine J_yes rfl ?_ | refine J_no rfl ?_))
    refine J_region ?_
    refine JL_all [] rfl ?_
    refine ⟨k + 1, [1, 2, 3], ⟨?_, rfl, rfl, rfl, rfl, trivial⟩, by decide, by rw [hnext]; rfl, by omega, by omega⟩
    show some (Value.int .i64 (IntKind.i64.wrap ((k : Int) + 1))) = _
    rw [w64 (by omega)]; rfl
  · have hkm : k = N.arcs.length := by omega
    have hfin : (N.arcs.take k).map turnA ++ N.arcs.drop k = (turnN N).arcs := by
      rw [List.take_of_length_le (by omega), List.drop_of_length_le (by omega), List.append_nil]; rfl
    have hfl : (turnN N).arcs.length = N.arcs.length := by simp [turnN]
    rw [hfin]
    (repeat' (first | refine J_seq ?_ | refine J_skip ?_ | refine J_yes rfl ?_ | refine J_no rfl ?_))
    refine J_region ?_
    refine JL_val [] (v := .agg #[.int .i64 N.nodes, .int .i64 N.snk, .int .i64 N.src, .slice A' N.arcs.length c']) (OpV_blk 2 rfl rfl rfl rfl) rfl ?_
    refine JL_store 1 rfl rfl rfl rfl rfl [] rfl ?_
    refine JL_nil ?_
    refine J_ret ?_
    refine ⟨[_], [0], _, ⟨⟨p2, 1, _, _, rfl, rfl, rfl⟩, trivial⟩, by decide, rfl, A', c', ?_, ?_⟩
    · show _ = Value.agg #[.int .i64 N.nodes, .int .i64 N.snk, .int .i64 N.src, .slice A' (turnN N).arcs.length c']
      rw [hfl]; rfl
    · rw [hfl]
theorem last_fn (N : Net) (hN : N.Fits) (hR : N.Right) (A : Option Addr) (c b o : Nat) (hA : N.arcs ≠ [] → A = some ⟨b, o, none⟩) (f : List Int) (F : Option Addr) (cf bf of : Nat) (hF : f ≠ [] → F = some ⟨bf, of, none⟩) (hf : ∀ x ∈ f, inB x) (hfl : f.length * 8 ≤ 140737488351232)
    (n : Nat) (hn : N.nodes = n) (hW : IsFlow N f) : Fn 27 [netV N A c, .slice F f.length cf] [] [.seg b o (arcs N.arcs), .seg bf of (ints f)] fun v H' =>
      (Rch N (roomL (N.arcs.zip f)) 1 N.snk ∧ v = .tuple #[.slice none 0 0, .int .i64 8] ∧ H' = []) ∨ ¬ Rch N (roomL (N.arcs.zip f)) 1 N.snk ∧ ∃ (l : List Bool) (A' : Option Addr) (c' : Nat), l.length = n + 1 ∧ (∀ v : Nat, l[v]? = some true ↔ v ≤ n ∧ Rch (turnN N) (roomL (N.arcs.zip f)) 1 v) ∧ v = .tuple #[.slice A' (whereK l false (n + 1)).length c', .int .i64 0] ∧
        H' = [.own (.slice A' (whereK l false (n + 1)).length c') 3 1 (whereK l false (n + 1)).length (ints (whereK l false (n + 1)))] := by
  have hl2 := hR.len
  have hnn := hR.nodes
  refine Fn_of Try.func27 rfl rfl fun w0 => ?_
  (repeat' (first | refine J_seq ?_ | refine J_skip ?_ | refine J_yes rfl ?_ | refine J_no rfl ?_))
  refine J_region ?_
  refine JL_box (cs := netC N A c) rfl rfl rfl (fun _ => rfl) fun p => ?_
  refine JL_all [] rfl ?_
  (repeat' (first | refine J_seq ?_ | refine J_skip ?_ | refine J_yes rfl ?_ | refine J_no rfl ?_))
  refine J_region ?_
  refine JL_val [] (v := netV N A c) (OpV_blk 0 rfl rfl rfl rfl) rfl ?_
  refine JL_run [] rfl ?_
  refine JL_callR [] (first_fn N hN hR A c b o hA f F cf bf of hF hf hfl n hn) rfl rfl rfl rfl (by kernel_rfl) ⟨⟨1, _, by simp, rfl, shows_seg _ _ _, seen_seg⟩, ⟨2, _, by simp, rfl, shows_seg _ _ _, seen_seg⟩, trivial⟩ (fun _ => rfl) ?_
  rintro v H' (⟨_, hno, l1, A1, c1, _, _, rfl, rfl⟩ | ⟨h, _, _⟩ | ⟨_, h, rfl, rfl⟩)
  case inr.inl => exact absurd hW h
  case inr.inr =>
    refine ⟨rfl, ?_⟩
    refine JL_all [] rfl ?_
    (repeat' (first | refine J_seq ?_ | refine J_skip ?_ | refine J_yes rfl ?_ | refine J_no rfl ?_))
    refine J_region ?_
    refine JL_all [] rfl ?_
    refine J_dec rfl (fun _ => ?_) (fun h => absurd h (by decide))
    (repeat' (first | refine J_seq ?_ | refine J_skip ?_ | refine J_yes rfl ?_ | refine J_no rfl ?_))
    refine J_region ?_
    refine JL_all [] rfl ?_
    refine J_drop [] (by decide) rfl (J_ret ⟨_, rfl, .inl ⟨h, rfl, rfl⟩⟩)
  refine ⟨rfl, ?_⟩
  refine JL_all [] rfl ?_
  (repeat' (first | refine J_seq ?_ | refine J_skip ?_ | refine J_yes rfl ?_ | refine J_no rfl ?_))
  refine J_region ?_
  refine JL_all [] rfl ?_
  refine J_dec rfl (fun h => absurd rfl h) (fun _ => J_skip ?_)
  (repeat' (first | refine J_seq ?_ | refine J_skip ?_ | refine J_yes rfl ?_ | refine J_no rfl ?_))
  refine J_region ?_
  refine JL_val [] (v := netV N A c) (OpV_blk 1 rfl rfl rfl rfl) rfl ?_
  refine JL_callR [] (turnN_fn N (by omega) A c b o hA) rfl rfl rfl rfl (by kernel_rfl) ⟨⟨2, _, by simp, rfl, shows_seg _ _ _, seen_seg⟩, trivial⟩ (fun _ => rfl) ?_
  rintro v H' ⟨A2, c2, rfl, rfl⟩
  refine ⟨rfl, ?_⟩
  refine JL_know (own_is 0 rfl) fun ⟨_, _, hA2, hlA2⟩ => ?_
  obtain ⟨g2, hA2⟩ := own_at hA2 hlA2
  have hA2' : (turnN N).arcs ≠ [] → A2 = some ⟨g2, 0, none⟩ := fun h => hA2 (fun h0 => h (List.length_eq_zero_iff.1 (by have := arcs_length (turnN N).arcs; rw [h0] at this; simp at this; omega)))
  refine JL_run [] rfl ?_
  refine JL_callR [] (reach_fn (turnN N) (turn_fits hN) (turn_right hR) A2 c2 g2 0 hA2' f F cf bf of hF hf hfl 1 (by decide) n hn) rfl rfl rfl rfl (by kernel_rfl) ⟨⟨0, _, by simp, rfl, shows_ownS hA2, seen_ownS hA2⟩, ⟨4, _, by simp, rfl, shows_seg _ _ _, seen_seg⟩, trivial⟩ (fun _ => rfl) ?_
  rintro v H' (⟨_, _, l, g, hl, hlr, rfl, rfl⟩ | ⟨h, _, _⟩ | ⟨_, h1, _, _⟩)
  case inr.inl => exact absurd (turn_flow hW) h
  case inr.inr => omega
  refine ⟨rfl, ?_⟩
  refine JL_all [] rfl ?_
  (repeat' (first | refine J_seq ?_ | refine J_skip ?_ | refine J_yes rfl ?_ | refine J_no rfl ?_))
  refine J_region ?_
  refine JL_run [] rfl ?_
  have T := where_fn (some ⟨g, 0, none⟩) (n + 1) g 0 l (fun _ => rfl) (by omega) false
  rw [hl] at T
  refine JL_callR [] T rfl rfl rfl rfl (by kernel_rfl) ⟨⟨0, _, by simp, rfl, shows_own, .inr rfl⟩, trivial⟩ (fun _ => rfl) ?_
  rintro v H' ⟨A', c', rfl, rfl⟩
  refine ⟨rfl, ?_⟩
  refine JL_all [] rfl ?_
  refine J_drop [0] (by decide) rfl (J_ret ⟨_, rfl, .inr ⟨hno, l, A', c', hl, fun v => ?_, rfl, rfl⟩⟩)
  have := hlr v
  rw [show (turnN N).arcs = N.arcs.map turnA from rfl, turn_room] at this
  exact this
end Go.Proofs.Ytjbcgjahfalkaaa
