
/- What a walk carries, step by step. -/
import Derived.Test.YtfogkbmbmaganaaGreatWalkN
import Derived.Test.YtfogkbmbmaganaaGreatQX25
set_option linter.unusedVariables false
set_option linter.unusedSimpArgs false
namespace Go.Proofs.YtfogkbmbmaganaaGreat
open Go.RowKit
theorem xor_nat (r : Nat) : r ^^^ 1 = flipT r := by
  have h1 := Nat.xor_div_two (a := r) (b := 1)
  have h2 : (r ^^^ 1) % 2 = (r + 1) % 2 := by
    have h := Nat.xor_mod_two_eq_one (a := r) (b := 1)
    by_cases h2 : r % 2 = 1
    · have : ¬ (r ^^^ 1) % 2 = 1 := by rw [h]; simp [h2]
      omega
    · have : (r ^^^ 1) % 2 = 1 := by rw [h]; simp [h2]
      omega
  have h3 : r / 2 ^^^ 1 / 2 = r / 2 := by show r / 2 ^^^ 0 = _; exact Nat.xor_zero _
  unfold flipT
  split <;> omega
theorem xor_one {r : Nat} (h : r < 4611686018427387904) : IntKind.i64.wrap ((BitVec.ofInt IntKind.i64.bits (r : Int) ^^^ BitVec.ofInt IntKind.i64.bits 1).toNat : Int) = ((flipT r : Nat) : Int) := by
  have e : (BitVec.ofInt IntKind.i64.bits (r : Int) ^^^ BitVec.ofInt IntKind.i64.bits 1).toNat = r ^^^ 1 := by
    rw [BitVec.toNat_xor, BitVec.toNat_ofInt, BitVec.toNat_ofInt]
    have e1 : ((1 : Int) % ((2 ^ IntKind.i64.bits : Nat) : Int)).toNat = 1 := by decide
    have e2 : ((2 ^ IntKind.i64.bits : Nat) : Int) = 18446744073709551616 := by decide
    rw [e1, e2]
    congr 1
    omega
  rw [e, xor_nat, w64 (by unfold flipT; split <;> omega)]
theorem short_fn (N : Net) (A : Option Addr) (c pw p1 : Nat) (Ar : Option Addr) (cr gr : Nat) (least : Int) (gl n : Nat) (Aw : Option Addr) (nw cw : Nat) (rm : List Int) (hrl : rm.length = 2 * N.arcs.length) (hAr : rm ≠ [] → Ar = some ⟨gr, 0, none⟩) (r : Nat) (hr : r < 2 * N.arcs.length) :
    Fn 122 [.int .i64 r, .pointer (some ⟨p1, 0, none⟩)] [] [.seg p1 0 [.pointer (some ⟨pw, 0, none⟩)], .seg pw 0 (wkC N A c Ar cr least gl n Aw nw cw), .seg gr 0 (ints rm)] fun v H' => v = .bool (cdec (rm.getD r 0 < least)) ∧ H' = [] := by
  obtain ⟨x, hxr⟩ : ∃ x, rm[r]? = some x := ⟨rm[r]'(by omega), List.getElem?_eq_getElem (by omega)⟩
  have hxd : rm.getD r 0 = x := by rw [List.getD_eq_getElem?_getD, hxr]; rfl
  obtain rfl := hAr (by intro h0; rw [h0] at hxr; simp at hxr)
  rw [hxd]
  refine Fn_of Tryz.func122 rfl rfl fun w0 => ?_
  (repeat' (first | refine J_seq ?_ | refine J_skip ?_ | refine J_yes rfl ?_ | refine J_no rfl ?_))
  refine J_region ?_
  refine JL_all [] rfl ?_
  (repeat' (first | refine J_seq ?_ | refine J_skip ?_ | refine J_yes rfl ?_ | refine J_no rfl ?_))
  refine J_walk 13 [(0, true), (1, true), (2, true), (3, true), (4, true), (5, true), (6, true), (7, true), (8, true), (9, true), (10, true), (11, true), (12, true)] [0, 1, 2] (by kernel_rfl) (by decide) rfl ?_
  refine JW_still [] rfl (ldseg (i := 0) 0 rfl rfl rfl rfl rfl) rfl ?_
  refine JW_run [] rfl ?_
  refine JW_still [] rfl (ldseg (i := 4) (v := .slice (some ⟨gr, 0, none⟩) (2 * N.arcs.length) cr) 1 rfl rfl rfl rfl rfl) rfl ?_
  refine JW_run [] rfl ?_
  refine JW_still [] rfl (idx1z rfl rfl rfl rfl rfl hr) rfl ?_
  refine JW_still [] rfl (ldseg (i := r) 2 rfl rfl rfl (Nat.zero_add _).symm (readT_int hxr)) rfl ?_
  refine JW_still [] rfl (ldseg (i := 0) 0 rfl rfl rfl rfl rfl) rfl ?_
  refine JW_run [] rfl ?_
  refine JW_still [] rfl (ldseg (i := 5) (v := .int .i64 least) 1 rfl rfl rfl rfl rfl) rfl ?_
  refine JW_all [] rfl ?_
  refine JL_nil ?_
  exact J_drop [] (by decide) rfl (J_ret ⟨_, rfl, rfl, rfl⟩)
theorem index_fn (N : Net) (A : Option Addr) (c pw p1 : Nat) (Ar : Option Addr) (cr gr : Nat) (least : Int) (gl n : Nat) (Aw : Option Addr) (cw gw : Nat) (rm : List Int) (hrl : rm.length = 2 * N.arcs.length) (hAr : rm ≠ [] → Ar = some ⟨gr, 0, none⟩)
    (W : List Nat) (hW : ∀ r ∈ W, r < 2 * N.arcs.length) (hWl : W.length ≤ 1000) (hAw : W ≠ [] → Aw = some ⟨gw, 0, none⟩) (hex : ∃ r ∈ W, rm.getD r 0 < least) :
    Fn 121 [.slice Aw W.length cw, .func (.func 122) #[] #[.pointer (some ⟨p1, 0, none⟩)]] [] [.seg p1 0 [.pointer (some ⟨pw, 0, none⟩)], .seg pw 0 (wkC N A c Ar cr least gl n Aw W.length cw), .seg gr 0 (ints rm), .seg gw 0 (natsI W)]
      fun v H' => v = .int .i64 (cutR least rm W : Nat) ∧ H' = [] := by
  refine Fn_of Tryz.func121 rfl rfl fun w0 => ?_
  (repeat' (first | refine J_seq ?_ | refine J_skip ?_ | refine J_yes rfl ?_ | refine J_no rfl ?_))
  refine J_region ?_
  refine JL_all [] rfl ?_
  (repeat' (first | refine J_seq ?_ | refine J_skip ?_ | refine J_yes rfl ?_ | refine J_no rfl ?_))
  refine J_region ?_
  refine JL_all [] rfl ?_
  (repeat' (first | refine J_seq ?_ | refine J_skip ?_ | refine J_yes rfl ?_ | refine J_no rfl ?_))
  refine J_block ?_
  refine J_loop (σ := Nat) (fun k => [(8, .int .i64 k), (7, .int .i64 W.length), (1, .func (.func 122) #[] #[.pointer (some ⟨p1, 0, none⟩)]), (0, .slice Aw W.length cw)])
    (fun _ => [.seg p1 0 [.pointer (some ⟨pw, 0, none⟩)], .seg pw 0 (wkC N A c Ar cr least gl n Aw W.length cw), .seg gr 0 (ints rm), .seg gw 0 (natsI W)]) (fun k => k ≤ W.length ∧ ∀ j r, j < k → W[j]? = some r → ¬ rm.getD r 0 < least) (fun k => W.length - k)
    0 [0, 1, 2, 3] ⟨rfl, rfl, rfl, rfl, trivial⟩ (by decide) rfl ⟨Nat.zero_le _, fun j r h => by omega⟩ ?_
  rintro k ⟨hk, hbef⟩
  (repeat' (first | refine J_seq ?_ | refine J_skip ?_ | refine J_yes rfl ?_ | refine J_no rfl ?_))
  refine J_region ?_
  refine JL_all [] rfl ?_
  refine J_seq (J_dec rfl (fun hlt => J_skip ?_) (fun hge => J_exit ?_))
  · have hlt : k < W.length := by omega
    obtain ⟨r, hr⟩ : ∃ r, W[k]? = some r := ⟨W[k], List.getElem?_eq_getElem hlt⟩
    obtain rfl := hAw (by rintro rfl; simp at hlt)
    refine J_seq (J_block ?_)
    (repeat' (first | refine J_seq ?_ | refine J_skip ?_ | refine J_yes rfl ?_ | refine J_no rfl ?_))
    refine J_region ?_
    refine JL_all [] rfl ?_
    (repeat' (first | refine J_seq ?_ | refine J_skip ?_ | refine J_yes rfl ?_ | refine J_no rfl ?_))
    refine J_region ?_
    refine JL_run [] rfl ?_
    refine JL_val [] (idx1z rfl rfl rfl rfl rfl hlt) rfl ?_
    refine JL_val [] (ldseg (i := k) 3 rfl rfl rfl (Nat.zero_add _).symm (natsI_get hr)) rfl ?_
    refine JL_callR (fst := []) (cap := [.pointer (some ⟨p1, 0, none⟩)]) [] (short_fn N A c pw p1 Ar cr gr least gl n _ W.length cw rm hrl hAr r (hW r (List.mem_of_getElem? hr))) rfl rfl rfl rfl (by kernel_rfl) ⟨⟨0, _, by simp, rfl, shows_seg _ _ _, seen_seg⟩, ⟨1, _, by simp, rfl, shows_seg _ _ _, seen_seg⟩, ⟨2, _, by simp, rfl, shows_seg _ _ _, seen_seg⟩, trivial⟩ (fun _ => rfl) ?_
    rintro v H' ⟨rfl, rfl⟩
    refine ⟨rfl, ?_⟩
    refine JL_nil ?_
    refine J_dec rfl (fun hs => ?_) (fun hs => J_skip ?_)
    · (repeat' (first | refine J_seq ?_ | refine J_skip ?_ | refine J_yes rfl ?_ | refine J_no rfl ?_))
      refine J_region ?_
      refine JL_all [] rfl ?_
      refine J_drop [] (by decide) rfl (J_ret ⟨_, rfl, congrArg (Value.int .i64) ?_, rfl⟩)
      have : cutR least rm W = k := by
        unfold cutR
        refine (List.findIdx_eq hlt).2 ⟨by rw [(List.getElem?_eq_some_iff.1 hr).2]; exact decide_eq_true hs, fun j hj => ?_⟩
        have := hbef j (W[j]'(by omega)) hj (List.getElem?_eq_getElem (by omega))
        simpa using this
      rw [this]
    · (repeat' (first | refine J_seq ?_ | refine J_skip ?_ | refine J_yes rfl ?_ | refine J_no rfl ?_))
      refine J_region ?_
      refine JL_all [] rfl ?_
      refine ⟨k + 1, [0, 1, 2, 3], ⟨?_, rfl, rfl, rfl, trivial⟩, by decide, rfl, ⟨by omega, fun j q hj hq => ?_⟩, by omega⟩
      · show some (Value.int .i64 (IntKind.i64.wrap ((k : Int) + 1))) = _
        rw [w64 (by omega)]; rfl
      · by_cases e : j = k
        · subst e; rw [hr] at hq; simp only [Option.some.injEq] at hq; rw [← hq]; exact hs
        · exact hbef j q (by omega) hq
  · exfalso
    obtain ⟨r, hr, hs⟩ := hex
    obtain ⟨j, hj, hjr⟩ := List.mem_iff_getElem.1 hr
    exact hbef j r (by omega) (by rw [List.getElem?_eq_getElem hj, hjr]) hs
def pushedR (least : Int) (N : Net) (A : Option Addr) (c : Nat) (gr cr pw gl n : Nat) (rm : List Int) (W : List Nat) (v : Value) (H' : Heap) : Prop :=
  ∃ (Aw : Option Addr) (cw : Nat) (At : Option Addr) (ct : Nat), v = .agg #[.slice At W.length ct, .int .i64 (mostR rm W)] ∧
    H' = [blk pw 190 (wkC N A c (some ⟨gr, 0, none⟩) cr least gl n Aw (cutR least (pushR (mostR rm W) W rm) W) cw), .own (.slice (some ⟨gr, 0, none⟩) (2 * N.arcs.length) cr) 2 1 (2 * N.arcs.length) (ints (pushR (mostR rm W) W rm)),
      .own (.slice Aw (cutR least (pushR (mostR rm W) W rm) W) cw) 3 1 (cutR least (pushR (mostR rm W) W rm) W) (natsI (W.take (cutR least (pushR (mostR rm W) W rm) W)))]
theorem mostR_step (rm : List Int) (W : List Nat) (x : Int) (k r : Nat) (hr : W[k]? = some r) : (W.take (k + 1)).foldl (fun m q => if rm.getD q 0 < m then rm.getD q 0 else m) x = if rm.getD r 0 < (W.take k).foldl (fun m q => if rm.getD q 0 < m then rm.getD q 0 else m) x then rm.getD r 0 else (W.take k).foldl (fun m q => if rm.getD q 0 < m then rm.getD q 0 else m) x := by
  rw [List.take_add_one, hr, List.foldl_append]; rfl
set_option maxHeartbeats 1000000 in
theorem push_fn (N : Net) (hl2 : N.arcs.length ≤ 2000) (A : Option Addr) (c : Nat) (pw gr cr : Nat) (least : Int) (hle : 1 ≤ least) (gl n : Nat) (Aw : Option Addr) (cw : Nat) (rm : List Int) (hrl : rm.length = 2 * N.arcs.length) (hrb : ∀ q, 0 ≤ rm.getD q 0 ∧ rm.getD q 0 ≤ 4611686018427387903)
    (W : List Nat) (hW : ∀ r ∈ W, r < 2 * N.arcs.length) (hWl : W.length ≤ 1000) (hWn : W.Nodup) (hWf : ∀ r ∈ W, ∀ q ∈ W, flipT r ≠ q) (hne : W ≠ []) :
    Fn 118 [.pointer (some ⟨pw, 0, none⟩)] (mines ([blk pw 190 (wkC N A c (some ⟨gr, 0, none⟩) cr least gl n Aw W.length cw), .own (.slice (some ⟨gr, 0, none⟩) (2 * N.arcs.length) cr) 2 1 (2 * N.arcs.length) (ints rm), .own (.slice Aw W.length cw) 3 1 W.length (natsI W)]))
      ([] ++ ([blk pw 190 (wkC N A c (some ⟨gr, 0, none⟩) cr least gl n Aw W.length cw), .own (.slice (some ⟨gr, 0, none⟩) (2 * N.arcs.length) cr) 2 1 (2 * N.arcs.length) (ints rm), .own (.slice Aw W.length cw) 3 1 W.length (natsI W)]))
      (pushedR least N A c gr cr pw gl n rm W) := by
  generalize hM : mines _ = M
  have hWpos : 0 < W.length := List.length_pos_iff.2 hne
  obtain ⟨r0, hr0⟩ : ∃ r0, W[0]? = some r0 := ⟨W[0], List.getElem?_eq_getElem hWpos⟩
  have hhead : W.headD 0 = r0 := by rw [List.headD_eq_head?_getD, List.head?_eq_getElem?, hr0]; rfl
  have hget : ∀ r ∈ W, rm[r]? = some (rm.getD r 0) := fun r hr => by rw [List.getD_eq_getElem?_getD, List.getElem?_eq_getElem (by have := hW r hr; omega)]; rfl
  have hr0m := List.mem_of_getElem? hr0
  have hx0 := hget r0 hr0m
  refine Fn_ofC Tryz.func118 rfl rfl fun w0 => ?_
  (repeat' (first | refine J_seq ?_ | refine J_skip ?_ | refine J_yes rfl ?_ | refine J_no rfl ?_))
  refine J_region ?_
  refine JL_box (cs := [.pointer (some ⟨pw, 0, none⟩)]) rfl rfl rfl (fun _ => rfl) fun p1 => ?_
  refine JL_alloc rfl rfl rfl (fun _ => rfl) fun p2 => ?_
  refine JL_all [] rfl ?_
  show J _ _ _ _ [_, _, _, _, _]
  refine J_know (own_is 4 rfl) fun ⟨_, hcwl, hAw0, _⟩ => ?_
  obtain ⟨gw, rfl⟩ := hAw0 hWpos
  (repeat' (first | refine J_seq ?_ | refine J_skip ?_ | refine J_yes rfl ?_ | refine J_no rfl ?_))
  refine J_walk 13 [(0, true), (1, true), (2, true), (3, true), (4, true), (5, true), (6, true), (7, true), (8, true), (9, true), (10, true), (11, true), (12, true)] [0, 1, 2, 3, 4] (by kernel_rfl) (by decide) rfl ?_
  refine JW_still [] rfl (OpV_blk (v := .pointer (some ⟨pw, 0, none⟩)) 1 rfl rfl rfl rfl) rfl ?_
  refine JW_run [] rfl ?_
  refine JW_still [] rfl (OpV_blk (v := .slice (some ⟨gr, 0, none⟩) (2 * N.arcs.length) cr) 2 rfl rfl rfl rfl) rfl ?_
  refine JW_still [] rfl (OpV_blk (v := .pointer (some ⟨pw, 0, none⟩)) 1 rfl rfl rfl rfl) rfl ?_
  refine JW_run [] rfl ?_
  refine JW_still [] rfl (OpV_blk (v := .slice (some ⟨gw, 0, none⟩) W.length cw) 2 rfl rfl rfl rfl) rfl ?_
  refine JW_still [] rfl (idx1z (m := 0) rfl rfl rfl rfl rfl hWpos) rfl ?_
  refine JW_still [] rfl (OpV_own (v := .int .i64 (r0 : Int)) 4 rfl rfl rfl (natsI_get hr0)) rfl ?_
  refine JW_still [] rfl (idx1z rfl rfl rfl rfl rfl (hW r0 hr0m)) rfl ?_
  refine JW_still [] rfl (OpV_own 3 rfl rfl rfl (readT_int hx0)) rfl ?_
  refine JW_all [] rfl ?_
  refine JL_nil ?_
  (repeat' (first | refine J_seq ?_ | refine J_skip ?_ | refine J_yes rfl ?_ | refine J_no rfl ?_))
  refine J_region ?_
  refine JL_val [] (OpV_blk (v := .pointer (some ⟨pw, 0, none⟩)) 1 rfl rfl rfl rfl) rfl ?_
  refine JL_run [] rfl ?_
  refine JL_val [] (OpV_blk (v := .slice (some ⟨gw, 0, none⟩) W.length cw) 2 rfl rfl rfl rfl) rfl ?_
  refine JL_all [] rfl ?_
  refine J_block ?_
  refine J_loop (σ := Nat) (fun k => [(27, .int .i64 k), (26, .int .i64 W.length), (25, .slice (some ⟨gw, 0, none⟩) W.length cw), (3, .int .i64 ((W.take k).foldl (fun m q => if rm.getD q 0 < m then rm.getD q 0 else m) (rm.getD r0 0))), (2, .pointer (some ⟨p2, 0, none⟩)), (1, .pointer (some ⟨p1, 0, none⟩))])
    (fun _ => [blk p2 187 [.slice none 0 0, .int .i64 0], blk p1 185 [.pointer (some ⟨pw, 0, none⟩)], blk pw 190 (wkC N A c (some ⟨gr, 0, none⟩) cr least gl n (some ⟨gw, 0, none⟩) W.length cw), .own (.slice (some ⟨gr, 0, none⟩) (2 * N.arcs.length) cr) 2 1 (2 * N.arcs.length) (ints rm), .own (.slice (some ⟨gw, 0, none⟩) W.length cw) 3 1 W.length (natsI W)])
    (fun k => k ≤ W.length) (fun k => W.length - k) 0 [0, 1, 2, 3, 4] ⟨rfl, rfl, rfl, rfl, rfl, rfl, trivial⟩ (by decide) rfl (Nat.zero_le _) ?_
  intro k hk
  (repeat' (first | refine J_seq ?_ | refine J_skip ?_ | refine J_yes rfl ?_ | refine J_no rfl ?_))
  refine J_region ?_
  refine JL_all [] rfl ?_
  refine J_seq (J_dec rfl (fun hlt => J_skip ?_) (fun hge => J_exit ?_))
  · have hlt : k < W.length := by omega
    obtain ⟨r, hr⟩ : ∃ r, W[k]? = some r := ⟨W[k], List.getElem?_eq_getElem hlt⟩
    have hrm := List.mem_of_getElem? hr
    have hstep := mostR_step rm W (rm.getD r0 0) k r hr
    refine J_seq (J_block ?_)
    (repeat' (first | refine J_seq ?_ | refine J_skip ?_ | refine J_yes rfl ?_ | refine J_no rfl ?_))
    refine J_region ?_
    refine JL_run [] rfl ?_
    refine JL_val [] (idx1z rfl rfl rfl rfl rfl hlt) rfl ?_
    refine JL_val [] (OpV_own (v := .int .i64 (r : Int)) 4 rfl rfl rfl (natsI_get hr)) rfl ?_
    refine JL_all [] rfl ?_
    (repeat' (first | refine J_seq ?_ | refine J_skip ?_ | refine J_yes rfl ?_ | refine J_no rfl ?_))
    refine J_region ?_
    refine JL_run [] rfl ?_
    refine JL_val [] (OpV_blk (v := .pointer (some ⟨pw, 0, none⟩)) 1 rfl rfl rfl rfl) rfl ?_
    refine JL_run [] rfl ?_
    refine JL_val [] (OpV_blk (v := .slice (some ⟨gr, 0, none⟩) (2 * N.arcs.length) cr) 2 rfl rfl rfl rfl) rfl ?_
    refine JL_run [] rfl ?_
    refine JL_val [] (idx1z rfl rfl rfl rfl rfl (hW r hrm)) rfl ?_
    refine JL_val [] (OpV_own 3 rfl rfl rfl (readT_int (hget r hrm))) rfl ?_
    refine JL_all [] rfl ?_
    (repeat' (first | refine J_seq ?_ | refine J_skip ?_ | refine J_yes rfl ?_ | refine J_no rfl ?_))
    refine J_region ?_
    refine JL_all [] rfl ?_
    refine ⟨k + 1, [0, 1, 2, 3, 4], ⟨?_, rfl, rfl, by rw [hstep]; rfl, rfl, rfl, trivial⟩, by decide, rfl, by omega, by omega⟩
    show some (Value.int .i64 (IntKind.i64.wrap ((k : Int) + 1))) = _
    rw [w64 (by omega)]; rfl
  obtain rfl : k = W.length := by omega
  rw [List.take_length, show W.foldl (fun m q => if rm.getD q 0 < m then rm.getD q 0 else m) (rm.getD r0 0) = mostR rm W by unfold mostR; rw [hhead]]
  unfold pushedR
  obtain ⟨ra, hra, hma⟩ := mostR_at (rm := rm) hne
  have hmb := hrb ra
  rw [← hma] at hmb
  obtain ⟨a, ha⟩ : ∃ a, a = mostR rm W := ⟨_, rfl⟩
  have hmle : ∀ r ∈ W, a ≤ rm.getD r 0 := fun r hr => ha ▸ mostR_le r hr
  rw [← ha] at hmb hma ⊢
  have hcur : ∀ k q : Nat, q < 2 * N.arcs.length → (pushR a (W.take k) rm)[q]? = some ((pushR a (W.take k) rm).getD q 0) := fun k q hq => by
    rw [List.getD_eq_getElem?_getD, List.getElem?_eq_getElem (by rw [pushR_length]; omega)]; rfl
  have hcv : ∀ k q : Nat, (pushR a (W.take k) rm).getD q 0 = rm.getD q 0 + (if flipT q ∈ W.take k then a else 0) - (if q ∈ W.take k then a else 0) := fun k q =>
    pushR_get hrl (fun r hr => hW r (List.mem_of_mem_take hr)) ((List.take_sublist k W).nodup hWn) q
  (repeat' (first | refine J_seq ?_ | refine J_skip ?_ | refine J_yes rfl ?_ | refine J_no rfl ?_))
  refine J_region ?_
  refine JL_val [] (OpV_blk (v := .pointer (some ⟨pw, 0, none⟩)) 1 rfl rfl rfl rfl) rfl ?_
  refine JL_run [] rfl ?_
  refine JL_val [] (OpV_blk (v := .slice (some ⟨gw, 0, none⟩) W.length cw) 2 rfl rfl rfl rfl) rfl ?_
  refine JL_callR [] (cloneI_fn (some ⟨gw, 0, none⟩) cw gw 0 (W.map fun (i : Nat) => (i : Int)) (fun _ => rfl) (by rw [List.length_map]; omega)) rfl rfl rfl (by rw [List.length_map]; rfl) (by kernel_rfl) ⟨⟨4, _, by simp, rfl, shows_own, seen_ownS (fun _ => rfl)⟩, trivial⟩ (fun _ => rfl) ?_
  rintro v H' ⟨At, ct, rfl, rfl⟩
  refine ⟨rfl, ?_⟩
  rw [List.length_map]
  refine JL_run [] rfl ?_
  refine JL_val [] (OpV_build rfl rfl rfl rfl rfl rfl) rfl ?_
  refine JL_alloc rfl rfl rfl (fun _ => rfl) fun p6 => ?_
  refine JL_store 0 rfl rfl rfl rfl rfl [] rfl ?_
  refine JL_nil ?_
  (repeat' (first | refine J_seq ?_ | refine J_skip ?_ | refine J_yes rfl ?_ | refine J_no rfl ?_))
  refine J_region ?_
  refine JL_val [] (OpV_blk (v := .pointer (some ⟨pw, 0, none⟩)) 3 rfl rfl rfl rfl) rfl ?_
  refine JL_run [] rfl ?_
  refine JL_val [] (OpV_blk (v := .slice (some ⟨gw, 0, none⟩) W.length cw) 4 rfl rfl rfl rfl) rfl ?_
  refine JL_all [] rfl ?_
  refine J_block ?_
  refine J_loop (σ := Nat) (fun k => [(53, .int .i64 k), (52, .int .i64 W.length), (51, .slice (some ⟨gw, 0, none⟩) W.length cw), (3, .int .i64 a), (6, .pointer (some ⟨p6, 0, none⟩)), (2, .pointer (some ⟨p2, 0, none⟩)), (1, .pointer (some ⟨p1, 0, none⟩))])
    (fun k => [blk p6 187 [.slice At W.length ct, .int .i64 a], blk p2 187 [.slice none 0 0, .int .i64 0], blk p1 185 [.pointer (some ⟨pw, 0, none⟩)], blk pw 190 (wkC N A c (some ⟨gr, 0, none⟩) cr least gl n (some ⟨gw, 0, none⟩) W.length cw), .own (.slice (some ⟨gr, 0, none⟩) (2 * N.arcs.length) cr) 2 1 (2 * N.arcs.length) (ints (pushR a (W.take k) rm)), .own (.slice (some ⟨gw, 0, none⟩) W.length cw) 3 1 W.length (natsI W)])
    (fun k => k ≤ W.length) (fun k => W.length - k) 0 [0, 2, 3, 4, 5, 6] ⟨rfl, rfl, rfl, rfl, rfl, rfl, rfl, trivial⟩ (by decide) rfl (Nat.zero_le _) ?_
  intro k hk
  (repeat' (first | refine J_seq ?_ | refine J_skip ?_ | refine J_yes rfl ?_ | refine J_no rfl ?_))
  refine J_region ?_
  refine JL_all [] rfl ?_
  refine J_seq (J_dec rfl (fun hlt => J_skip ?_) (fun hge => J_exit ?_))
  · have hlt : k < W.length := by omega
    obtain ⟨r, hr⟩ : ∃ r, W[k]? = some r := ⟨W[k], List.getElem?_eq_getElem hlt⟩
    have hrm := List.mem_of_getElem? hr
    have hrl2 := hW r hrm
    have hfl := flipT_lt hrl2
    have htk : W.take (k + 1) = W.take k ++ [r] := by rw [List.take_add_one, hr]; rfl
    have hnt : r ∉ W.take k := by
      intro hin
      have h1 := hWn
      rw [← List.take_append_drop (k + 1) W, htk] at h1
      exact (List.nodup_append.1 (List.nodup_append.1 h1).1).2.2 r hin r (by simp) rfl
    have hnf : flipT r ∉ W.take k := fun hin => hWf r hrm _ (List.mem_of_mem_take hin) rfl
    have e1 : (pushR a (W.take k) rm).getD r 0 = rm.getD r 0 := by rw [hcv, if_neg hnf, if_neg hnt]; omega
    have e2 : (pushR a (W.take k) rm).getD (flipT r) 0 = rm.getD (flipT r) 0 := by rw [hcv, flipT_flip, if_neg hnt, if_neg hnf]; omega
    have b1 := hrb r
    have b2 := hrb (flipT r)
    have b3 := hmle r hrm
    have hpush : pushR a (W.take (k + 1)) rm = ((pushR a (W.take k) rm).set r (rm.getD r 0 - a)).set (flipT r) (rm.getD (flipT r) 0 + a) := by rw [htk, pushR_app]; unfold push1; rw [e1, e2]
    have hg1 := hcur k r hrl2
    rw [e1] at hg1
    have hg2 := hcur k (flipT r) hfl
    rw [e2] at hg2
    have hg3 : ((pushR a (W.take k) rm).set r (rm.getD r 0 - a))[flipT r]? = some (rm.getD (flipT r) 0) := by rw [List.getElem?_set_ne (flipT_ne r).symm]; exact hg2
    have hxo := xor_one (r := r) (by omega)
    refine J_seq (J_block ?_)
    (repeat' (first | refine J_seq ?_ | refine J_skip ?_ | refine J_yes rfl ?_ | refine J_no rfl ?_))
    refine J_region ?_
    refine JL_run [] rfl ?_
    refine JL_val [] (idx1z rfl rfl rfl rfl rfl hlt) rfl ?_
    refine JL_val [] (OpV_own (v := .int .i64 (r : Int)) 5 rfl rfl rfl (natsI_get hr)) rfl ?_
    refine JL_all [] rfl ?_
    (repeat' (first | refine J_seq ?_ | refine J_skip ?_ | refine J_yes rfl ?_ | refine J_no rfl ?_))
    refine J_region ?_
    refine JL_val [] (OpV_blk (v := .pointer (some ⟨pw, 0, none⟩)) 2 rfl rfl rfl rfl) rfl ?_
    refine JL_run [] rfl ?_
    refine JL_val [] (OpV_blk (v := .slice (some ⟨gr, 0, none⟩) (2 * N.arcs.length) cr) 3 rfl rfl rfl rfl) rfl ?_
    refine JL_run [] rfl ?_
    refine JL_val [] (idx1z rfl rfl rfl rfl rfl hrl2) rfl ?_
    refine JL_val [] (OpV_own 4 rfl rfl rfl (readT_int hg1)) rfl ?_
    refine JL_run [] rfl ?_
    refine JL_set 65 (v' := .int .i64 (rm.getD r 0 - a)) rfl (congrArg (Value.int .i64) (w64 (by omega))) ?_
    refine JL_val [] (idx1z rfl rfl rfl rfl rfl hrl2) rfl ?_
    refine JL_store_own 4 rfl rfl rfl rfl (put_ints rfl (by rw [pushR_length]; omega)) [] rfl ?_
    refine JL_nil ?_
    (repeat' (first | refine J_seq ?_ | refine J_skip ?_ | refine J_yes rfl ?_ | refine J_no rfl ?_))
    refine J_region ?_
    refine JL_val [] (OpV_blk (v := .pointer (some ⟨pw, 0, none⟩)) 2 rfl rfl rfl rfl) rfl ?_
    refine JL_run [] rfl ?_
    refine JL_val [] (OpV_blk (v := .slice (some ⟨gr, 0, none⟩) (2 * N.arcs.length) cr) 3 rfl rfl rfl rfl) rfl ?_
    refine JL_run [] rfl ?_
    refine JL_set 72 (v' := .int .i64 ((flipT r : Nat) : Int)) rfl (congrArg (Value.int .i64) hxo) ?_
    refine JL_val [] (idx1z rfl rfl rfl rfl rfl hfl) rfl ?_
    refine JL_val [] (OpV_own 4 rfl rfl rfl (readT_int hg3)) rfl ?_
    refine JL_run [] rfl ?_
    refine JL_set 76 (v' := .int .i64 (rm.getD (flipT r) 0 + a)) rfl (congrArg (Value.int .i64) (w64 (by omega))) ?_
    refine JL_val [] (idx1z rfl rfl rfl rfl rfl hfl) rfl ?_
    refine JL_store_own 4 rfl rfl rfl rfl (put_ints rfl (by rw [List.length_set, pushR_length]; omega)) [] rfl ?_
    refine JL_nil ?_
    (repeat' (first | refine J_seq ?_ | refine J_skip ?_ | refine J_yes rfl ?_ | refine J_no rfl ?_))
    refine J_region ?_
    refine JL_all [] rfl ?_
    refine ⟨k + 1, [0, 1, 2, 3, 4, 5], ⟨?_, rfl, rfl, rfl, rfl, rfl, rfl, trivial⟩, by decide, by rw [hpush]; rfl, by omega, by omega⟩
    show some (Value.int .i64 (IntKind.i64.wrap ((k : Int) + 1))) = _
    rw [w64 (by omega)]; rfl
  obtain rfl : k = W.length := by omega
  have hfin := hcv W.length
  rw [List.take_length] at hfin ⊢
  obtain ⟨rm', hrm'⟩ : ∃ rm', rm' = pushR a W rm := ⟨_, rfl⟩
  rw [← hrm'] at hfin ⊢
  have hrl' : rm'.length = 2 * N.arcs.length := by rw [hrm', pushR_length]; exact hrl
  have hex : ∃ r ∈ W, rm'.getD r 0 < least := ⟨ra, hra, by
    rw [hfin, if_neg (fun hin => hWf ra hra _ hin rfl), if_pos hra]; omega⟩
  obtain ⟨k, hk⟩ : ∃ k, k = cutR least rm' W := ⟨_, rfl⟩
  have hkW : k ≤ W.length := by rw [hk]; exact List.findIdx_le_length
  (repeat' (first | refine J_seq ?_ | refine J_skip ?_ | refine J_yes rfl ?_ | refine J_no rfl ?_))
  refine J_region ?_
  refine JL_val [] (OpV_blk (v := .pointer (some ⟨pw, 0, none⟩)) 2 rfl rfl rfl rfl) rfl ?_
  refine JL_run [] rfl ?_
  refine JL_val [] (OpV_blk (v := .slice (some ⟨gw, 0, none⟩) W.length cw) 3 rfl rfl rfl rfl) rfl ?_
  refine JL_run [] rfl ?_
  refine JL_callR [] (index_fn N A c pw p1 (some ⟨gr, 0, none⟩) cr gr least gl n (some ⟨gw, 0, none⟩) cw gw rm' hrl' (fun _ => rfl) W hW hWl (fun _ => rfl) hex) rfl rfl rfl rfl (by kernel_rfl)
    ⟨⟨2, _, by simp, rfl, shows_blk _ _ _ (0, 0), .inr rfl⟩, ⟨3, _, by simp, rfl, shows_blk _ _ _ (0, 0), .inr rfl⟩, ⟨4, _, by simp, rfl, shows_own, seen_ownS (fun _ => rfl)⟩, ⟨5, _, by simp, rfl, shows_own, seen_ownS (fun _ => rfl)⟩, trivial⟩ (fun _ => rfl) ?_
  rintro v H' ⟨rfl, rfl⟩
  refine ⟨rfl, ?_⟩
  refine JL_all [] rfl ?_
  rw [← hk]
  (repeat' (first | refine J_seq ?_ | refine J_skip ?_ | refine J_yes rfl ?_ | refine J_no rfl ?_))
  refine J_walk 9 [(0, true), (1, true), (2, true), (3, true), (4, true), (5, true), (6, true), (7, true), (8, true)] [2, 3] (by kernel_rfl) (by decide) rfl ?_
  refine JW_still [] rfl (OpV_blk (v := .pointer (some ⟨pw, 0, none⟩)) 0 rfl rfl rfl rfl) rfl ?_
  refine JW_still [] rfl (OpV_blk (v := .pointer (some ⟨pw, 0, none⟩)) 0 rfl rfl rfl rfl) rfl ?_
  refine JW_run [] rfl ?_
  refine JW_still [] rfl (OpV_blk (v := .slice (some ⟨gw, 0, none⟩) W.length cw) 1 rfl rfl rfl rfl) rfl ?_
  refine JW_run [] rfl ?_
  refine JW_still [] rfl (OpV_upto (i := k) rfl rfl rfl rfl rfl (by omega)) rfl ?_
  refine JW_all [] rfl ?_
  refine JL_store 3 rfl rfl rfl rfl rfl [] rfl ?_
  refine JL_nil ?_
  refine J_fit (Fit.shrink (m := k) 5 rfl hkW) ?_
  rw [Nat.mul_one, show (natsI W).take k = natsI (W.take k) by unfold natsI; rw [List.map_take]; simp [ints]]
  (repeat' (first | refine J_seq ?_ | refine J_skip ?_ | refine J_yes rfl ?_ | refine J_no rfl ?_))
  refine J_region ?_
  refine JL_val [] (OpV_blk (v := .agg #[.slice At W.length ct, .int .i64 a]) 0 rfl rfl rfl rfl) rfl ?_
  refine JL_store 1 rfl rfl rfl rfl rfl [] rfl ?_
  refine JL_nil ?_
  refine J_ret ?_
  exact ⟨[_], [3, 4, 5], _, ⟨⟨p2, 1, _, _, rfl, rfl, rfl⟩, trivial⟩, by decide, rfl, some ⟨gw, 0, none⟩, cw, At, ct, rfl, rfl⟩
end Go.Proofs.YtfogkbmbmaganaaGreat
