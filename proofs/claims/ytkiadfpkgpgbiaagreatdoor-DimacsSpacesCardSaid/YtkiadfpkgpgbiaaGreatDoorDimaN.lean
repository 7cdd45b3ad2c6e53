
/- Networks read line by line: the program's words. -/
import Derived.Test.YtkiadfpkgpgbiaaGreatDoorDimaP
import Derived.Test.YtkiadfpkgpgbiaaGreatDoorTextS
import Derived.Test.YtkiadfpkgpgbiaaGreatDoorQB
set_option linter.unusedVariables false
set_option linter.unusedSimpArgs false
namespace Go.Proofs.YtkiadfpkgpgbiaaGreatDoor
open Go.RowKit
def numsV (A : Option Addr) (n c : Nat) (e : Int) : Value := .tuple #[.slice A n c, .int .i64 e]
theorem numbers_fn (V : LibV) (ws : List (List UInt8)) (hw : ∀ x ∈ ws, x.length ≤ 10000000) (hn : ws.length ≤ 10000000) (B : Option Addr) (n cb bb ob : Nat) (hB : ws ≠ [] → B = some ⟨bb, ob, none⟩) (hnl : n = ws.length) :
    Fn 48 [.slice B n cb] [] ([.seg bb ob (strs ws)] ++ V.heap) fun v H' => ∃ (A : Option Addr) (c : Nat), v = numsV A (numsL ws).1.length c (numsL ws).2 ∧ H' = [.own (.slice A (numsL ws).1.length c) 2 1 (numsL ws).1.length (ints (numsL ws).1)] := by
  subst hnl
  refine Fn_of Tryz.func48 rfl rfl fun w0 => ?_
  (repeat' (first | refine J_seq ?_ | refine J_skip ?_ | refine J_yes rfl ?_ | refine J_no rfl ?_))
  refine J_region ?_
  refine JL_all [] rfl ?_
  (repeat' (first | refine J_seq ?_ | refine J_skip ?_ | refine J_yes rfl ?_ | refine J_no rfl ?_))
  refine J_region ?_
  refine JL_run [] rfl ?_
  refine JL_make (n := ws.length) (c := ws.length) rfl rfl rfl rfl rfl rfl (by omega) (by omega) (by omega) (fun _ => rfl) fun g => ?_
  rw [show made [Value.int .i64 0] (ws.length * 1) = ints (List.replicate ws.length 0) by rw [made_one, Nat.mul_one]; simp [ints]]
  refine JL_all [] rfl ?_
  (repeat' (first | refine J_seq ?_ | refine J_skip ?_ | refine J_yes rfl ?_ | refine J_no rfl ?_))
  refine J_region ?_
  refine JL_all [] rfl ?_
  refine J_block ?_
  refine J_loop (σ := Nat) (fun k => [(14, .int .i64 k), (13, .int .i64 ws.length), (12, .slice B ws.length cb), (4, .slice (some ⟨g, 0, none⟩) ws.length ws.length)]) (fun k => [.own (.slice (some ⟨g, 0, none⟩) ws.length ws.length) 2 1 ws.length (ints ((ws.take k).map (fun w => (numL w).1) ++ List.replicate (ws.length - k) 0)), .seg bb ob (strs ws)] ++ V.heap)
    (fun k => k ≤ ws.length ∧ ∀ j x, j < k → ws[j]? = some x → (numL x).2 = 0) (fun k => ws.length - k) 0 [0, 1, 2, 3, 4] ⟨rfl, rfl, rfl, rfl, trivial⟩ (by decide) rfl ⟨Nat.zero_le _, fun j x h => by omega⟩ ?_
  rintro k ⟨hk, hall⟩
  (repeat' (first | refine J_seq ?_ | refine J_skip ?_ | refine J_yes rfl ?_ | refine J_no rfl ?_))
  refine J_region ?_
  refine JL_all [] rfl ?_
  refine J_seq (J_dec rfl (fun hlt => J_skip ?_) (fun hge => J_exit ?_))
  · have hlt' : k < ws.length := by omega
    obtain ⟨x, hx⟩ : ∃ x, ws[k]? = some x := ⟨ws[k], List.getElem?_eq_getElem hlt'⟩
    obtain rfl := hB (by rintro rfl; simp at hlt')
    have hxl := hw x (List.mem_of_getElem? hx)
    refine J_seq (J_block ?_)
    (repeat' (first | refine J_seq ?_ | refine J_skip ?_ | refine J_yes rfl ?_ | refine J_no rfl ?_))
    refine J_region ?_
    refine JL_run [] rfl ?_
    refine JL_val [] (idx1 rfl rfl rfl rfl rfl hlt') rfl ?_
    refine JL_val [] (ldseg 1 rfl rfl rfl rfl (readT_str hx)) rfl ?_
    refine JL_all [] rfl ?_
    (repeat' (first | refine J_seq ?_ | refine J_skip ?_ | refine J_yes rfl ?_ | refine J_no rfl ?_))
    refine J_region ?_
    refine JL_evO (gs := [999]) rfl ?_
    refine JL_callR [] (number_fn V x (by omega)) rfl rfl rfl rfl (by kernel_rfl) ⟨⟨2, by simp, rfl⟩, ⟨3, by simp, rfl⟩, ⟨4, by simp, rfl⟩, trivial⟩ (fun _ => rfl) ?_
    rintro v H' ⟨rfl, rfl⟩
    refine ⟨rfl, ?_⟩
    refine JL_all [] rfl ?_
    (repeat' (first | refine J_seq ?_ | refine J_skip ?_ | refine J_yes rfl ?_ | refine J_no rfl ?_))
    refine J_region ?_
    refine JL_all [] rfl ?_
    refine J_dec rfl (fun he => ?_) (fun he => J_skip ?_)
    · have hne := numsL_err hx hall he
      (repeat' (first | refine J_seq ?_ | refine J_skip ?_ | refine J_yes rfl ?_ | refine J_no rfl ?_))
      refine J_region ?_
      refine JL_all [] rfl ?_
      refine J_addnil 2 1 ?_
      refine J_drop [0] (by decide) rfl (J_ret ⟨_, rfl, none, 0, ?_, ?_⟩)
      · rw [hne]; rfl
      · rw [hne]; rfl
    · have he0 : (numL x).2 = 0 := Classical.not_not.1 he
      (repeat' (first | refine J_seq ?_ | refine J_skip ?_ | refine J_yes rfl ?_ | refine J_no rfl ?_))
      refine J_region ?_
      refine JL_run [] rfl ?_
      refine JL_val [] (idx1 rfl rfl rfl rfl rfl hlt') rfl ?_
      refine JL_store_own 0 rfl rfl rfl rfl (put_ints rfl (by rw [List.length_append, List.length_map, List.length_take, List.length_replicate]; omega)) [] rfl ?_
      refine JL_all [] rfl ?_
      (repeat' (first | refine J_seq ?_ | refine J_skip ?_ | refine J_yes rfl ?_ | refine J_no rfl ?_))
      refine J_region ?_
      refine JL_all [] rfl ?_
      refine ⟨k + 1, [0, 1, 2, 3, 4], ⟨?_, rfl, rfl, rfl, trivial⟩, by decide, ?_, ⟨by omega, fun j y hj hy => ?_⟩, by omega⟩
      · show some (Value.int .i64 (IntKind.i64.wrap ((k : Int) + 1))) = _
        rw [w64 (by omega)]; rfl
      · have : ((ws.take k).map (fun w => (numL w).1) ++ List.replicate (ws.length - k) 0).set k (numL x).1 = (ws.take (k + 1)).map (fun w => (numL w).1) ++ List.replicate (ws.length - (k + 1)) 0 := by
          have hl : ((ws.take k).map (fun w => (numL w).1)).length = k := by rw [List.length_map, List.length_take]; omega
          rw [List.set_append_right _ _ (by omega), hl, Nat.sub_self, List.take_add_one, hx, show ws.length - k = (ws.length - (k + 1)) + 1 by omega, List.replicate_succ, List.set_cons_zero]
          simp
        rw [← this]; simp only [Nat.zero_add]; rfl
      · by_cases e : j = k
        · subst e; rw [hx] at hy; obtain rfl := Option.some.inj hy; exact he0
        · exact hall j y (by omega) hy
  have hkl : k = ws.length := by omega
  subst hkl
  have hok := numsL_ok (ws := ws) fun w hw' => by
    obtain ⟨j, hj, e⟩ := List.getElem_of_mem hw'
    exact hall j w hj (by rw [List.getElem?_eq_getElem hj, e])
  rw [List.take_length, Nat.sub_self, List.replicate_zero, List.append_nil]
  (repeat' (first | refine J_seq ?_ | refine J_skip ?_ | refine J_yes rfl ?_ | refine J_no rfl ?_))
  refine J_region ?_
  refine JL_all [] rfl ?_
  refine J_drop [0] (by decide) rfl (J_ret ⟨_, rfl, some ⟨g, 0, none⟩, ws.length, ?_, ?_⟩)
  · rw [hok]; simp only [List.length_map]; rfl
  · rw [hok]; simp only [List.length_map]
/-- What was read, in memory. -/
def rdC (r : Rd) (A : Option Addr) (c : Nat) : List Value := [.int .i64 r.nodes, .int .i64 r.src, .int .i64 r.snk, .slice A r.arcs.length c, .int .i64 r.most, .int .i64 r.sum]
def rdH (p : Nat) (A : Option Addr) (c : Nat) (r : Rd) : Heap := [blk p 62 (rdC r A c), .own (.slice A r.arcs.length c) 44 3 r.arcs.length (arcs r.arcs)]
theorem there4_fn (p : Nat) (r : Rd) (A : Option Addr) (c : Nat) (v : Int) : Fn 49 [.pointer (some ⟨p, 0, none⟩), .int .i64 v] [] [.seg p 0 (rdC r A c)] fun u H' => u = .bool (cdec (1 ≤ v ∧ v ≤ r.nodes)) ∧ H' = [] := by
  refine Fn_of Tryz.func49 rfl rfl fun w0 => ?_
  (repeat' (first | refine J_seq ?_ | refine J_skip ?_ | refine J_yes rfl ?_ | refine J_no rfl ?_))
  refine J_region ?_
  refine JL_all [] rfl ?_
  (repeat' (first | refine J_seq ?_ | refine J_skip ?_ | refine J_yes rfl ?_ | refine J_no rfl ?_))
  refine J_region ?_
  refine JL_evO (gs := [999]) rfl ?_
  refine JL_evO (gs := [999]) rfl ?_
  refine JL_evO (gs := [999]) rfl ?_
  by_cases h : 1 ≤ v
  · refine JL_set 7 (v' := .bool true) rfl (congrArg Value.bool (cdec_yes h)) ?_
    refine JL_run [2] rfl ?_
    refine JL_val [2] (ldseg (i := 0) (v := .int .i64 r.nodes) 0 rfl rfl rfl rfl rfl) rfl ?_
    refine JL_all [2] rfl ?_
    exact J_drop [] (by decide) rfl (J_ret ⟨_, rfl, congrArg Value.bool (cdec_iff ⟨fun k => ⟨h, k⟩, fun k => k.2⟩), rfl⟩)
  · refine JL_set 7 (v' := .bool false) rfl (congrArg Value.bool (cdec_no h)) ?_
    refine JL_all [2] rfl ?_
    exact J_drop [] (by decide) rfl (J_ret ⟨_, rfl, congrArg Value.bool (cdec_no (fun k => h k.1)).symm, rfl⟩)
end Go.Proofs.YtkiadfpkgpgbiaaGreatDoor
