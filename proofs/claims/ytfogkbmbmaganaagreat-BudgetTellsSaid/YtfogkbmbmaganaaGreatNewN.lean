
/- New rows and trees, step by step. -/
import Derived.Test.YtfogkbmbmaganaaGreatQE
import Derived.Test.YtfogkbmbmaganaaGreatRepN
set_option linter.unusedVariables false
set_option linter.unusedSimpArgs false
namespace Go.Proofs.YtfogkbmbmaganaaGreat
open Go.RowKit
def newNd (v : Int) : Nd := ⟨none, none, none, 1, v, v, v, 0, false⟩
def newC (A : Option Addr) (cap k : Nat) (pf : Nat) (v : Int) : Heap :=
  [blk pf 221 [.slice A k cap, .int .i64 0], .own (.slice A k cap) 224 9 k (ndsV k fun _ => newNd v)]
set_option maxHeartbeats 1000000 in
theorem newS_fn (v : Int) (hv : -4611686018427387904 ≤ v ∧ v ≤ 4611686018427387904) (N : Nat) (h1 : 1 ≤ N) (hN : N ≤ 3000) (g c : Nat) :
    Fn 138 [.slice (some ⟨g, 0, none⟩) N c] [] [.seg g 0 (ints (List.replicate N v))] fun r H' => ∃ ps gn cap, r = .tuple #[.pointer (some ⟨ps, 0, none⟩), .int .i64 0] ∧ H' = newC (some ⟨gn, 0, none⟩) cap N ps v := by
  refine Fn_of Tryz.func138 rfl rfl fun w0 => ?_
  (repeat' (first | refine J_seq ?_ | refine J_skip ?_ | refine J_yes rfl ?_ | refine J_no rfl ?_))
  refine J_region ?_
  refine JL_all [] rfl ?_
  (repeat' (first | refine J_seq ?_ | refine J_skip ?_ | refine J_yes rfl ?_ | refine J_no rfl ?_))
  refine J_region ?_
  refine JL_all [] rfl ?_
  (repeat' (first | refine J_seq ?_ | refine J_skip ?_ | refine J_yes rfl ?_ | refine J_no rfl ?_))
  refine J_dec rfl (fun h => absurd h (by omega)) (fun _ => J_skip ?_)
  (repeat' (first | refine J_seq ?_ | refine J_skip ?_ | refine J_yes rfl ?_ | refine J_no rfl ?_))
  refine J_region ?_
  refine JL_val [] (OpV_build rfl rfl rfl rfl rfl rfl) rfl ?_
  refine JL_box rfl rfl rfl (fun _ => rfl) fun ps => ?_
  refine JL_all [] rfl ?_
  (repeat' (first | refine J_seq ?_ | refine J_skip ?_ | refine J_yes rfl ?_ | refine J_no rfl ?_))
  refine J_region ?_
  refine JL_all [] rfl ?_
  refine J_block ?_
  refine J_addnil 224 9 ?_
  refine J_loopF (σ := Nat × Option Addr × Nat) (fun t => [(14, .int .i64 (t.1 : Int)), (13, .int .i64 (N : Int)), (12, .slice (some ⟨g, 0, none⟩) N c), (4, .pointer (some ⟨ps, 0, none⟩))]) (fun t => newC t.2.1 t.2.2 t.1 ps v ++ [.seg g 0 (ints (List.replicate N v))])
    (fun t => t.1 ≤ N) (fun t => N - t.1) (0, none, 0) ⟨rfl, rfl, rfl, rfl, trivial⟩ ?_ (Nat.zero_le _) ?_
  · exact Fit.re (A := [.own (.slice none 0 0) 224 9 0 [], blk ps 221 [.slice none 0 0, .int .i64 0], .seg g 0 (ints (List.replicate N v))]) (R := []) [1, 0, 2] rfl (by decide)
  rintro ⟨k, A, cap⟩ hk
  simp only at hk ⊢
  (repeat' (first | refine J_seq ?_ | refine J_skip ?_ | refine J_yes rfl ?_ | refine J_no rfl ?_))
  refine J_region ?_
  refine JL_all [] rfl ?_
  (repeat' (first | refine J_seq ?_ | refine J_skip ?_ | refine J_yes rfl ?_ | refine J_no rfl ?_))
  refine J_dec rfl (fun hlt => J_skip ?_) (fun hge => ?_)
  · have hkN : k < N := by omega
    refine J_seq (J_block ?_)
    (repeat' (first | refine J_seq ?_ | refine J_skip ?_ | refine J_yes rfl ?_ | refine J_no rfl ?_))
    refine J_region ?_
    refine JL_val [] (idx1z rfl rfl rfl rfl rfl hkN) rfl ?_
    refine JL_val [] (ldseg (v := .int .i64 v) 2 rfl rfl rfl (Nat.zero_add _).symm (ints_get (by rw [List.getElem?_replicate, if_pos hkN]))) rfl ?_
    refine JL_all [] rfl ?_
    (repeat' (first | refine J_seq ?_ | refine J_skip ?_ | refine J_yes rfl ?_ | refine J_no rfl ?_))
    refine J_region ?_
    refine JL_evO (gs := [999]) rfl ?_
    refine JL_evO (gs := [999]) rfl ?_
    refine JL_evO (gs := [999]) rfl ?_
    refine JL_set 20 (v' := .bool false) rfl (congrArg Value.bool (cdec_no (by omega))) ?_
    refine JL_run [2] rfl ?_
    refine JL_all [] rfl ?_
    (repeat' (first | refine J_seq ?_ | refine J_skip ?_ | refine J_yes rfl ?_ | refine J_no rfl ?_))
    refine J_dec rfl (fun h => absurd h (by omega)) (fun _ => J_skip ?_)
    (repeat' (first | refine J_seq ?_ | refine J_skip ?_ | refine J_yes rfl ?_ | refine J_no rfl ?_))
    refine J_region ?_
    refine JL_evO (gs := [999]) rfl ?_
    refine JL_evO (gs := [999]) rfl ?_
    refine JL_evO (gs := [999]) rfl ?_
    refine JL_evO (gs := [999]) rfl ?_
    refine JL_val [] (v := .slice A k cap) (OpV_blk 0 rfl rfl rfl rfl) rfl ?_
    refine JL_val [] (OpV_buildA (fs := [(0, 1, 0), (1, 1, 0)]) rfl rfl rfl rfl (fun i off sz ag h => by
      match i with
      | 0 => simp at h; omega
      | 1 => simp at h; omega
      | i + 2 => simp at h) rfl rfl) rfl ?_
    refine JL_evO (gs := [999]) rfl ?_
    refine JL_evO (gs := [999]) rfl ?_
    refine JL_evO (gs := [999]) rfl ?_
    refine JL_val [] (OpV_build rfl rfl rfl rfl rfl rfl) rfl ?_
    refine JL_lit rfl rfl rfl rfl rfl rfl rfl (fun _ => rfl) fun g2 => ?_
    refine JL_appendS (n := k) (m := 1) (off := 0) (news := ncells (newNd v)) 2 0 rfl rfl rfl rfl rfl rfl (by decide) rfl rfl (shows_blk g2 _ _ (0, 0)) (fun _ => rfl) rfl rfl (by omega) (by omega) (fun _ _ => rfl) fun A2 c2 => ?_
    refine JL_evO (gs := [999]) rfl ?_
    refine JL_evO (gs := [999]) rfl ?_
    refine JL_store 1 rfl rfl rfl rfl rfl [] rfl ?_
    refine JL_nil ?_
    (repeat' (first | refine J_seq ?_ | refine J_skip ?_ | refine J_yes rfl ?_ | refine J_no rfl ?_))
    refine J_region ?_
    refine JL_all [] rfl ?_
    refine ⟨(k + 1, A2, c2), ⟨?_, rfl, rfl, rfl, trivial⟩, ?_, hkN, by show N - (k + 1) < N - k; omega⟩
    · show some (Value.int .i64 (IntKind.i64.wrap ((k : Int) + 1))) = _
      rw [w64 (by omega)]; rfl
    · refine Fit.trans (Fit.sub (List.sublist_cons_self _ _)) ?_
      show Fit _ ([blk ps 221 [.slice A2 (k + 1) c2, .int .i64 0], .own (.slice A2 (k + 1) c2) 224 9 (k + 1) (ndsV k (fun _ => newNd v) ++ ncells (newNd v))] ++ [.seg g 0 (ints (List.replicate N v))]) _
      rw [show ndsV k (fun _ => newNd v) ++ ncells (newNd v) = ndsV (k + 1) fun _ => newNd v from (ndsV_succ k _).symm]
      exact Fit.refl
  · obtain rfl : k = N := by omega
    refine J_know (own_is 1 rfl) fun ⟨_, _, hA, _⟩ => ?_
    obtain ⟨gn, rfl⟩ := hA (by omega)
    refine J_exit ?_
    (repeat' (first | refine J_seq ?_ | refine J_skip ?_ | refine J_yes rfl ?_ | refine J_no rfl ?_))
    refine J_region ?_
    refine JL_all [] rfl ?_
    exact J_drop [0, 1] (by decide) rfl (J_ret ⟨_, rfl, ps, gn, cap, rfl, rfl⟩)
set_option maxHeartbeats 1000000 in
theorem newF_fn (v : Int) (hv : -4611686018427387904 ≤ v ∧ v ≤ 4611686018427387904) (N : Nat) (h1 : 1 ≤ N) (hN : N ≤ 3000) (g c : Nat) :
    Fn 130 [.slice (some ⟨g, 0, none⟩) N c] [] [.seg g 0 (ints (List.replicate N v))] fun r H' => ∃ pt ps gn go co cap, r = .tuple #[.pointer (some ⟨pt, 0, none⟩), .int .i64 0] ∧ H' = foC pt ps go gn co cap N ⟨fun _ => newNd v, fun _ => none, 0⟩ := by
  refine Fn_of Tryz.func130 rfl rfl fun w0 => ?_
  (repeat' (first | refine J_seq ?_ | refine J_skip ?_ | refine J_yes rfl ?_ | refine J_no rfl ?_))
  refine J_region ?_
  refine JL_all [] rfl ?_
  (repeat' (first | refine J_seq ?_ | refine J_skip ?_ | refine J_yes rfl ?_ | refine J_no rfl ?_))
  refine J_region ?_
  refine JL_evO (gs := [999]) rfl ?_
  refine JL_callR [] (newS_fn v hv N h1 hN g c) rfl rfl rfl rfl (by kernel_rfl) ⟨⟨0, _, by simp, rfl, shows_seg _ _ _, seen_seg⟩, trivial⟩ (fun _ => rfl) ?_
  rintro _ H' ⟨ps, gn, cap, rfl, rfl⟩
  refine ⟨rfl, ?_⟩
  refine JL_all [] rfl ?_
  (repeat' (first | refine J_seq ?_ | refine J_skip ?_ | refine J_yes rfl ?_ | refine J_no rfl ?_))
  refine J_region ?_
  refine JL_all [] rfl ?_
  (repeat' (first | refine J_seq ?_ | refine J_skip ?_ | refine J_yes rfl ?_ | refine J_no rfl ?_))
  refine J_dec rfl (fun h => absurd rfl h) (fun _ => J_skip ?_)
  (repeat' (first | refine J_seq ?_ | refine J_skip ?_ | refine J_yes rfl ?_ | refine J_no rfl ?_))
  refine J_region ?_
  refine JL_evO (gs := [999]) rfl ?_
  refine JL_lit rfl rfl rfl rfl rfl rfl rfl (fun _ => rfl) fun g2 => ?_
  refine JL_evO (gs := [999]) rfl ?_
  refine JL_evO (gs := [999]) rfl ?_
  refine JL_callR [] (repI_fn (-1) g2 1 N h1 (by omega)) rfl rfl rfl rfl (by kernel_rfl) ⟨⟨0, _, by simp, rfl, shows_blk _ _ _ (0, 0), .inr rfl⟩, trivial⟩ (fun _ => rfl) ?_
  rintro _ H' ⟨go, rfl, rfl⟩
  refine ⟨rfl, ?_⟩
  refine JL_val [] (OpV_build rfl rfl rfl rfl rfl rfl) rfl ?_
  refine JL_evO (gs := [999]) rfl ?_
  refine JL_evO (gs := [999]) rfl ?_
  refine JL_val [] (OpV_build rfl rfl rfl rfl rfl rfl) rfl ?_
  refine JL_box rfl rfl rfl (fun _ => rfl) fun pt => ?_
  refine JL_all [] rfl ?_
  (repeat' (first | refine J_seq ?_ | refine J_skip ?_ | refine J_yes rfl ?_ | refine J_no rfl ?_))
  refine J_drop [3, 4, 0, 1] (by decide) rfl (J_ret ⟨_, rfl, pt, ps, gn, go, N, cap, rfl, ?_⟩)
  have e : ints (List.replicate N (-1)) = ovV N (fun _ => none) := by
    unfold ovV
    congr 1
    apply List.ext_getElem?
    intro i
    rw [List.getElem?_replicate, List.getElem?_map]
    by_cases h : i < N
    · rw [if_pos h, List.getElem?_range h]; rfl
    · rw [if_neg h, List.getElem?_eq_none (by rw [List.length_range]; omega)]; rfl
  rw [e]
  rfl
theorem FAb.new {N : Nat} {v : Int} (hv : -4611686018427387904 ≤ v ∧ v ≤ 4611686018427387904) : FAb N ⟨fun _ => newNd v, fun _ => none, 0⟩ (fun _ => none) (fun _ => v) (fun x => [x]) := by
  refine ⟨⟨fun x hx => ?_, fun x _ => by simp, fun x hx y hy => ?_, fun x _ y hy => ?_, fun x _ => by simp, fun x _ => hv⟩, ?_, ?_, ?_, ?_, ?_, ?_⟩
  · exact ⟨.node .nil x v 0 false .nil, ⟨⟨rfl, rfl, rfl, (w64 (n := v) (by omega)).symm, rfl, rfl, rfl, ⟨v, ⟨⟨(x, v), by simp [T.flat], rfl⟩, fun e he => by simp [T.flat, sh] at he; rw [he]; exact Int.le_refl _⟩, (w64 (n := v) (by omega)).symm⟩, ⟨v, ⟨⟨(x, v), by simp [T.flat], rfl⟩, fun e he => by simp [T.flat, sh] at he; rw [he]; exact Int.le_refl _⟩, (w64 (n := v) (by omega)).symm⟩⟩, trivial, trivial⟩, rfl⟩
  · rw [List.mem_singleton.1 hy]; exact hx
  · rw [List.mem_singleton.1 hy]
  · exact ⟨fun _ _ => trivial, fun _ _ => trivial, fun _ _ => trivial⟩
  · intro x _ A u w B h
    have := congrArg List.length h
    simp at this; omega
  · exact fun _ _ _ _ _ => rfl
  · exact fun _ _ _ _ _ _ _ => rfl
  · exact fun x _ => ⟨[x], rfl, rfl⟩
  · exact fun _ _ => trivial
end Go.Proofs.YtfogkbmbmaganaaGreat
