
/- DimacsPlaces: a head line that stands twice, or ahead of its turn, is told at its line. No condition but what the row lists. -/
import Derived.Test.YtkiadfpkgpgbiaaGreatDoorDimaC
import Derived.Test.YtkiadfpkgpgbiaaGreatDoorMade4
import Derived.Test.YtkiadfpkgpgbiaaGreatDoorRefV
import Derived.Test.YtkiadfpkgpgbiaaGreatDoorDimaS
set_option linter.unusedVariables false
set_option linter.unusedSimpArgs false
namespace Go.Proofs.YtkiadfpkgpgbiaaGreatDoor
open Go.RowKit
open Lib
def partT (ls : List (List UInt8)) (m : List UInt8) (at_ j : Nat) : List (List UInt8) := if j ≤ at_ then ls.take j else ls.take (at_ + 1) ++ m :: (ls.drop (at_ + 1)).take (j - (at_ + 1))
theorem part_next {ls : List (List UInt8)} {m x : List UInt8} {at_ j : Nat} (hx : ls[j]? = some x) : partT ls m at_ (j + 1) = partT ls m at_ j ++ [x] ++ (if j = at_ then [m] else []) := by
  unfold partT
  by_cases h1 : j < at_
  · rw [if_pos (by omega), if_pos (by omega), if_neg (by omega), List.take_add_one, hx]; simp
  · by_cases h2 : j = at_
    · subst h2
      rw [if_neg (by omega), if_pos (by omega), if_pos rfl, List.take_add_one, hx]; simp
    · rw [if_neg (by omega), if_neg (by omega), if_neg h2, show j + 1 - (at_ + 1) = (j - (at_ + 1)) + 1 by omega, List.take_add_one (l := ls.drop (at_ + 1)), List.getElem?_drop, show at_ + 1 + (j - (at_ + 1)) = j by omega, hx]
      simp
theorem part_all (ls : List (List UInt8)) (m : List UInt8) (at_ : Nat) (h : at_ < ls.length) : partT ls m at_ ls.length = twiceT ls m at_ := by
  unfold partT twiceT
  rw [if_neg (by omega), List.take_of_length_le (l := ls.drop (at_ + 1)) (by rw [List.length_drop]; omega)]
def flatT (ls : List (List UInt8)) : List UInt8 := (ls.map fun x => x ++ [10]).flatten
theorem flat_len (M : Nat) : ∀ ls : List (List UInt8), (∀ x ∈ ls, x.length ≤ M) → (flatT ls).length ≤ ls.length * (M + 1)
  | [], _ => by simp [flatT]
  | x :: ls, h => by
    have h1 := h x (by simp)
    have h2 := flat_len M ls fun y hy => h y (by simp [hy])
    unfold flatT at h2 ⊢
    have e : (x :: ls).length * (M + 1) = ls.length * (M + 1) + (M + 1) := by rw [List.length_cons, Nat.succ_mul]
    rw [e, List.map_cons, List.flatten_cons, List.length_append, List.length_append]
    simp only [List.length_cons, List.length_nil]
    omega
theorem part_len (ls : List (List UInt8)) (m : List UInt8) (at_ j : Nat) : (partT ls m at_ j).length ≤ ls.length + 1 := by
  unfold partT
  split
  · rw [List.length_take]; omega
  · rw [List.length_append, List.length_cons, List.length_take, List.length_take, List.length_drop]; omega
theorem part_mem {ls : List (List UInt8)} {m : List UInt8} {at_ j : Nat} (hm : m ∈ ls) : ∀ x ∈ partT ls m at_ j, x ∈ ls := by
  intro x hx
  unfold partT at hx
  split at hx
  · exact List.mem_of_mem_take hx
  · rcases List.mem_append.1 hx with hx | hx
    · exact List.mem_of_mem_take hx
    · rcases List.mem_cons.1 hx with rfl | hx
      · exact hm
      · exact List.mem_of_mem_drop (List.mem_of_mem_take hx)
set_option maxHeartbeats 1000000 in
theorem dimacsPlaces_fn (V : LibV) (nodes : Int) (hn : inB nodes) (ends : Int) (he : inB ends) (A : Option Addr) (c b o : Nat) (l : List Arc) (hA : l ≠ [] → A = some ⟨b, o, none⟩) (hl : ∀ x ∈ l, inB x.fr ∧ inB x.to ∧ inB x.cap) (hs : l.length * 24 ≤ 140737488351232) (which : Int) (hwh : inB which) (behind : Int) (hbe : inB behind) :
    Fn 4 [.int .i64 nodes, .int .i64 ends, .slice A l.length c, .int .i64 which, .int .i64 behind] [] ([.seg b o (arcs l)] ++ V.heap) fun v _ => v = .bool true := by
  refine Fn_of Tryz.func4 rfl rfl fun w0 => ?_
  (repeat' (first | refine J_seq ?_ | refine J_skip ?_ | refine J_yes rfl ?_ | refine J_no rfl ?_))
  refine J_region ?_
  refine JL_all [] rfl ?_
  (repeat' (first | refine J_seq ?_ | refine J_skip ?_ | refine J_yes rfl ?_ | refine J_no rfl ?_))
  refine J_region ?_
  refine JL_callR [] (shown4_fn V) rfl rfl rfl rfl (by kernel_rfl) ⟨⟨1, by simp, rfl⟩, ⟨2, by simp, rfl⟩, ⟨3, by simp, rfl⟩, trivial⟩ (fun _ => rfl) ?_
  rintro v H' ⟨rfl, rfl⟩
  refine ⟨rfl, ?_⟩
  refine JL_all [] rfl ?_
  refine J_seq ?_
  (repeat' (first | refine J_seq ?_ | refine J_skip ?_ | refine J_yes rfl ?_ | refine J_no rfl ?_))
  refine J_region ?_
  refine JL_all [] rfl ?_
  refine J_no rfl (J_skip ?_)
  (repeat' (first | refine J_seq ?_ | refine J_skip ?_ | refine J_yes rfl ?_ | refine J_no rfl ?_))
  refine J_region ?_
  refine JL_run [] rfl ?_
  refine JL_callR [] (made4_fn nodes ends hn he A c b o l hA hl (by omega)) rfl rfl rfl rfl (by kernel_rfl) ⟨⟨0, _, by simp, rfl, shows_seg _ _ _, seen_seg⟩, trivial⟩ (fun _ => rfl) ?_
  rintro v H' ⟨N, A1, c1, hR, hN9, hN24, _, rfl, rfl⟩
  refine ⟨rfl, ?_⟩
  refine JL_alloc rfl rfl rfl (fun _ => rfl) fun p12 => ?_
  refine JL_store 0 rfl rfl rfl rfl rfl [] rfl ?_
  refine JL_all [] rfl ?_
  have hF := hR.fits4
  have hGz := hR.check
  refine J_know (own_is 1 rfl) (fun ho1 => ?_)
  obtain ⟨g1, hg1⟩ : ∃ g, N.arcs ≠ [] → A1 = some ⟨g, 0, none⟩ := by
    by_cases h0 : N.arcs = []
    · exact ⟨0, fun k => absurd h0 k⟩
    · obtain ⟨g, e⟩ := ho1.2.2.1 (List.length_pos_iff.2 h0)
      exact ⟨g, fun _ => e⟩
  have hg1' : arcs N.arcs ≠ [] → A1 = some ⟨g1, 0, none⟩ := fun h => hg1 (by rintro e; rw [e] at h; exact h rfl)
  have P1 := print_fn V N hF A1 c1 g1 0 hg1
  unfold printV at P1
  rw [if_pos hGz, if_pos hGz] at P1
  have hHl := head_len N hF
  have hAl := arcs_len N hF N.arcs fun a h => h
  have hPl : (printL N).length ≤ 2080 := by unfold printL; rw [List.length_append]; omega
  (repeat' (first | refine J_seq ?_ | refine J_skip ?_ | refine J_yes rfl ?_ | refine J_no rfl ?_))
  refine J_region ?_
  refine JL_val [] (v := netV N A1 c1) (OpV_blk (i := 0) 0 rfl rfl rfl rfl) rfl ?_
  refine JL_callR [] P1 rfl rfl rfl rfl (by kernel_rfl) ⟨⟨1, _, by simp, rfl, shows_ownS hg1', seen_ownS hg1'⟩, ⟨3, by simp, rfl⟩, ⟨4, by simp, rfl⟩, ⟨5, by simp, rfl⟩, trivial⟩ (fun _ => rfl) ?_
  rintro v H' ⟨rfl, rfl⟩
  refine ⟨rfl, ?_⟩
  refine JL_all [] rfl ?_
  refine J_seq ?_
  (repeat' (first | refine J_seq ?_ | refine J_skip ?_ | refine J_yes rfl ?_ | refine J_no rfl ?_))
  refine J_region ?_
  refine JL_all [] rfl ?_
  refine J_dec rfl (fun h => absurd rfl h) (fun _ => J_skip ?_)
  have L1 := lines_fn V (printL N) (by omega)
  rw [lines_print hR] at L1
  have hTl : 3 ≤ (netT N).length ∧ (netT N).length ≤ 27 := by
    unfold netT
    simp only [List.length_cons, List.length_map]
    omega
  have hTx : ∀ x ∈ netT N, x.length ≤ 2080 := fun x hx => by
    rw [← lines_print hR] at hx
    have := lines_each _ x hx
    omega
  (repeat' (first | refine J_seq ?_ | refine J_skip ?_ | refine J_yes rfl ?_ | refine J_no rfl ?_))
  refine J_region ?_
  refine JL_run [] rfl ?_
  refine JL_callR [] L1 rfl rfl rfl rfl (by kernel_rfl) ⟨⟨3, by simp, rfl⟩, ⟨4, by simp, rfl⟩, ⟨5, by simp, rfl⟩, trivial⟩ (fun _ => rfl) ?_
  rintro v H' ⟨Al, nl, hnl, rfl, rfl⟩
  refine ⟨rfl, ?_⟩
  subst hnl
  refine JL_all [] rfl ?_
  refine J_know (own_is 0 rfl) (fun ho => ?_)
  obtain ⟨gl, rfl⟩ := ho.2.2.1 (by omega)
  have hpk := pickZ_in (c := which) (n := 3) (by decide)
  obtain ⟨k, hk, hk3⟩ : ∃ k : Nat, pickZ which 3 = k ∧ k < 3 := ⟨(pickZ which 3).toNat, by omega, by omega⟩
  have hpb := pickZ_in (c := behind) (n := (netT N).length - k) (by omega)
  obtain ⟨at_, hat, hka, hal⟩ : ∃ a : Nat, k + pickZ behind ((netT N).length - k) = a ∧ k ≤ a ∧ a < (netT N).length := ⟨(k + pickZ behind ((netT N).length - k)).toNat, by omega, by omega, by omega⟩
  (repeat' (first | refine J_seq ?_ | refine J_skip ?_ | refine J_yes rfl ?_ | refine J_no rfl ?_))
  refine J_region ?_
  refine JL_run [] rfl ?_
  refine JL_callR [] (pick4_fn hwh (by decide)) rfl rfl rfl rfl (by kernel_rfl) trivial (fun _ => rfl) ?_
  rintro v H' ⟨rfl, rfl⟩
  refine ⟨rfl, ?_⟩
  refine JL_all [] rfl ?_
  refine J_set 16 (v' := .int .i64 k) rfl (by rw [hk]) ?_
  (repeat' (first | refine J_seq ?_ | refine J_skip ?_ | refine J_yes rfl ?_ | refine J_no rfl ?_))
  refine J_region ?_
  refine JL_run [] rfl ?_
  refine JL_set 54 (v' := .int .i64 ((netT N).length - k)) rfl (congrArg (Value.int .i64) (w64 (by omega))) ?_
  refine JL_callR [] (pick4_fn hbe (by omega)) rfl rfl rfl rfl (by kernel_rfl) trivial (fun _ => rfl) ?_
  rintro v H' ⟨rfl, rfl⟩
  refine ⟨rfl, ?_⟩
  refine JL_all [] rfl ?_
  refine J_set 17 (v' := .int .i64 at_) rfl (by rw [w64 (by omega), hat]) ?_
  obtain ⟨m, hm⟩ : ∃ m, (netT N)[k]? = some m := ⟨(netT N)[k], List.getElem?_eq_getElem (by omega)⟩
  obtain ⟨m1, hm1⟩ : ∃ m, (netT N)[1]? = some m := ⟨(netT N)[1], List.getElem?_eq_getElem (by omega)⟩
  have hmm := List.mem_of_getElem? hm
  have hml := hTx m hmm
  have hm1l := hTx m1 (List.mem_of_getElem? hm1)
  have hfl : ∀ j, (flatT (partT (netT N) m at_ j)).length ≤ 60000 := fun j => by
    have h1 := flat_len 2080 _ (fun x hx => hTx x (part_mem (at_ := at_) (j := j) hmm x hx))
    have h2 := part_len (netT N) m at_ j
    have := Nat.mul_le_mul_right (2080 + 1) (show (partT (netT N) m at_ j).length ≤ 28 by omega)
    omega
  (repeat' (first | refine J_seq ?_ | refine J_skip ?_ | refine J_yes rfl ?_ | refine J_no rfl ?_))
  refine J_region ?_
  refine JL_all [] rfl ?_
  (repeat' (first | refine J_seq ?_ | refine J_skip ?_ | refine J_yes rfl ?_ | refine J_no rfl ?_))
  refine J_region ?_
  refine JL_all [] rfl ?_
  (repeat' (first | refine J_seq ?_ | refine J_skip ?_ | refine J_yes rfl ?_ | refine J_no rfl ?_))
  refine J_block ?_
  refine J_loop (σ := Nat) (fun j => [(19, .int .i64 j), (18, str (flatT (partT (netT N) m at_ j))), (17, .int .i64 at_), (16, .int .i64 k), (15, .slice (some ⟨gl, 0, none⟩) (netT N).length (netT N).length), (13, str (printL N))])
    (fun _ => [.own (.slice (some ⟨gl, 0, none⟩) (netT N).length (netT N).length) 9 1 (netT N).length (strs (netT N))] ++ V.heap) (fun j => j ≤ (netT N).length) (fun j => (netT N).length - j)
    0 [0, 4, 5, 6] ⟨rfl, (show some (str []) = some (str _) by simp [flatT, partT]), rfl, rfl, rfl, rfl, trivial⟩ (by decide) rfl (Nat.zero_le _) ?_
  intro j hj
  have hfj := hfl j
  refine J_seq ?_
  (repeat' (first | refine J_seq ?_ | refine J_skip ?_ | refine J_yes rfl ?_ | refine J_no rfl ?_))
  refine J_region ?_
  refine JL_all [] rfl ?_
  refine J_dec rfl (fun hlt => J_skip ?_) (fun hge => J_exit ?_)
  · have hlt' : j < (netT N).length := by omega
    obtain ⟨x, hx⟩ : ∃ x, (netT N)[j]? = some x := ⟨(netT N)[j], List.getElem?_eq_getElem hlt'⟩
    have hxl := hTx x (List.mem_of_getElem? hx)
    have hnx := part_next (m := m) (at_ := at_) hx
    have hfx : flatT (partT (netT N) m at_ j ++ [x]) = flatT (partT (netT N) m at_ j) ++ x ++ [10] := by simp [flatT]
    refine J_seq (J_block ?_)
    refine J_seq ?_
    (repeat' (first | refine J_seq ?_ | refine J_skip ?_ | refine J_yes rfl ?_ | refine J_no rfl ?_))
    refine J_region ?_
    refine JL_run [] rfl ?_
    refine JL_val [] (idx1z rfl rfl rfl rfl rfl hlt') rfl ?_
    refine JL_val [] (OpV_own 0 rfl rfl rfl (readT_str hx)) rfl ?_
    refine JL_val [] (OpV_cat rfl rfl rfl (by omega)) rfl ?_
    refine JL_val [] (OpV_cat (m := [10]) rfl rfl rfl (by simp only [List.length_append, List.length_cons, List.length_nil]; omega)) rfl ?_
    refine JL_all [] rfl ?_
    (repeat' (first | refine J_seq ?_ | refine J_skip ?_ | refine J_yes rfl ?_ | refine J_no rfl ?_))
    refine J_region ?_
    refine JL_all [] rfl ?_
    refine J_dec rfl (fun heq => ?_) (fun hne => J_skip ?_)
    · have heq' : j = at_ := by
        have h' : (j : Int) = at_ := heq
        omega
      rw [if_pos heq'] at hnx
      (repeat' (first | refine J_seq ?_ | refine J_skip ?_ | refine J_yes rfl ?_ | refine J_no rfl ?_))
      refine J_region ?_
      refine JL_run [] rfl ?_
      refine JL_val [] (idx1z rfl rfl rfl rfl rfl (show k < (netT N).length by omega)) rfl ?_
      refine JL_val [] (OpV_own 0 rfl rfl rfl (readT_str hm)) rfl ?_
      refine JL_val [] (OpV_cat rfl rfl rfl (by simp only [List.length_append, List.length_cons, List.length_nil]; omega)) rfl ?_
      refine JL_val [] (OpV_cat (m := [10]) rfl rfl rfl (by simp only [List.length_append, List.length_cons, List.length_nil]; omega)) rfl ?_
      refine JL_all [] rfl ?_
      (repeat' (first | refine J_seq ?_ | refine J_skip ?_ | refine J_yes rfl ?_ | refine J_no rfl ?_))
      refine J_region ?_
      refine JL_all [] rfl ?_
      refine ⟨j + 1, [0, 1, 2, 3], ⟨?_, ?_, rfl, rfl, rfl, rfl, trivial⟩, by decide, rfl, by omega, by omega⟩
      · show some (Value.int .i64 (IntKind.i64.wrap ((j : Int) + 1))) = _
        rw [w64 (by omega)]; rfl
      · refine congrArg some (congrArg str ?_)
        rw [hnx]
        simp [flatT]
    · have hne' : j ≠ at_ := fun e => hne (by show (j : Int) = at_; omega)
      rw [if_neg hne', List.append_nil] at hnx
      (repeat' (first | refine J_seq ?_ | refine J_skip ?_ | refine J_yes rfl ?_ | refine J_no rfl ?_))
      refine J_region ?_
      refine JL_all [] rfl ?_
      refine ⟨j + 1, [0, 1, 2, 3], ⟨?_, ?_, rfl, rfl, rfl, rfl, trivial⟩, by decide, rfl, by omega, by omega⟩
      · show some (Value.int .i64 (IntKind.i64.wrap ((j : Int) + 1))) = _
        rw [w64 (by omega)]; rfl
      · refine congrArg some (congrArg str ?_)
        rw [hnx, hfx]
  obtain rfl : j = (netT N).length := by omega
  have hpt : flatT (partT (netT N) m at_ (netT N).length) = ((twiceT (netT N) m at_).map fun x => x ++ [10]).flatten := by rw [part_all _ _ _ hal]; rfl
  have T1 := parse_fn V (flatT (partT (netT N) m at_ (netT N).length)) (by omega)
  rw [show parseL (flatT (partT (netT N) m at_ (netT N).length)) = (net0, at_ + 2, 2) by rw [hpt]; exact parse_twice hR k at_ hk3 hka hm hal] at T1
  have T2 := parse_fn V ([97, 32, 49, 32, 50, 32, 51, 10] ++ printL N) (by simp; omega)
  rw [parse_early] at T2
  have T3 := parse_fn V (m1 ++ [10] ++ printL N) (by simp only [List.length_append, List.length_cons, List.length_nil]; omega)
  rw [parse_early2 hR hm1] at T3
  (repeat' (first | refine J_seq ?_ | refine J_skip ?_ | refine J_yes rfl ?_ | refine J_no rfl ?_))
  refine J_region ?_
  refine JL_run [] rfl ?_
  refine JL_callR [] T1 rfl rfl rfl rfl (by kernel_rfl) ⟨⟨1, by simp, rfl⟩, ⟨2, by simp, rfl⟩, ⟨3, by simp, rfl⟩, trivial⟩ (fun _ => rfl) ?_
  rintro v H' ⟨B1, d1, rfl, rfl⟩
  refine ⟨rfl, ?_⟩
  refine JL_run [] rfl ?_
  refine JL_alloc rfl rfl rfl (fun _ => rfl) fun p20 => ?_
  refine JL_store 0 rfl rfl rfl rfl rfl [] rfl ?_
  refine JL_all [] rfl ?_
  (repeat' (first | refine J_seq ?_ | refine J_skip ?_ | refine J_yes rfl ?_ | refine J_no rfl ?_))
  refine J_region ?_
  refine JL_run [] rfl ?_
  refine JL_val [] (OpV_cat (l := [97, 32, 49, 32, 50, 32, 51, 10]) rfl rfl rfl (by simp; omega)) rfl ?_
  refine JL_all [] rfl ?_
  (repeat' (first | refine J_seq ?_ | refine J_skip ?_ | refine J_yes rfl ?_ | refine J_no rfl ?_))
  refine J_region ?_
  refine JL_run [] rfl ?_
  refine JL_callR [] T2 rfl rfl rfl rfl (by kernel_rfl) ⟨⟨3, by simp, rfl⟩, ⟨4, by simp, rfl⟩, ⟨5, by simp, rfl⟩, trivial⟩ (fun _ => rfl) ?_
  rintro v H' ⟨B2, d2, rfl, rfl⟩
  refine ⟨rfl, ?_⟩
  refine JL_run [] rfl ?_
  refine JL_alloc rfl rfl rfl (fun _ => rfl) fun p24 => ?_
  refine JL_store 0 rfl rfl rfl rfl rfl [] rfl ?_
  refine JL_all [] rfl ?_
  (repeat' (first | refine J_seq ?_ | refine J_skip ?_ | refine J_yes rfl ?_ | refine J_no rfl ?_))
  refine J_region ?_
  refine JL_run [] rfl ?_
  refine JL_val [] (idx1z rfl rfl rfl rfl rfl (show 1 < (netT N).length by omega)) rfl ?_
  refine JL_val [] (OpV_own 4 rfl rfl rfl (readT_str hm1)) rfl ?_
  refine JL_val [] (OpV_cat (m := [10]) rfl rfl rfl (by simp only [List.length_append, List.length_cons, List.length_nil]; omega)) rfl ?_
  refine JL_run [] rfl ?_
  refine JL_val [] (OpV_cat rfl rfl rfl (by simp only [List.length_append, List.length_cons, List.length_nil]; omega)) rfl ?_
  refine JL_all [] rfl ?_
  (repeat' (first | refine J_seq ?_ | refine J_skip ?_ | refine J_yes rfl ?_ | refine J_no rfl ?_))
  refine J_region ?_
  refine JL_run [] rfl ?_
  refine JL_callR [] T3 rfl rfl rfl rfl (by kernel_rfl) ⟨⟨5, by simp, rfl⟩, ⟨6, by simp, rfl⟩, ⟨7, by simp, rfl⟩, trivial⟩ (fun _ => rfl) ?_
  rintro v H' ⟨B3, d3, rfl, rfl⟩
  refine ⟨rfl, ?_⟩
  refine JL_run [] rfl ?_
  refine JL_alloc rfl rfl rfl (fun _ => rfl) fun p28 => ?_
  refine JL_store 0 rfl rfl rfl rfl rfl [] rfl ?_
  refine JL_all [] rfl ?_
  (repeat' (first | refine J_seq ?_ | refine J_skip ?_ | refine J_yes rfl ?_ | refine J_no rfl ?_))
  refine J_region ?_
  refine JL_run [] rfl ?_
  refine JL_set 108 (v' := .bool true) rfl (congrArg Value.bool (cdec_yes rfl)) ?_
  refine JL_run [2] rfl ?_
  refine JL_set 114 (v' := .bool true) rfl (congrArg Value.bool (cdec_yes (by rw [w64 (by omega)]; simp))) ?_
  refine JL_run [2, 8] rfl ?_
  refine JL_val [2, 8] (OpV_blk (i := 3) (v := .slice B1 0 d1) 4 rfl rfl rfl rfl) rfl ?_
  refine JL_run [2, 8] rfl ?_
  refine JL_set 120 (v' := .bool true) rfl (congrArg Value.bool (cdec_yes rfl)) ?_
  refine JL_run [2, 8, 14] rfl ?_
  refine JL_set 124 (v' := .bool true) rfl (congrArg Value.bool (cdec_yes rfl)) ?_
  refine JL_run [2, 8, 14, 18] rfl ?_
  refine JL_set 128 (v' := .bool true) rfl (congrArg Value.bool (cdec_yes rfl)) ?_
  refine JL_run [2, 8, 14, 18, 22] rfl ?_
  refine JL_set 132 (v' := .bool true) rfl (congrArg Value.bool (cdec_yes rfl)) ?_
  refine JL_all [2, 8, 14, 18, 22, 26] rfl ?_
  exact J_drop [] (by decide) rfl (J_ret ⟨_, rfl, congrArg Value.bool (cdec_yes rfl)⟩)
end Go.Proofs.YtkiadfpkgpgbiaaGreatDoor
