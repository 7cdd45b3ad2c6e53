
/- DimacsBack: what is written is read as it was, with remarks, blanks and empty lines too; any text is a network that is written and read the same, or it is told where it is wrong. No condition but what the row lists. -/
import Derived.Test.YtkiadfpkgpgbiaaGreatDoorDimaB
import Derived.Test.YtkiadfpkgpgbiaaGreatDoorNSame
import Derived.Test.YtkiadfpkgpgbiaaGreatDoorRefV
set_option linter.unusedVariables false
set_option linter.unusedSimpArgs false
namespace Go.Proofs.YtkiadfpkgpgbiaaGreatDoor
open Go.RowKit
open Lib
theorem all_len (note : List UInt8) (M : Nat) : ∀ (ls : List (List UInt8)), (∀ x ∈ ls, x.length ≤ M) → (allL note ls).length ≤ 3 + note.length + ls.length * (M + 7 + note.length) := by
  intro ls h
  have key : ∀ (ls : List (List UInt8)), (∀ x ∈ ls, x.length ≤ M) → ((ls.map fun x => [32] ++ x ++ [9, 10, 10, 99, 32] ++ note ++ [10]).flatten).length ≤ ls.length * (M + 7 + note.length) := by
    intro ls
    induction ls with
    | nil => intro _; simp
    | cons x ls ih =>
      intro h
      have h1 := h x (by simp)
      have h2 := ih fun y hy => h y (by simp [hy])
      rw [List.map_cons, List.flatten_cons, List.length_append, List.length_cons, Nat.add_mul]
      simp only [List.length_append, List.length_cons, List.length_nil]
      omega
  have := key ls h
  unfold allL
  rw [List.length_append]
  simp only [List.length_append, List.length_cons, List.length_nil] at this ⊢
  omega
theorem arcs_at {l : List Arc} {A : Option Addr} {n c m : Nat} {xs : List Value} (h : n = m ∧ n ≤ c ∧ (0 < n → ∃ g, A = some ⟨g, 0, none⟩) ∧ xs.length = n * 3) (hn : n = l.length := by rfl) : ∃ g, l ≠ [] → A = some ⟨g, 0, none⟩ := by
  by_cases h0 : l = []
  · exact ⟨0, fun k => absurd h0 k⟩
  · obtain ⟨g, e⟩ := h.2.2.1 (by rw [hn]; exact List.length_pos_iff.2 h0)
    exact ⟨g, fun _ => e⟩
theorem all_next (note : List UInt8) (ls : List (List UInt8)) (x : List UInt8) : allL note (ls ++ [x]) = allL note ls ++ [32] ++ x ++ [9, 10, 10, 99, 32] ++ note ++ [10] := by
  simp [allL]
set_option maxHeartbeats 1000000 in
theorem dimacsBackN_fn (V : LibV) (N : Net) (hF : N.Fits) (A : Option Addr) (c b o : Nat) (hA : N.arcs ≠ [] → A = some ⟨b, o, none⟩) (s note : List UInt8) (hs : s.length ≤ 140737488351232) (hn : note.length ≤ 140737488351232) :
    Fn 5 [netV N A c, str s, str note] [] ([.seg b o (arcs N.arcs)] ++ V.heap) fun v _ => v = .bool true := by
  refine Fn_of Tryz.func5 rfl rfl fun w0 => ?_
  (repeat' (first | refine J_seq ?_ | refine J_skip ?_ | refine J_yes rfl ?_ | refine J_no rfl ?_))
  refine J_region ?_
  refine JL_box (cs := netC N A c) rfl rfl rfl (fun _ => rfl) fun p3 => ?_
  refine JL_all [] rfl ?_
  (repeat' (first | refine J_seq ?_ | refine J_skip ?_ | refine J_yes rfl ?_ | refine J_no rfl ?_))
  refine J_region ?_
  refine JL_callR [] (shown4_fn V) rfl rfl rfl rfl (by kernel_rfl) ⟨⟨2, by simp, rfl⟩, ⟨3, by simp, rfl⟩, ⟨4, by simp, rfl⟩, trivial⟩ (fun _ => rfl) ?_
  rintro v H' ⟨rfl, rfl⟩
  refine ⟨rfl, ?_⟩
  refine JL_all [] rfl ?_
  refine J_seq ?_
  (repeat' (first | refine J_seq ?_ | refine J_skip ?_ | refine J_yes rfl ?_ | refine J_no rfl ?_))
  refine J_region ?_
  refine JL_run [] rfl ?_
  refine JL_set 31 (v' := .bool false) rfl rfl ?_
  refine JL_run [2] rfl ?_
  refine JL_val [2] (OpV_blk (i := 3) (v := .slice A N.arcs.length c) 0 rfl rfl rfl rfl) rfl ?_
  refine JL_run [2] rfl ?_
  by_cases h300 : (300 : Int) < N.arcs.length
  · refine JL_set 37 (v' := .bool true) rfl (congrArg Value.bool (cdec_yes h300)) ?_
    refine JL_all [2, 8] rfl ?_
    refine J_yes rfl ?_
    (repeat' (first | refine J_seq ?_ | refine J_skip ?_ | refine J_yes rfl ?_ | refine J_no rfl ?_))
    refine J_region ?_
    refine JL_all [] rfl ?_
    exact J_ret ⟨_, rfl, rfl⟩
  refine JL_set 37 (v' := .bool false) rfl (congrArg Value.bool (cdec_no h300)) ?_
  refine JL_run [2, 8] rfl ?_
  refine JL_all [2, 8] rfl ?_
  refine J_dec rfl (fun _ => ?_) (fun h3000 => J_skip ?_)
  · (repeat' (first | refine J_seq ?_ | refine J_skip ?_ | refine J_yes rfl ?_ | refine J_no rfl ?_))
    refine J_region ?_
    refine JL_all [] rfl ?_
    exact J_ret ⟨_, rfl, rfl⟩
  have hsz : s.length + note.length ≤ 3000 := by
    have h' : ¬ (3000 : Int) < IntKind.i64.wrap ((s.length : Int) + note.length) := h3000
    rw [w64 (by omega)] at h'
    omega
  (repeat' (first | refine J_seq ?_ | refine J_skip ?_ | refine J_yes rfl ?_ | refine J_no rfl ?_))
  refine J_region ?_
  refine JL_val [] (v := netV N A c) (OpV_blk (i := 0) 0 rfl rfl rfl rfl) rfl ?_
  refine JL_callR [] (print_fn V N hF A c b o hA) rfl rfl rfl rfl (by kernel_rfl) ⟨⟨1, _, by simp, rfl, shows_seg _ _ _, seen_seg⟩, ⟨2, by simp, rfl⟩, ⟨3, by simp, rfl⟩, ⟨4, by simp, rfl⟩, trivial⟩ (fun _ => rfl) ?_
  rintro v H' ⟨rfl, rfl⟩
  refine ⟨rfl, ?_⟩
  refine JL_all [] rfl ?_
  refine J_cut [(9, .int .i64 (if checkZ N = 0 then 0 else 1)), (8, str (if checkZ N = 0 then printL N else [])), (7, .bool true), (3, .pointer (some ⟨p3, 0, none⟩)), (1, str s), (2, str note)] ([blk p3 24 (netC N A c), .seg b o (arcs N.arcs)] ++ V.heap) ?_ ?_
  · refine J_seq ?_
    (repeat' (first | refine J_seq ?_ | refine J_skip ?_ | refine J_yes rfl ?_ | refine J_no rfl ?_))
    refine J_region ?_
    refine JL_run [] rfl ?_
    refine JL_val [] (v := netV N A c) (OpV_blk (i := 0) 0 rfl rfl rfl rfl) rfl ?_
    refine JL_callR [] (check_fn N hF A c b o hA) rfl rfl rfl rfl (by kernel_rfl) ⟨⟨1, _, by simp, rfl, shows_seg _ _ _, seen_seg⟩, trivial⟩ (fun _ => rfl) ?_
    rintro v H' ⟨rfl, rfl⟩
    refine ⟨rfl, ?_⟩
    refine JL_all [] rfl ?_
    by_cases hz : checkZ N = 0
    · rw [if_pos hz, if_pos hz]
      refine J_set 56 (v' := .bool false) rfl (by rw [hz, cdec_yes rfl]; rfl) ?_
      refine J_no rfl (J_skip ?_)
      exact ⟨[0, 1, 2, 3, 4], ⟨rfl, rfl, rfl, rfl, rfl, rfl, trivial⟩, by decide, rfl⟩
    · rw [if_neg hz, if_neg hz]
      refine J_set 56 (v' := .bool false) rfl (by rw [cdec_no (by decide), cdec_no hz]; rfl) ?_
      refine J_no rfl (J_skip ?_)
      exact ⟨[0, 1, 2, 3, 4], ⟨rfl, rfl, rfl, rfl, rfl, rfl, trivial⟩, by decide, rfl⟩
  refine J_cut [(1, str s)] V.heap ?_ ?_
  · by_cases hz : checkZ N = 0
    case neg =>
      rw [if_neg hz, if_neg hz]
      (repeat' (first | refine J_seq ?_ | refine J_skip ?_ | refine J_yes rfl ?_ | refine J_no rfl ?_))
      refine J_region ?_
      refine JL_all [] rfl ?_
      refine J_dec rfl (fun h => absurd h (by decide)) (fun _ => J_skip ?_)
      exact ⟨[2, 3, 4], ⟨rfl, trivial⟩, by decide, rfl⟩
    rw [if_pos hz, if_pos hz]
    have hR := checkZ_zero hz
    have hHl := head_len N hF
    have hAl := arcs_len N hF N.arcs fun a h => h
    have hPl : (printL N).length ≤ 21400 := by unfold printL; rw [List.length_append]; omega
    (repeat' (first | refine J_seq ?_ | refine J_skip ?_ | refine J_yes rfl ?_ | refine J_no rfl ?_))
    refine J_region ?_
    refine JL_all [] rfl ?_
    refine J_dec rfl (fun _ => ?_) (fun h => absurd rfl h)
    refine J_seq ?_
    (repeat' (first | refine J_seq ?_ | refine J_skip ?_ | refine J_yes rfl ?_ | refine J_no rfl ?_))
    refine J_region ?_
    refine JL_all [] rfl ?_
    (repeat' (first | refine J_seq ?_ | refine J_skip ?_ | refine J_yes rfl ?_ | refine J_no rfl ?_))
    refine J_block ?_
    refine J_loop (σ := Nat) (fun i => [(10, .int .i64 i), (2, str note), (8, str (printL N)), (3, .pointer (some ⟨p3, 0, none⟩)), (1, str s)]) (fun _ => [blk p3 24 (netC N A c), .seg b o (arcs N.arcs)] ++ V.heap) (fun i => i ≤ note.length ∧ ∀ j, j < i → note[j]? ≠ some 10) (fun i => note.length - i)
      0 [0, 1, 2, 3, 4] ⟨rfl, rfl, rfl, rfl, rfl, trivial⟩ (by decide) rfl ⟨Nat.zero_le _, fun j h => by omega⟩ ?_
    rintro i ⟨hi, hno⟩
    refine J_seq ?_
    (repeat' (first | refine J_seq ?_ | refine J_skip ?_ | refine J_yes rfl ?_ | refine J_no rfl ?_))
    refine J_region ?_
    refine JL_all [] rfl ?_
    refine J_dec rfl (fun hlt => J_skip ?_) (fun hge => J_exit ?_)
    · have hlt' : i < note.length := by
        have h' : (i : Int) < note.length := hlt
        omega
      obtain ⟨x, hx⟩ : ∃ x, note[i]? = some x := ⟨note[i], List.getElem?_eq_getElem hlt'⟩
      refine J_seq (J_block ?_)
      refine J_seq ?_
      (repeat' (first | refine J_seq ?_ | refine J_skip ?_ | refine J_yes rfl ?_ | refine J_no rfl ?_))
      refine J_region ?_
      refine JL_run [] rfl ?_
      refine JL_val [] (OpV_chr rfl rfl rfl rfl hx) rfl ?_
      refine JL_all [] rfl ?_
      refine J_dec rfl (fun h10 => ?_) (fun h10 => J_skip ?_)
      · (repeat' (first | refine J_seq ?_ | refine J_skip ?_ | refine J_yes rfl ?_ | refine J_no rfl ?_))
        refine J_region ?_
        refine JL_all [] rfl ?_
        exact J_ret ⟨_, rfl, rfl⟩
      · (repeat' (first | refine J_seq ?_ | refine J_skip ?_ | refine J_yes rfl ?_ | refine J_no rfl ?_))
        refine J_region ?_
        refine JL_all [] rfl ?_
        refine ⟨i + 1, [0, 1, 2, 3, 4], ⟨?_, rfl, rfl, rfl, rfl, trivial⟩, by decide, rfl, ⟨by omega, fun j hj h => ?_⟩, by omega⟩
        · show some (Value.int .i64 (IntKind.i64.wrap ((i : Int) + 1))) = _
          rw [w64 (by omega)]; rfl
        · by_cases e : j = i
          · subst e
            rw [hx] at h
            obtain rfl := Option.some.inj h
            exact h10 rfl
          · exact hno j (by omega) h
    have hil : i = note.length := by
      have h' : ¬ (i : Int) < note.length := hge
      omega
    have hnote : ∀ x ∈ note, x ≠ 10 := by
      rintro x hx rfl
      obtain ⟨j, hj, e⟩ := List.getElem_of_mem hx
      exact hno j (by omega) (by rw [List.getElem?_eq_getElem hj, e])
    have L1 := lines_fn V (printL N) (by omega)
    rw [lines_print hR] at L1
    have hTl : (netT N).length ≤ 303 := by
      unfold netT
      simp only [List.length_cons, List.length_map]
      omega
    have hTx : ∀ x ∈ netT N, x.length ≤ 21400 := fun x hx => by
      rw [← lines_print hR] at hx
      have := lines_each _ x hx
      omega
    have halen := all_len note 21400 (netT N) hTx
    have halen2 : (netT N).length * (21400 + 7 + note.length) ≤ 303 * (21400 + 7 + 3000) := Nat.mul_le_mul hTl (by omega)
    (repeat' (first | refine J_seq ?_ | refine J_skip ?_ | refine J_yes rfl ?_ | refine J_no rfl ?_))
    refine J_region ?_
    refine JL_run [] rfl ?_
    refine JL_callR [] L1 rfl rfl rfl rfl (by kernel_rfl) ⟨⟨2, by simp, rfl⟩, ⟨3, by simp, rfl⟩, ⟨4, by simp, rfl⟩, trivial⟩ (fun _ => rfl) ?_
    rintro v H' ⟨Al, nl, hnl, rfl, rfl⟩
    refine ⟨rfl, ?_⟩
    subst hnl
    refine JL_all [] rfl ?_
    (repeat' (first | refine J_seq ?_ | refine J_skip ?_ | refine J_yes rfl ?_ | refine J_no rfl ?_))
    refine J_region ?_
    refine JL_run [] rfl ?_
    refine JL_val [] (OpV_cat (l := [99, 32]) rfl rfl rfl (by simp; omega)) rfl ?_
    refine JL_val [] (OpV_cat (m := [10]) rfl rfl rfl (by simp; omega)) rfl ?_
    refine JL_all [] rfl ?_
    (repeat' (first | refine J_seq ?_ | refine J_skip ?_ | refine J_yes rfl ?_ | refine J_no rfl ?_))
    refine J_region ?_
    refine JL_all [] rfl ?_
    (repeat' (first | refine J_seq ?_ | refine J_skip ?_ | refine J_yes rfl ?_ | refine J_no rfl ?_))
    refine J_block ?_
    refine J_loop (σ := Nat) (fun i => [(13, .int .i64 i), (12, str (allL note ((netT N).take i))), (11, .slice Al (netT N).length (netT N).length), (8, str (printL N)), (2, str note), (3, .pointer (some ⟨p3, 0, none⟩)), (1, str s)])
      (fun _ => [.own (.slice Al (netT N).length (netT N).length) 9 1 (netT N).length (strs (netT N)), blk p3 24 (netC N A c), .seg b o (arcs N.arcs)] ++ V.heap) (fun i => i ≤ (netT N).length) (fun i => (netT N).length - i)
      0 [0, 1, 2, 3, 4, 5] ⟨rfl, (show some (str _) = some (str _) by simp [allL]), rfl, rfl, rfl, rfl, rfl, trivial⟩ (by decide) rfl (Nat.zero_le _) ?_
    clear hi hno hil
    intro i hi
    refine J_seq ?_
    (repeat' (first | refine J_seq ?_ | refine J_skip ?_ | refine J_yes rfl ?_ | refine J_no rfl ?_))
    refine J_region ?_
    refine JL_all [] rfl ?_
    refine J_dec rfl (fun hlt => J_skip ?_) (fun hge => J_exit ?_)
    · have hlt' : i < (netT N).length := by omega
      obtain ⟨x, hx⟩ : ∃ x, (netT N)[i]? = some x := ⟨(netT N)[i], List.getElem?_eq_getElem hlt'⟩
      have hxl := hTx x (List.mem_of_getElem? hx)
      have hal := all_len note 21400 ((netT N).take i) (fun y hy => hTx y (List.mem_of_mem_take hy))
      have hal2 : ((netT N).take i).length * (21400 + 7 + note.length) ≤ 303 * (21400 + 7 + 3000) := Nat.mul_le_mul (by rw [List.length_take]; omega) (by omega)
      refine J_know (own_is 0 rfl) (fun ho => ?_)
      obtain ⟨gl, rfl⟩ := ho.2.2.1 (by omega)
      refine J_seq (J_block ?_)
      (repeat' (first | refine J_seq ?_ | refine J_skip ?_ | refine J_yes rfl ?_ | refine J_no rfl ?_))
      refine J_region ?_
      refine JL_run [] rfl ?_
      refine JL_val [] (OpV_cat (m := [32]) rfl rfl rfl (by simp only [List.length_append, List.length_cons, List.length_nil]; omega)) rfl ?_
      refine JL_run [] rfl ?_
      refine JL_val [] (idx1z rfl rfl rfl rfl rfl hlt') rfl ?_
      refine JL_val [] (OpV_own 0 rfl rfl rfl (readT_str hx)) rfl ?_
      refine JL_val [] (OpV_cat rfl rfl rfl (by simp only [List.length_append, List.length_cons, List.length_nil]; omega)) rfl ?_
      refine JL_val [] (OpV_cat (m := [9, 10, 10, 99, 32]) rfl rfl rfl (by simp only [List.length_append, List.length_cons, List.length_nil]; omega)) rfl ?_
      refine JL_run [] rfl ?_
      refine JL_val [] (OpV_cat rfl rfl rfl (by simp only [List.length_append, List.length_cons, List.length_nil]; omega)) rfl ?_
      refine JL_val [] (OpV_cat (m := [10]) rfl rfl rfl (by simp only [List.length_append, List.length_cons, List.length_nil]; omega)) rfl ?_
      refine JL_all [] rfl ?_
      (repeat' (first | refine J_seq ?_ | refine J_skip ?_ | refine J_yes rfl ?_ | refine J_no rfl ?_))
      refine J_region ?_
      refine JL_all [] rfl ?_
      refine ⟨i + 1, [0, 1, 2, 3, 4, 5], ⟨?_, ?_, rfl, rfl, rfl, rfl, rfl, trivial⟩, by decide, rfl, by omega, by omega⟩
      · show some (Value.int .i64 (IntKind.i64.wrap ((i : Int) + 1))) = _
        rw [w64 (by omega)]; rfl
      · refine congrArg some (congrArg str ?_)
        rw [List.take_add_one, hx]
        exact (all_next note _ x).symm
    obtain rfl : i = (netT N).length := by omega
    rw [List.take_length]
    have T1 := parse_fn V (printL N) (by omega)
    rw [parse_print hR] at T1
    have T2 := parse_fn V (allL note (netT N)) (by omega)
    rw [parse_all hR hnote] at T2
    (repeat' (first | refine J_seq ?_ | refine J_skip ?_ | refine J_yes rfl ?_ | refine J_no rfl ?_))
    refine J_region ?_
    refine JL_run [] rfl ?_
    refine JL_callR [] T1 rfl rfl rfl rfl (by kernel_rfl) ⟨⟨3, by simp, rfl⟩, ⟨4, by simp, rfl⟩, ⟨5, by simp, rfl⟩, trivial⟩ (fun _ => rfl) ?_
    rintro v H' ⟨A1, c1, rfl, rfl⟩
    refine ⟨rfl, ?_⟩
    refine JL_run [] rfl ?_
    refine JL_alloc rfl rfl rfl (fun _ => rfl) fun p14 => ?_
    refine JL_store 0 rfl rfl rfl rfl rfl [] rfl ?_
    refine JL_all [] rfl ?_
    (repeat' (first | refine J_seq ?_ | refine J_skip ?_ | refine J_yes rfl ?_ | refine J_no rfl ?_))
    refine J_region ?_
    refine JL_run [] rfl ?_
    refine JL_callR [] T2 rfl rfl rfl rfl (by kernel_rfl) ⟨⟨5, by simp, rfl⟩, ⟨6, by simp, rfl⟩, ⟨7, by simp, rfl⟩, trivial⟩ (fun _ => rfl) ?_
    rintro v H' ⟨A2, c2, rfl, rfl⟩
    refine ⟨rfl, ?_⟩
    refine JL_run [] rfl ?_
    refine JL_alloc rfl rfl rfl (fun _ => rfl) fun p17 => ?_
    refine JL_store 0 rfl rfl rfl rfl rfl [] rfl ?_
    refine JL_all [] rfl ?_
    refine J_know (own_is 1 rfl) (fun ho2 => ?_)
    refine J_know (own_is 3 rfl) (fun ho1 => ?_)
    obtain ⟨g1, hg1⟩ := arcs_at (l := _) ho1
    obtain ⟨g2, hg2⟩ := arcs_at (l := _) ho2
    have hg1' : arcs N.arcs ≠ [] → A1 = some ⟨g1, 0, none⟩ := fun h => hg1 (by rintro e; rw [e] at h; exact h rfl)
    have hg2' : arcs N.arcs ≠ [] → A2 = some ⟨g2, 0, none⟩ := fun h => hg2 (by rintro e; rw [e] at h; exact h rfl)
    (repeat' (first | refine J_seq ?_ | refine J_skip ?_ | refine J_yes rfl ?_ | refine J_no rfl ?_))
    refine J_region ?_
    refine JL_run [] rfl ?_
    refine JL_set 105 (v' := .bool false) rfl (congrArg Value.bool (cdec_no (by simp))) ?_
    refine JL_run [2] rfl ?_
    refine JL_set 109 (v' := .bool false) rfl (congrArg Value.bool (cdec_no (by simp))) ?_
    refine JL_run [2, 6] rfl ?_
    refine JL_val [2, 6] (v := netV N A1 c1) (OpV_blk (i := 0) 2 rfl rfl rfl rfl) rfl ?_
    refine JL_val [2, 6] (v := netV N A c) (OpV_blk (i := 0) 5 rfl rfl rfl rfl) rfl ?_
    refine JL_callR [2, 6] (nsame_fn N (by omega) A1 c1 g1 0 hg1 A c b o hA) rfl rfl rfl rfl (by kernel_rfl) ⟨⟨3, _, by simp, rfl, shows_ownS hg1', seen_ownS hg1'⟩, ⟨6, _, by simp, rfl, shows_seg _ _ _, seen_seg⟩, trivial⟩ (fun _ => rfl) ?_
    rintro v H' ⟨rfl, rfl⟩
    refine ⟨rfl, ?_⟩
    refine JL_run [2, 6] rfl ?_
    refine JL_set 115 (v' := .bool false) rfl rfl ?_
    refine JL_run [2, 6, 12] rfl ?_
    refine JL_set 119 (v' := .bool false) rfl (congrArg Value.bool (cdec_no (by simp))) ?_
    refine JL_run [2, 6, 12, 16] rfl ?_
    refine JL_set 123 (v' := .bool false) rfl (congrArg Value.bool (cdec_no (by simp))) ?_
    refine JL_run [2, 6, 12, 16, 20] rfl ?_
    refine JL_val [2, 6, 12, 16, 20] (v := netV N A2 c2) (OpV_blk (i := 0) 0 rfl rfl rfl rfl) rfl ?_
    refine JL_val [2, 6, 12, 16, 20] (v := netV N A c) (OpV_blk (i := 0) 5 rfl rfl rfl rfl) rfl ?_
    refine JL_callR [2, 6, 12, 16, 20] (nsame_fn N (by omega) A2 c2 g2 0 hg2 A c b o hA) rfl rfl rfl rfl (by kernel_rfl) ⟨⟨1, _, by simp, rfl, shows_ownS hg2', seen_ownS hg2'⟩, ⟨6, _, by simp, rfl, shows_seg _ _ _, seen_seg⟩, trivial⟩ (fun _ => rfl) ?_
    rintro v H' ⟨rfl, rfl⟩
    refine ⟨rfl, ?_⟩
    refine JL_all [2, 6, 12, 16, 20] rfl ?_
    refine J_no rfl (J_skip ?_)
    exact ⟨[7, 8, 9], ⟨rfl, trivial⟩, by decide, rfl⟩
  have T := parse_fn V s (by omega)
  have hpe := parse_err (s := s)
  have hpr := parse_right (s := s)
  have hll := lines_le s
  generalize parseL s = P at T hpe hpr
  obtain ⟨G, ln, e⟩ := P
  (repeat' (first | refine J_seq ?_ | refine J_skip ?_ | refine J_yes rfl ?_ | refine J_no rfl ?_))
  refine J_region ?_
  refine JL_run [] rfl ?_
  refine JL_callR [] T rfl rfl rfl rfl (by kernel_rfl) ⟨⟨0, by simp, rfl⟩, ⟨1, by simp, rfl⟩, ⟨2, by simp, rfl⟩, trivial⟩ (fun _ => rfl) ?_
  rintro v H' ⟨A1, c1, rfl, rfl⟩
  refine ⟨rfl, ?_⟩
  refine JL_run [] rfl ?_
  refine JL_alloc rfl rfl rfl (fun _ => rfl) fun p20 => ?_
  refine JL_store 0 rfl rfl rfl rfl rfl [] rfl ?_
  refine JL_all [] rfl ?_
  refine J_seq ?_
  (repeat' (first | refine J_seq ?_ | refine J_skip ?_ | refine J_yes rfl ?_ | refine J_no rfl ?_))
  refine J_region ?_
  refine JL_all [] rfl ?_
  refine J_dec rfl (fun he => ?_) (fun he => J_skip ?_)
  · obtain ⟨h1, h2, h3⟩ := hpe he
    simp only at h1 h2 h3
    subst h1
    (repeat' (first | refine J_seq ?_ | refine J_skip ?_ | refine J_yes rfl ?_ | refine J_no rfl ?_))
    refine J_region ?_
    refine JL_run [] rfl ?_
    refine JL_set 139 (v' := .bool true) rfl (congrArg Value.bool (cdec_yes (by simp only; omega))) ?_
    refine JL_run [2] rfl ?_
    refine JL_callR [2] (lines_fn V s (by omega)) rfl rfl rfl rfl (by kernel_rfl) ⟨⟨2, by simp, rfl⟩, ⟨3, by simp, rfl⟩, ⟨4, by simp, rfl⟩, trivial⟩ (fun _ => rfl) ?_
    rintro v H' ⟨Al, nl, hnl, rfl, rfl⟩
    refine ⟨rfl, ?_⟩
    refine JL_run [2] rfl ?_
    refine JL_set 147 (v' := .bool true) rfl (congrArg Value.bool (cdec_yes (by rw [w64 (by omega)]; simp only; omega))) ?_
    refine JL_run [2, 10] rfl ?_
    refine JL_val [2, 10] (OpV_blk (i := 3) (v := .slice A1 0 c1) 1 rfl rfl rfl rfl) rfl ?_
    refine JL_run [2, 10] rfl ?_
    refine JL_set 153 (v' := .bool true) rfl (congrArg Value.bool (cdec_yes rfl)) ?_
    refine JL_run [2, 10, 16] rfl ?_
    refine JL_val [2, 10, 16] (OpV_blk (i := 0) (v := .int .i64 0) 1 rfl rfl rfl rfl) rfl ?_
    refine JL_all [2, 10, 16] rfl ?_
    exact J_drop [] (by decide) rfl (J_ret ⟨_, rfl, congrArg Value.bool (cdec_yes rfl)⟩)
  have he0 : e = 0 := Classical.not_not.1 he
  obtain ⟨hG, hln⟩ := hpr he0
  simp only at hG hln
  subst hln he0
  have hGF := hG.fits4
  have hGz := hG.check
  refine J_know (own_is 1 rfl) (fun ho1 => ?_)
  obtain ⟨g1, hg1⟩ := arcs_at (l := _) ho1
  have hg1' : arcs G.arcs ≠ [] → A1 = some ⟨g1, 0, none⟩ := fun h => hg1 (by rintro e; rw [e] at h; exact h rfl)
  have P1 := print_fn V G hGF A1 c1 g1 0 hg1
  have hHl := head_len G hGF
  have hAl := arcs_len G hGF G.arcs fun a h => h
  have hGl := hG.len
  have hPl : (printL G).length ≤ 200000 := by unfold printL; rw [List.length_append]; omega
  have T2 := parse_fn V (printL G) (by omega)
  rw [parse_print hG] at T2
  unfold printV at P1
  rw [if_pos hGz, if_pos hGz] at P1
  (repeat' (first | refine J_seq ?_ | refine J_skip ?_ | refine J_yes rfl ?_ | refine J_no rfl ?_))
  refine J_region ?_
  refine JL_run [] rfl ?_
  refine JL_val [] (v := netV G A1 c1) (OpV_blk (i := 0) 0 rfl rfl rfl rfl) rfl ?_
  refine JL_callR [] P1 rfl rfl rfl rfl (by kernel_rfl) ⟨⟨1, _, by simp, rfl, shows_ownS hg1', seen_ownS hg1'⟩, ⟨2, by simp, rfl⟩, ⟨3, by simp, rfl⟩, ⟨4, by simp, rfl⟩, trivial⟩ (fun _ => rfl) ?_
  rintro v H' ⟨rfl, rfl⟩
  refine ⟨rfl, ?_⟩
  refine JL_all [] rfl ?_
  (repeat' (first | refine J_seq ?_ | refine J_skip ?_ | refine J_yes rfl ?_ | refine J_no rfl ?_))
  refine J_region ?_
  refine JL_run [] rfl ?_
  refine JL_callR [] T2 rfl rfl rfl rfl (by kernel_rfl) ⟨⟨2, by simp, rfl⟩, ⟨3, by simp, rfl⟩, ⟨4, by simp, rfl⟩, trivial⟩ (fun _ => rfl) ?_
  rintro v H' ⟨A2, c2, rfl, rfl⟩
  refine ⟨rfl, ?_⟩
  refine JL_run [] rfl ?_
  refine JL_alloc rfl rfl rfl (fun _ => rfl) fun p25 => ?_
  refine JL_store 0 rfl rfl rfl rfl rfl [] rfl ?_
  refine JL_all [] rfl ?_
  refine J_know (own_is 1 rfl) (fun ho2 => ?_)
  obtain ⟨g2, hg2⟩ := arcs_at (l := _) ho2
  have hg2' : arcs G.arcs ≠ [] → A2 = some ⟨g2, 0, none⟩ := fun h => hg2 (by rintro e; rw [e] at h; exact h rfl)
  (repeat' (first | refine J_seq ?_ | refine J_skip ?_ | refine J_yes rfl ?_ | refine J_no rfl ?_))
  refine J_region ?_
  refine JL_run [] rfl ?_
  refine JL_val [] (v := netV G A1 c1) (OpV_blk (i := 0) 2 rfl rfl rfl rfl) rfl ?_
  refine JL_callR [] (check_fn G hGF A1 c1 g1 0 hg1) rfl rfl rfl rfl (by kernel_rfl) ⟨⟨3, _, by simp, rfl, shows_ownS hg1', seen_ownS hg1'⟩, trivial⟩ (fun _ => rfl) ?_
  rintro v H' ⟨rfl, rfl⟩
  refine ⟨rfl, ?_⟩
  refine JL_run [] rfl ?_
  refine JL_set 172 (v' := .bool true) rfl (congrArg Value.bool (cdec_yes hGz)) ?_
  refine JL_run [3] rfl ?_
  refine JL_set 176 (v' := .bool true) rfl (congrArg Value.bool (cdec_yes rfl)) ?_
  refine JL_run [3, 7] rfl ?_
  refine JL_set 180 (v' := .bool true) rfl (congrArg Value.bool (cdec_yes rfl)) ?_
  refine JL_run [3, 7, 11] rfl ?_
  refine JL_val [3, 7, 11] (v := netV G A1 c1) (OpV_blk (i := 0) 2 rfl rfl rfl rfl) rfl ?_
  refine JL_val [3, 7, 11] (v := netV G A2 c2) (OpV_blk (i := 0) 0 rfl rfl rfl rfl) rfl ?_
  refine JL_callR [3, 7, 11] (nsame_fn G (by omega) A1 c1 g1 0 hg1 A2 c2 g2 0 hg2) rfl rfl rfl rfl (by kernel_rfl) ⟨⟨3, _, by simp, rfl, shows_ownS hg1', seen_ownS hg1'⟩, ⟨1, _, by simp, rfl, shows_ownS hg2', seen_ownS hg2'⟩, trivial⟩ (fun _ => rfl) ?_
  rintro v H' ⟨rfl, rfl⟩
  refine ⟨rfl, ?_⟩
  refine JL_run [3, 7, 11] rfl ?_
  refine JL_set 185 (v' := .bool true) rfl rfl ?_
  refine JL_all [3, 7, 11, 16] rfl ?_
  exact J_drop [] (by decide) rfl (J_ret ⟨_, rfl, congrArg Value.bool (cdec_yes rfl)⟩)
theorem dimacsBack_fn (V : LibV) (nd : Int) (hnd : inB nd) (sr : Int) (hsr : inB sr) (sk : Int) (hsk : inB sk) (A : Option Addr) (c b o : Nat) (l : List Arc) (hA : l ≠ [] → A = some ⟨b, o, none⟩) (hl : ∀ x ∈ l, inB x.fr ∧ inB x.to ∧ inB x.cap) (hs : l.length * 24 ≤ 140737488351232)
    (s : ByteArray) (ws : s.size ≤ 140737488351232) (t : ByteArray) (wt : t.size ≤ 140737488351232) :
    Fn 5 [.agg #[.int .i64 nd, .int .i64 sr, .int .i64 sk, .slice A l.length c], .string s, .string t] [] ([.seg b o (arcs l)] ++ V.heap) fun v _ => v = .bool true := by
  have := dimacsBackN_fn V ⟨nd, sr, sk, l⟩ ⟨hnd, hsr, hsk, hs, hl⟩ A c b o hA s.data.toList t.data.toList (by simpa using ws) (by simpa using wt)
  exact this
end Go.Proofs.YtkiadfpkgpgbiaaGreatDoor
