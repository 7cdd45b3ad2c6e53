
/- DinicGrid: through nodes beside one another, each parted in two, goes as much as the arcs between let through. -/
import Derived.Test.YtcgcimnjknadjaaSh12N
import Derived.Test.YtcgcimnjknadjaaMade12
import Derived.Test.YtcgcimnjknadjaaSame5
import Derived.Test.YtcgcimnjknadjaaGridU
import Derived.Test.YtcgcimnjknadjaaMaxG
set_option linter.unusedVariables false
set_option linter.unusedSimpArgs false
namespace Go.Proofs.Ytcgcimnjknadjaa
open Go.RowKit
/-- The network out of raw numbers. -/
def capsG (l : List Int) : List (Int × Nat) := l.map fun x => (pickZ x 30, (pickZ x l.length).toNat)
theorem capS_app (c : Int × Nat) (cs : List (Int × Nat)) : capS (cs ++ [c]) = capS cs + c.1 := by simp [capS]
theorem capS_le : ∀ (cs : List (Int × Nat)), (∀ c ∈ cs, 0 ≤ c.1 ∧ c.1 ≤ 29) → 0 ≤ capS cs ∧ capS cs ≤ 29 * cs.length
  | [], _ => ⟨Int.le_refl _, Int.le_refl _⟩
  | c :: cs, h => by
    have ih := capS_le cs fun d hd => h d (by simp [hd])
    have h1 := h c (by simp)
    simp only [capS] at ih
    simp only [capS, List.map_cons, List.sum_cons, List.length_cons]
    omega
set_option maxHeartbeats 4000000 in
theorem dinicGrid_fn (A : Option Addr) (c b o : Nat) (l : List Int) (hA : l ≠ [] → A = some ⟨b, o, none⟩) (hl : ∀ x ∈ l, inB x) (hs : l.length * 8 ≤ 140737488351232) (tree : Bool) :
    Fn 11 [.slice A l.length c, .bool tree] [] [.seg b o (ints l)] fun v _ => v = .bool true := by
  refine Fn_of Try.func11 rfl rfl fun w0 => ?_
  (repeat' (first | refine J_seq ?_ | refine J_skip ?_ | refine J_yes rfl ?_ | refine J_no rfl ?_))
  refine J_region ?_
  refine JL_all [] rfl ?_
  (repeat' (first | refine J_seq ?_ | refine J_skip ?_ | refine J_yes rfl ?_ | refine J_no rfl ?_))
  refine J_region ?_
  refine JL_callR [] (shown12_fn) rfl rfl rfl rfl (by kernel_rfl) trivial (fun _ => rfl) ?_
  rintro v H' ⟨rfl, rfl⟩
  refine ⟨rfl, ?_⟩
  refine JL_all [] rfl ?_
  (repeat' (first | refine J_seq ?_ | refine J_skip ?_ | refine J_yes rfl ?_ | refine J_no rfl ?_))
  refine J_region ?_
  refine JL_evO (gs := [999]) rfl ?_
  refine JL_evO (gs := [999]) rfl ?_
  refine JL_evO (gs := [999]) rfl ?_
  refine JL_set 18 (v' := .bool false) rfl rfl ?_
  refine JL_all [2] rfl ?_
  (repeat' (first | refine J_seq ?_ | refine J_skip ?_ | refine J_yes rfl ?_ | refine J_no rfl ?_))
  refine J_dec rfl (fun _ => ?_) (fun h60 => J_skip ?_)
  · (repeat' (first | refine J_seq ?_ | refine J_skip ?_ | refine J_yes rfl ?_ | refine J_no rfl ?_))
    refine J_region ?_
    refine JL_all [] rfl ?_
    exact J_ret ⟨_, rfl, rfl⟩
  have hlen : l.length ≤ 40 := by omega
  (repeat' (first | refine J_seq ?_ | refine J_skip ?_ | refine J_yes rfl ?_ | refine J_no rfl ?_))
  refine J_region ?_
  refine JL_evO (gs := [999]) rfl ?_
  refine JL_evO (gs := [999]) rfl ?_
  refine JL_evO (gs := [999]) rfl ?_
  refine JL_set 26 (v' := .int .i64 ((2 * l.length : Nat) : Int)) rfl (congrArg (Value.int .i64) ((w64 (n := 2 * (l.length : Int)) (by omega)).trans (by omega))) ?_
  refine JL_evO (gs := [999]) rfl ?_
  refine JL_set 27 (v' := .int .i64 ((2 + 2 * l.length : Nat) : Int)) rfl (congrArg (Value.int .i64) ((w64 (n := 2 + ((2 * l.length : Nat) : Int)) (by omega)).trans (by omega))) ?_
  refine JL_val [] (OpV_build rfl rfl rfl rfl rfl rfl) rfl ?_
  refine JL_alloc rfl rfl rfl (fun _ => rfl) fun pn => ?_
  refine JL_store 0 rfl rfl rfl rfl rfl [] rfl ?_
  refine JL_all [] rfl ?_
  (repeat' (first | refine J_seq ?_ | refine J_skip ?_ | refine J_yes rfl ?_ | refine J_no rfl ?_))
  refine J_region ?_
  refine JL_all [] rfl ?_
  (repeat' (first | refine J_seq ?_ | refine J_skip ?_ | refine J_yes rfl ?_ | refine J_no rfl ?_))
  refine J_region ?_
  refine JL_all [] rfl ?_
  (repeat' (first | refine J_seq ?_ | refine J_skip ?_ | refine J_yes rfl ?_ | refine J_no rfl ?_))
  have hcl : (capsG l).length = l.length := by simp [capsG]
  have hcr : ∀ c ∈ capsG l, (0 ≤ c.1 ∧ c.1 ≤ 29) ∧ c.2 < (capsG l).length := by
    intro c hc
    obtain ⟨x, hx, rfl⟩ := List.mem_map.1 hc
    have h0 : 0 < l.length := List.length_pos_of_mem hx
    have h1 := pickZ_in (c := x) (n := 30) (by decide)
    have h2 := pickZ_in (c := x) (n := (l.length : Int)) (by omega)
    rw [hcl]
    show (0 ≤ pickZ x 30 ∧ pickZ x 30 ≤ 29) ∧ (pickZ x l.length).toNat < l.length
    omega
  refine J_block ?_
  refine J_addnil 29 3 ?_
  refine J_loopF (σ := Nat × Option Addr × Nat) (fun t => [(8, .int .i64 (t.1 : Int)), (7, .int .i64 (capS ((capsG l).take t.1))), (6, .pointer (some ⟨pn, 0, none⟩)), (0, .slice A l.length c), (1, .bool tree)])
    (fun t => [blk pn 26 [.int .i64 ((2 + 2 * l.length : Nat) : Int), .int .i64 2, .int .i64 1, .slice t.2.1 (4 * t.1) t.2.2], .own (.slice t.2.1 (4 * t.1) t.2.2) 29 3 (4 * t.1) (arcs (gridL 0 ((capsG l).take t.1))), .seg b o (ints l)])
    (fun t => t.1 ≤ l.length) (fun t => l.length - t.1) (0, none, 0) ⟨rfl, rfl, rfl, rfl, rfl, trivial⟩ ?_ (Nat.zero_le _) ?_
  · exact Fit.re (A := [.own (.slice none 0 0) 29 3 0 [], blk pn 26 [.int .i64 ((2 + 2 * l.length : Nat) : Int), .int .i64 2, .int .i64 1, .slice none 0 0], .seg b o (ints l)]) (R := []) [1, 0, 2] rfl (by decide)
  rintro ⟨k, A1, c1⟩ hk
  simp only at hk ⊢
  (repeat' (first | refine J_seq ?_ | refine J_skip ?_ | refine J_yes rfl ?_ | refine J_no rfl ?_))
  refine J_region ?_
  refine JL_all [] rfl ?_
  (repeat' (first | refine J_seq ?_ | refine J_skip ?_ | refine J_yes rfl ?_ | refine J_no rfl ?_))
  refine J_dec rfl (fun hlt => J_skip ?_) (fun hge => ?_)
  · have hkl : k < l.length := by omega
    obtain rfl := hA (by rintro rfl; simp at hkl)
    obtain ⟨x, hx⟩ : ∃ x, l[k]? = some x := ⟨l[k], List.getElem?_eq_getElem hkl⟩
    have hxb := hl x (List.mem_of_getElem? hx)
    have htk : (capsG l).take (k + 1) = (capsG l).take k ++ [(pickZ x 30, (pickZ x l.length).toNat)] := by
      rw [List.take_add_one]
      unfold capsG
      rw [List.getElem?_map, hx]; rfl
    have htl : ((capsG l).take k).length = k := by rw [List.length_take]; omega
    have b1 := pickZ_in (c := x) (n := 30) (by decide)
    have b2 := pickZ_in (c := x) (n := (l.length : Int)) (by omega)
    have hsm := capS_le ((capsG l).take k) fun c hc => (hcr c (List.mem_of_mem_take hc)).1
    rw [htl] at hsm
    refine J_seq (J_block ?_)
    (repeat' (first | refine J_seq ?_ | refine J_skip ?_ | refine J_yes rfl ?_ | refine J_no rfl ?_))
    refine J_region ?_
    refine JL_evO (gs := [999]) rfl ?_
    refine JL_evO (gs := [999]) rfl ?_
    refine JL_val [] (idx1 rfl rfl rfl rfl rfl hkl) rfl ?_
    refine JL_val [] (ldseg 2 rfl rfl rfl rfl (ints_get hx)) rfl ?_
    refine JL_callR [] (pick12_fn hxb (by decide : (0:Int) < 30)) rfl rfl rfl rfl (by kernel_rfl) trivial (fun _ => rfl) ?_
    rintro v H' ⟨rfl, rfl⟩
    refine ⟨rfl, ?_⟩
    refine JL_all [] rfl ?_
    (repeat' (first | refine J_seq ?_ | refine J_skip ?_ | refine J_yes rfl ?_ | refine J_no rfl ?_))
    refine J_region ?_
    refine JL_evO (gs := [999]) rfl ?_
    refine JL_evO (gs := [999]) rfl ?_
    refine JL_evO (gs := [999]) rfl ?_
    refine JL_set 42 (v' := .int .i64 (capS ((capsG l).take (k + 1)))) rfl (by
      rw [htk, capS_app]
      exact congrArg (Value.int .i64) (w64 (n := capS ((capsG l).take k) + pickZ x 30) (by omega))) ?_
    refine JL_all [] rfl ?_
    (repeat' (first | refine J_seq ?_ | refine J_skip ?_ | refine J_yes rfl ?_ | refine J_no rfl ?_))
    refine J_region ?_
    refine JL_evO (gs := [999]) rfl ?_
    refine JL_val [] (v := .slice A1 (4 * k) c1) (OpV_blk 0 rfl rfl rfl rfl) rfl ?_
    refine JL_evO (gs := [999]) rfl ?_
    refine JL_evO (gs := [999]) rfl ?_
    refine JL_set 46 (v' := .int .i64 ((2 * k : Nat) : Int)) rfl (congrArg (Value.int .i64) ((w64 (n := 2 * (k : Int)) (by omega)).trans (by omega))) ?_
    refine JL_evO (gs := [999]) rfl ?_
    refine JL_set 47 (v' := .int .i64 ((2 * (0 + k) + 3 : Nat) : Int)) rfl (congrArg (Value.int .i64) ((w64 (n := 3 + ((2 * k : Nat) : Int)) (by omega)).trans (by omega))) ?_
    refine JL_val [] (OpV_build rfl rfl rfl rfl rfl rfl) rfl ?_
    refine JL_lit rfl rfl rfl rfl rfl rfl rfl (fun _ => rfl) fun g2 => ?_
    refine JL_appendS (n := 4 * k) (m := 1) (off := 0) (news := arcs [⟨2, ((2 * (0 + k) + 3 : Nat) : Int), 100⟩]) 2 0 rfl rfl rfl rfl rfl rfl (by decide) rfl rfl (shows_blk g2 _ _ (0, 0)) (fun _ => rfl) rfl rfl (by omega) (by omega) (fun _ _ => rfl) fun A2 c2 => ?_
    refine JL_evO (gs := [999]) rfl ?_
    refine JL_store 1 rfl rfl rfl rfl rfl [] rfl ?_
    refine JL_nil ?_
    (repeat' (first | refine J_seq ?_ | refine J_skip ?_ | refine J_yes rfl ?_ | refine J_no rfl ?_))
    refine J_region ?_
    refine JL_evO (gs := [999]) rfl ?_
    refine JL_val [] (v := .slice A2 (4 * k + 1) c2) (OpV_blk 1 rfl rfl rfl rfl) rfl ?_
    refine JL_evO (gs := [999]) rfl ?_
    refine JL_evO (gs := [999]) rfl ?_
    refine JL_set 55 (v' := .int .i64 ((2 * k : Nat) : Int)) rfl (congrArg (Value.int .i64) ((w64 (n := 2 * (k : Int)) (by omega)).trans (by omega))) ?_
    refine JL_evO (gs := [999]) rfl ?_
    refine JL_set 56 (v' := .int .i64 ((2 * (0 + k) + 3 : Nat) : Int)) rfl (congrArg (Value.int .i64) ((w64 (n := 3 + ((2 * k : Nat) : Int)) (by omega)).trans (by omega))) ?_
    refine JL_evO (gs := [999]) rfl ?_
    refine JL_evO (gs := [999]) rfl ?_
    refine JL_set 58 (v' := .int .i64 ((2 * k : Nat) : Int)) rfl (congrArg (Value.int .i64) ((w64 (n := 2 * (k : Int)) (by omega)).trans (by omega))) ?_
    refine JL_evO (gs := [999]) rfl ?_
    refine JL_set 59 (v' := .int .i64 ((2 * (0 + k) + 4 : Nat) : Int)) rfl (congrArg (Value.int .i64) ((w64 (n := 4 + ((2 * k : Nat) : Int)) (by omega)).trans (by omega))) ?_
    refine JL_evO (gs := [999]) rfl ?_
    refine JL_val [] (OpV_build rfl rfl rfl rfl rfl rfl) rfl ?_
    refine JL_lit rfl rfl rfl rfl rfl rfl rfl (fun _ => rfl) fun g3 => ?_
    refine JL_appendS (n := 4 * k + 1) (m := 1) (off := 0) (news := arcs [⟨((2 * (0 + k) + 3 : Nat) : Int), ((2 * (0 + k) + 4 : Nat) : Int), pickZ x 30⟩]) 3 0 rfl rfl rfl rfl rfl rfl (by decide) rfl rfl (shows_blk g3 _ _ (0, 0)) (fun _ => rfl) rfl rfl (by omega) (by omega) (fun _ _ => rfl) fun A3 c3 => ?_
    refine JL_evO (gs := [999]) rfl ?_
    refine JL_store 2 rfl rfl rfl rfl rfl [] rfl ?_
    refine JL_nil ?_
    (repeat' (first | refine J_seq ?_ | refine J_skip ?_ | refine J_yes rfl ?_ | refine J_no rfl ?_))
    refine J_region ?_
    refine JL_evO (gs := [999]) rfl ?_
    refine JL_val [] (v := .slice A3 (4 * k + 2) c3) (OpV_blk 2 rfl rfl rfl rfl) rfl ?_
    refine JL_evO (gs := [999]) rfl ?_
    refine JL_evO (gs := [999]) rfl ?_
    refine JL_set 68 (v' := .int .i64 ((2 * k : Nat) : Int)) rfl (congrArg (Value.int .i64) ((w64 (n := 2 * (k : Int)) (by omega)).trans (by omega))) ?_
    refine JL_evO (gs := [999]) rfl ?_
    refine JL_set 69 (v' := .int .i64 ((2 * (0 + k) + 4 : Nat) : Int)) rfl (congrArg (Value.int .i64) ((w64 (n := 4 + ((2 * k : Nat) : Int)) (by omega)).trans (by omega))) ?_
    refine JL_val [] (OpV_build rfl rfl rfl rfl rfl rfl) rfl ?_
    refine JL_lit rfl rfl rfl rfl rfl rfl rfl (fun _ => rfl) fun g4 => ?_
    refine JL_appendS (n := 4 * k + 2) (m := 1) (off := 0) (news := arcs [⟨((2 * (0 + k) + 4 : Nat) : Int), 1, 100⟩]) 4 0 rfl rfl rfl rfl rfl rfl (by decide) rfl rfl (shows_blk g4 _ _ (0, 0)) (fun _ => rfl) rfl rfl (by omega) (by omega) (fun _ _ => rfl) fun A4 c4 => ?_
    refine JL_evO (gs := [999]) rfl ?_
    refine JL_store 3 rfl rfl rfl rfl rfl [] rfl ?_
    refine JL_nil ?_
    (repeat' (first | refine J_seq ?_ | refine J_skip ?_ | refine J_yes rfl ?_ | refine J_no rfl ?_))
    refine J_walk 18 [(0, true), (1, true), (2, true), (3, true), (4, true), (5, true), (6, true), (7, true), (8, true), (9, true), (10, true), (11, false), (12, true), (13, true), (14, true), (15, false), (16, false), (17, true)] [3, 5] (by kernel_rfl) (by decide) rfl ?_
    refine JW_evO (gs := [999]) rfl rfl ?_
    refine JW_still [] rfl (OpV_blk (v := .slice A4 (4 * k + 3) c4) 0 rfl rfl rfl rfl) rfl ?_
    refine JW_evO (gs := [999]) rfl rfl ?_
    refine JW_evO (gs := [999]) rfl rfl ?_
    refine JW_set 77 (v' := .int .i64 ((2 * k : Nat) : Int)) rfl (congrArg (Value.int .i64) ((w64 (n := 2 * (k : Int)) (by omega)).trans (by omega))) ?_
    refine JW_evO (gs := [999]) rfl rfl ?_
    refine JW_set 78 (v' := .int .i64 ((2 * (0 + k) + 4 : Nat) : Int)) rfl (congrArg (Value.int .i64) ((w64 (n := 4 + ((2 * k : Nat) : Int)) (by omega)).trans (by omega))) ?_
    refine JW_evO (gs := [999]) rfl rfl ?_
    refine JW_evO (gs := [999]) rfl rfl ?_
    refine JW_still [] rfl (idx1 rfl rfl rfl rfl rfl hkl) rfl ?_
    refine JW_still [] rfl (ldseg 1 rfl rfl rfl rfl (ints_get hx)) rfl ?_
    refine JW_evO (gs := [999]) rfl rfl ?_
    refine JW_evO (gs := [999]) rfl rfl ?_
    refine JW_eff rfl ?_
    refine JL_callR [] (pick12_fn hxb (show (0 : Int) < (l.length : Int) by omega)) rfl rfl rfl rfl (by kernel_rfl) trivial (fun _ => rfl) ?_
    rintro v H' ⟨rfl, rfl⟩
    refine ⟨rfl, JL_nil ⟨⟨[3, 5], by decide, rfl⟩, ?_⟩⟩
    refine JW_evO (gs := [999]) rfl rfl ?_
    refine JW_set 86 (v' := .int .i64 (2 * pickZ x l.length)) rfl (congrArg (Value.int .i64) (w64 (by omega))) ?_
    refine JW_evO (gs := [999]) rfl rfl ?_
    refine JW_set 87 (v' := .int .i64 ((2 * (pickZ x l.length).toNat + 3 : Nat) : Int)) rfl (congrArg (Value.int .i64) ((w64 (n := 3 + 2 * pickZ x l.length) (by omega)).trans (by omega))) ?_
    refine JW_still [] rfl (OpV_build rfl rfl rfl rfl rfl rfl) rfl ?_
    refine JW_eff rfl ?_
    refine JL_lit rfl rfl rfl rfl rfl rfl rfl (fun _ => rfl) fun g5 => ?_
    refine JL_nil ⟨⟨[4, 6], by decide, rfl⟩, ?_⟩
    refine JW_eff rfl ?_
    refine JL_appendS (n := 4 * k + 3) (m := 1) (off := 0) (news := arcs [⟨((2 * (0 + k) + 4 : Nat) : Int), ((2 * (pickZ x l.length).toNat + 3 : Nat) : Int), 100⟩]) 5 0 rfl rfl rfl rfl rfl rfl (by decide) rfl rfl (shows_blk g5 _ _ (0, 0)) (fun _ => rfl) rfl rfl (by omega) (by omega) (fun _ _ => rfl) fun A5 c5 => ?_
    refine JL_nil ⟨⟨[4, 6], by decide, rfl⟩, ?_⟩
    refine JW_run [] rfl ?_
    refine JW_nil ?_
    refine JL_store 4 rfl rfl rfl rfl rfl [] rfl ?_
    refine JL_nil ?_
    have hcell : ((((arcs (gridL 0 ((capsG l).take k)) ++ arcs [⟨2, ((2 * (0 + k) + 3 : Nat) : Int), 100⟩]) ++ arcs [⟨((2 * (0 + k) + 3 : Nat) : Int), ((2 * (0 + k) + 4 : Nat) : Int), pickZ x 30⟩]) ++ arcs [⟨((2 * (0 + k) + 4 : Nat) : Int), 1, 100⟩]) ++ arcs [⟨((2 * (0 + k) + 4 : Nat) : Int), ((2 * (pickZ x l.length).toNat + 3 : Nat) : Int), 100⟩]) = arcs (gridL 0 ((capsG l).take (k + 1))) := by
      rw [htk, gridL_app, htl]
      simp only [← arcs_app, List.append_assoc]; rfl
    (repeat' (first | refine J_seq ?_ | refine J_skip ?_ | refine J_yes rfl ?_ | refine J_no rfl ?_))
    refine J_region ?_
    refine JL_all [] rfl ?_
    refine ⟨(k + 1, A5, c5), ⟨?_, rfl, rfl, rfl, rfl, trivial⟩, ?_, hkl, by show l.length - (k + 1) < l.length - k; omega⟩
    · show some (Value.int .i64 (IntKind.i64.wrap ((k : Int) + 1))) = _
      rw [w64 (by omega)]; rfl
    · refine Fit.trans (Fit.re (A := [_, _, _, _, _, _, _]) (R := []) [4, 5, 6] rfl (by decide)) ?_
      show Fit _ [_, .own (.slice A5 (4 * (k + 1)) c5) _ _ (4 * (k + 1)) ((((arcs (gridL 0 ((capsG l).take k)) ++ arcs [⟨2, ((2 * (0 + k) + 3 : Nat) : Int), 100⟩]) ++ arcs [⟨((2 * (0 + k) + 3 : Nat) : Int), ((2 * (0 + k) + 4 : Nat) : Int), pickZ x 30⟩]) ++ arcs [⟨((2 * (0 + k) + 4 : Nat) : Int), 1, 100⟩]) ++ arcs [⟨((2 * (0 + k) + 4 : Nat) : Int), ((2 * (pickZ x l.length).toNat + 3 : Nat) : Int), 100⟩]), _] _
      rw [hcell]
      exact Fit.refl
  · obtain rfl : k = l.length := by omega
    rw [List.take_of_length_le (by omega)]
    obtain ⟨cs, hcs⟩ : ∃ cs, cs = capsG l := ⟨_, rfl⟩
    rw [← hcs] at hcr hcl ⊢
    have hR := grid_right (cs := cs) (by omega) hcr
    have hal : (gridN cs).arcs.length = 4 * l.length := by rw [grid_len, hcl]
    refine J_fit (K := [blk pn 26 (netC (gridN cs) A1 c1), .own (.slice A1 (gridN cs).arcs.length c1) 29 3 (gridN cs).arcs.length (arcs (gridN cs).arcs)]) (by
      unfold netC
      rw [hal]
      show Fit _ _ [blk pn _ [.int .i64 ((2 + 2 * cs.length : Nat) : Int), .int .i64 2, .int .i64 1, _], _]
      rw [hcl]
      exact Fit.re (A := [_, _, _]) (R := []) [0, 1] rfl (by decide)) (J_exit ?_)
    have hzf := zeroFlow _ hR
    have hF := hR.fits2
    have hlaw : ∀ {f' : List Int} {p k : Nat}, Dn (gridN cs) 1 (List.replicate (gridN cs).arcs.length 0) p k f' → exZ ((gridN cs).arcs.zip f') (gridN cs).snk = capS cs ∧ p ≤ 1 := fun h => grid_law hR hcr (by rw [grid_len] at h; exact h)
    obtain ⟨N, hN⟩ : ∃ N, N = gridN cs := ⟨_, rfl⟩
    rw [← hN] at hR hal hF hzf hlaw ⊢
    refine J_know (own_is 1 rfl) fun ⟨_, _, hA1, hl1⟩ => ?_
    obtain ⟨g1, hA1⟩ := own_at hA1 hl1
    have hA1' : N.arcs ≠ [] → A1 = some ⟨g1, 0, none⟩ := fun h => hA1 (fun h0 => h (List.length_eq_zero_iff.1 (by have := arcs_length N.arcs; rw [h0] at this; simp at this; omega)))
    obtain ⟨sg, hs, he⟩ : ∃ sg : Int, (sg = 112 ∨ sg = 116) ∧ sg = (if tree then 116 else 112) := ⟨_, by cases tree <;> simp, rfl⟩
    cases tree
    case' false =>
      (repeat' (first | refine J_seq ?_ | refine J_skip ?_ | refine J_yes rfl ?_ | refine J_no rfl ?_))
      refine J_region ?_
      refine JL_all [] rfl ?_
      (repeat' (first | refine J_seq ?_ | refine J_skip ?_ | refine J_yes rfl ?_ | refine J_no rfl ?_))
      (repeat' (first | refine J_seq ?_ | refine J_skip ?_ | refine J_yes rfl ?_ | refine J_no rfl ?_))
      refine J_region ?_
      refine JL_all [] rfl ?_
      (repeat' (first | refine J_seq ?_ | refine J_skip ?_ | refine J_yes rfl ?_ | refine J_no rfl ?_))
      refine J_set 10 (v' := .int .u8 sg) rfl (by rw [he]; rfl) ?_
    case' true =>
      (repeat' (first | refine J_seq ?_ | refine J_skip ?_ | refine J_yes rfl ?_ | refine J_no rfl ?_))
      refine J_region ?_
      refine JL_all [] rfl ?_
      (repeat' (first | refine J_seq ?_ | refine J_skip ?_ | refine J_yes rfl ?_ | refine J_no rfl ?_))
      (repeat' (first | refine J_seq ?_ | refine J_skip ?_ | refine J_yes rfl ?_ | refine J_no rfl ?_))
      refine J_region ?_
      refine JL_all [] rfl ?_
      (repeat' (first | refine J_seq ?_ | refine J_skip ?_ | refine J_yes rfl ?_ | refine J_no rfl ?_))
      refine J_region ?_
      refine JL_all [] rfl ?_
      refine J_set 10 (v' := .int .u8 sg) rfl (by rw [he]; rfl) ?_
    all_goals
      (repeat' (first | refine J_seq ?_ | refine J_skip ?_ | refine J_yes rfl ?_ | refine J_no rfl ?_))
      refine J_region ?_
      refine JL_val [] (v := netV N A1 c1) (OpV_blk 0 rfl rfl rfl rfl) rfl ?_
      refine JL_run [] rfl ?_
      refine JL_callR [] (maxG_fn N hF hR A1 c1 g1 0 hA1' sg hs) rfl rfl rfl rfl (by kernel_rfl) ⟨⟨1, _, by simp, rfl, shows_ownS hA1, seen_ownS hA1⟩, trivial⟩ (fun _ => rfl) ?_
      rintro v H' ⟨fa, pa, ka, sa, Aa, ca, hda, _, _, _, _, _, rfl, rfl⟩
      obtain ⟨hfa, _⟩ := hda.keeps hR (by decide) hzf
      obtain ⟨hval, hpa⟩ := hlaw hda
      refine ⟨rfl, ?_⟩
      refine JL_run [] rfl ?_
      refine JL_alloc rfl rfl rfl (fun _ => rfl) fun b11 => ?_
      refine JL_store 0 rfl rfl rfl rfl rfl [] rfl ?_
      refine JL_all [] rfl ?_
      refine J_know (own_is 1 rfl) fun ⟨_, _, hAa, hla⟩ => ?_
      obtain ⟨ga, hAa⟩ := own_at hAa hla
      have hAa' : fa ≠ [] → Aa = some ⟨ga, 0, none⟩ := fun h => hAa (by simpa [ints] using h)
      have hfal := hfa.len
      (repeat' (first | refine J_seq ?_ | refine J_skip ?_ | refine J_yes rfl ?_ | refine J_no rfl ?_))
      refine J_region ?_
      refine JL_val [] (v := netV N A1 c1) (OpV_blk 2 rfl rfl rfl rfl) rfl ?_
      refine JL_run [] rfl ?_
      refine JL_val [] (v := .slice Aa fa.length ca) (OpV_blk 0 rfl rfl rfl rfl) rfl ?_
      refine JL_callR [] (fvalue_fn N hF hR A1 c1 g1 0 hA1' fa Aa ca ga 0 hAa' (IsFlow.inB hR hfa.toRanged) (by omega)) rfl rfl rfl rfl (by kernel_rfl) ⟨⟨3, _, by simp, rfl, shows_ownS hA1, seen_ownS hA1⟩, ⟨1, _, by simp, rfl, shows_ownS hAa, seen_ownS hAa⟩, trivial⟩ (fun _ => rfl) ?_
      rintro v H' ⟨⟨rfl, _⟩ | ⟨_, h⟩, rfl⟩
      case inr => exact absurd hfa h
      refine ⟨rfl, ?_⟩
      refine JL_all [] rfl ?_
      refine J_set 13 (v' := .int .i64 (capS cs)) rfl (congrArg (Value.int .i64) hval) ?_
      (repeat' (first | refine J_seq ?_ | refine J_skip ?_ | refine J_yes rfl ?_ | refine J_no rfl ?_))
      refine J_region ?_
      refine JL_evO (gs := [999]) rfl ?_
      refine JL_evO (gs := [999]) rfl ?_
      refine JL_evO (gs := [999]) rfl ?_
      refine JL_set 108 (v' := .bool true) rfl (congrArg Value.bool (cdec_yes rfl)) ?_
      refine JL_run [2] rfl ?_
      refine JL_set 112 (v' := .bool true) rfl (congrArg Value.bool (cdec_yes rfl)) ?_
      refine JL_run [2, 6] rfl ?_
      refine JL_set 117 (v' := .bool true) rfl (congrArg Value.bool (cdec_yes rfl)) ?_
      refine JL_evO (gs := [2, 6, 11]) rfl ?_
      refine JL_val [2, 6, 11] (v := .int .i64 pa) (OpV_blk 0 rfl rfl rfl rfl) rfl ?_
      refine JL_all [2, 6, 11] rfl ?_
      exact J_ret ⟨_, rfl, congrArg Value.bool (cdec_yes (by omega))⟩
end Go.Proofs.Ytcgcimnjknadjaa
