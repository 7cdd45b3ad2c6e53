
/- TreeWide: of nodes beside one another each lets through as much as the lesser one of its two arcs. -/
import Derived.Test.YtcgcimnjknadjaaSh11N
import Derived.Test.YtcgcimnjknadjaaMade11
import Derived.Test.YtcgcimnjknadjaaSame5
import Derived.Test.YtcgcimnjknadjaaMostT
import Derived.Test.YtcgcimnjknadjaaWideR
set_option linter.unusedVariables false
set_option linter.unusedSimpArgs false
namespace Go.Proofs.Ytcgcimnjknadjaa
open Go.RowKit
/-- The capacities out of raw numbers. -/
def capsW (l : List Int) : List (Int × Int) := l.map fun x => (pickZ x 10, pickZ (x.tdiv 10) 10)
theorem manyM_le (cs : List (Int × Int)) : manyM cs ≤ cs.length := List.length_filter_le _ _
theorem sumM_le : ∀ (cs : List (Int × Int)), (∀ c ∈ cs, (0 ≤ c.1 ∧ c.1 ≤ 9) ∧ 0 ≤ c.2 ∧ c.2 ≤ 9) → 0 ≤ sumM cs ∧ sumM cs ≤ 9 * cs.length
  | [], _ => ⟨Int.le_refl _, Int.le_refl _⟩
  | c :: cs, h => by
    have ih := sumM_le cs fun d hd => h d (by simp [hd])
    have h1 := h c (by simp)
    have h2 : 0 ≤ minP c ∧ minP c ≤ 9 := by unfold minP; split <;> omega
    simp only [sumM] at ih
    simp only [sumM, List.map_cons, List.sum_cons, List.length_cons]
    omega
set_option maxHeartbeats 2000000 in
theorem treeWide_fn (A : Option Addr) (c b o : Nat) (l : List Int) (hA : l ≠ [] → A = some ⟨b, o, none⟩) (hl : ∀ x ∈ l, inB x) (hs : l.length * 8 ≤ 140737488351232) :
    Fn 7 [.slice A l.length c] [] [.seg b o (ints l)] fun v _ => v = .bool true := by
  refine Fn_of Try.func7 rfl rfl fun w0 => ?_
  (repeat' (first | refine J_seq ?_ | refine J_skip ?_ | refine J_yes rfl ?_ | refine J_no rfl ?_))
  refine J_region ?_
  refine JL_all [] rfl ?_
  (repeat' (first | refine J_seq ?_ | refine J_skip ?_ | refine J_yes rfl ?_ | refine J_no rfl ?_))
  refine J_region ?_
  refine JL_callR [] (shown11_fn) rfl rfl rfl rfl (by kernel_rfl) trivial (fun _ => rfl) ?_
  rintro v H' ⟨rfl, rfl⟩
  refine ⟨rfl, ?_⟩
  refine JL_all [] rfl ?_
  (repeat' (first | refine J_seq ?_ | refine J_skip ?_ | refine J_yes rfl ?_ | refine J_no rfl ?_))
  refine J_region ?_
  refine JL_evO (gs := [999]) rfl ?_
  refine JL_evO (gs := [999]) rfl ?_
  refine JL_evO (gs := [999]) rfl ?_
  refine JL_set 19 (v' := .bool false) rfl rfl ?_
  refine JL_all [2] rfl ?_
  (repeat' (first | refine J_seq ?_ | refine J_skip ?_ | refine J_yes rfl ?_ | refine J_no rfl ?_))
  refine J_dec rfl (fun _ => ?_) (fun h60 => J_skip ?_)
  · (repeat' (first | refine J_seq ?_ | refine J_skip ?_ | refine J_yes rfl ?_ | refine J_no rfl ?_))
    refine J_region ?_
    refine JL_all [] rfl ?_
    exact J_ret ⟨_, rfl, rfl⟩
  have hlen : l.length ≤ 60 := by omega
  (repeat' (first | refine J_seq ?_ | refine J_skip ?_ | refine J_yes rfl ?_ | refine J_no rfl ?_))
  refine J_region ?_
  refine JL_evO (gs := [999]) rfl ?_
  refine JL_evO (gs := [999]) rfl ?_
  refine JL_evO (gs := [999]) rfl ?_
  refine JL_set 27 (v' := .int .i64 ((2 + l.length : Nat) : Int)) rfl (congrArg (Value.int .i64) ((w64 (n := 2 + (l.length : Int)) (by omega)).trans (by omega))) ?_
  refine JL_val [] (OpV_build rfl rfl rfl rfl rfl rfl) rfl ?_
  refine JL_alloc rfl rfl rfl (fun _ => rfl) fun pn => ?_
  refine JL_store 0 rfl rfl rfl rfl rfl [] rfl ?_
  refine JL_all [] rfl ?_
  (repeat' (first | refine J_seq ?_ | refine J_skip ?_ | refine J_yes rfl ?_ | refine J_no rfl ?_))
  refine J_region ?_
  refine JL_all [] rfl ?_
  (repeat' (first | refine J_seq ?_ | refine J_skip ?_ | refine J_yes rfl ?_ | refine J_no rfl ?_))
  refine J_region ?_
  refine JL_all [] rfl ?_
  (repeat' (first | refine J_seq ?_ | refine J_skip ?_ | refine J_yes rfl ?_ | refine J_no rfl ?_))
  refine J_region ?_
  refine JL_all [] rfl ?_
  (repeat' (first | refine J_seq ?_ | refine J_skip ?_ | refine J_yes rfl ?_ | refine J_no rfl ?_))
  have hcl : (capsW l).length = l.length := by simp [capsW]
  have hcr : ∀ c ∈ capsW l, (0 ≤ c.1 ∧ c.1 ≤ 9) ∧ 0 ≤ c.2 ∧ c.2 ≤ 9 := by
    intro c hc
    obtain ⟨x, _, rfl⟩ := List.mem_map.1 hc
    have h1 := pickZ_in (c := x) (n := 10) (by decide)
    have h2 := pickZ_in (c := x.tdiv 10) (n := 10) (by decide)
    show (0 ≤ pickZ x 10 ∧ pickZ x 10 ≤ 9) ∧ 0 ≤ pickZ (x.tdiv 10) 10 ∧ pickZ (x.tdiv 10) 10 ≤ 9
    omega
  refine J_block ?_
  refine J_addnil 29 3 ?_
  refine J_loopF (σ := Nat × Option Addr × Nat) (fun t => [(7, .int .i64 (t.1 : Int)), (5, .int .i64 (sumM ((capsW l).take t.1))), (6, .int .i64 (manyM ((capsW l).take t.1) : Int)), (4, .pointer (some ⟨pn, 0, none⟩)), (0, .slice A l.length c)])
    (fun t => [blk pn 26 [.int .i64 ((2 + l.length : Nat) : Int), .int .i64 1, .int .i64 2, .slice t.2.1 (2 * t.1) t.2.2], .own (.slice t.2.1 (2 * t.1) t.2.2) 29 3 (2 * t.1) (arcs (fanL 0 ((capsW l).take t.1))), .seg b o (ints l)])
    (fun t => t.1 ≤ l.length) (fun t => l.length - t.1) (0, none, 0) ⟨rfl, rfl, rfl, rfl, rfl, trivial⟩ ?_ (Nat.zero_le _) ?_
  · exact Fit.re (A := [.own (.slice none 0 0) 29 3 0 [], blk pn 26 [.int .i64 ((2 + l.length : Nat) : Int), .int .i64 1, .int .i64 2, .slice none 0 0], .seg b o (ints l)]) (R := []) [1, 0, 2] rfl (by decide)
  rintro ⟨k, A1, c1⟩ hk
  simp only at hk ⊢
  (repeat' (first | refine J_seq ?_ | refine J_skip ?_ | refine J_yes rfl ?_ | refine J_no rfl ?_))
  refine J_region ?_
  refine JL_all [] rfl ?_
  (repeat' (first | refine J_seq ?_ | refine J_skip ?_ | refine J_yes rfl ?_ | refine J_no rfl ?_))
  refine J_dec rfl (fun hlt => J_skip ?_) (fun hge => ?_)
  · have hkl : k < l.length := by omega
    obtain rfl := hA (by rintro rfl; simp at hkl)
    obtain ⟨x, hx⟩ : ∃ x, l[k]? = some x := ⟨l[k], List.getElem?_eq_getElem hkl⟩
    have hxb := hl x (List.mem_of_getElem? hx)
    have hxd : inB (x.tdiv 10) := by unfold inB at *; have := tmod_cases x (m := 10) (by decide); omega
    have htk : (capsW l).take (k + 1) = (capsW l).take k ++ [(pickZ x 10, pickZ (x.tdiv 10) 10)] := by
      rw [List.take_add_one]
      unfold capsW
      rw [List.getElem?_map, hx]; rfl
    have htl : ((capsW l).take k).length = k := by rw [List.length_take]; omega
    have b1 := pickZ_in (c := x) (n := 10) (by decide)
    have b2 := pickZ_in (c := x.tdiv 10) (n := 10) (by decide)
    have hsm := sumM_le ((capsW l).take k) fun c hc => hcr c (List.mem_of_mem_take hc)
    have hmm := manyM_le ((capsW l).take k)
    rw [htl] at hsm hmm
    refine J_seq (J_block ?_)
    (repeat' (first | refine J_seq ?_ | refine J_skip ?_ | refine J_yes rfl ?_ | refine J_no rfl ?_))
    refine J_region ?_
    refine JL_evO (gs := [999]) rfl ?_
    refine JL_evO (gs := [999]) rfl ?_
    refine JL_val [] (idx1 rfl rfl rfl rfl rfl hkl) rfl ?_
    refine JL_val [] (ldseg 2 rfl rfl rfl rfl (ints_get hx)) rfl ?_
    refine JL_callR [] (pick11_fn hxb (by decide : (0:Int) < 10)) rfl rfl rfl rfl (by kernel_rfl) trivial (fun _ => rfl) ?_
    rintro v H' ⟨rfl, rfl⟩
    refine ⟨rfl, ?_⟩
    refine JL_all [] rfl ?_
    (repeat' (first | refine J_seq ?_ | refine J_skip ?_ | refine J_yes rfl ?_ | refine J_no rfl ?_))
    refine J_region ?_
    refine JL_evO (gs := [999]) rfl ?_
    refine JL_evO (gs := [999]) rfl ?_
    refine JL_val [] (idx1 rfl rfl rfl rfl rfl hkl) rfl ?_
    refine JL_val [] (ldseg 2 rfl rfl rfl rfl (ints_get hx)) rfl ?_
    refine JL_evO (gs := [999]) rfl ?_
    refine JL_set 44 (v' := .int .i64 (x.tdiv 10)) rfl (congrArg (Value.int .i64) (w64 hxd)) ?_
    refine JL_callR [] (pick11_fn hxd (by decide : (0:Int) < 10)) rfl rfl rfl rfl (by kernel_rfl) trivial (fun _ => rfl) ?_
    rintro v H' ⟨rfl, rfl⟩
    refine ⟨rfl, ?_⟩
    refine JL_all [] rfl ?_
    (repeat' (first | refine J_seq ?_ | refine J_skip ?_ | refine J_yes rfl ?_ | refine J_no rfl ?_))
    refine J_region ?_
    refine JL_evO (gs := [999]) rfl ?_
    refine JL_val [] (v := .slice A1 (2 * k) c1) (OpV_blk 0 rfl rfl rfl rfl) rfl ?_
    refine JL_evO (gs := [999]) rfl ?_
    refine JL_evO (gs := [999]) rfl ?_
    refine JL_set 49 (v' := .int .i64 ((0 + k + 3 : Nat) : Int)) rfl (congrArg (Value.int .i64) ((w64 (by omega)).trans (by omega))) ?_
    refine JL_evO (gs := [999]) rfl ?_
    refine JL_val [] (OpV_build rfl rfl rfl rfl rfl rfl) rfl ?_
    refine JL_lit rfl rfl rfl rfl rfl rfl rfl (fun _ => rfl) fun g2 => ?_
    refine JL_appendS (n := 2 * k) (m := 1) (off := 0) (news := arcs [⟨1, ((0 + k + 3 : Nat) : Int), pickZ x 10⟩]) 2 0 rfl rfl rfl rfl rfl rfl (by decide) rfl rfl (shows_blk g2 _ _ (0, 0)) (fun _ => rfl) rfl rfl (by omega) (by omega) (fun _ _ => rfl) fun A2 c2 => ?_
    refine JL_evO (gs := [999]) rfl ?_
    refine JL_store 1 rfl rfl rfl rfl rfl [] rfl ?_
    refine JL_nil ?_
    (repeat' (first | refine J_seq ?_ | refine J_skip ?_ | refine J_yes rfl ?_ | refine J_no rfl ?_))
    refine J_region ?_
    refine JL_evO (gs := [999]) rfl ?_
    refine JL_val [] (v := .slice A2 (2 * k + 1) c2) (OpV_blk 1 rfl rfl rfl rfl) rfl ?_
    refine JL_evO (gs := [999]) rfl ?_
    refine JL_evO (gs := [999]) rfl ?_
    refine JL_set 58 (v' := .int .i64 ((0 + k + 3 : Nat) : Int)) rfl (congrArg (Value.int .i64) ((w64 (by omega)).trans (by omega))) ?_
    refine JL_evO (gs := [999]) rfl ?_
    refine JL_val [] (OpV_build rfl rfl rfl rfl rfl rfl) rfl ?_
    refine JL_lit rfl rfl rfl rfl rfl rfl rfl (fun _ => rfl) fun g3 => ?_
    refine JL_appendS (n := 2 * k + 1) (m := 1) (off := 0) (news := arcs [⟨((0 + k + 3 : Nat) : Int), 2, pickZ (x.tdiv 10) 10⟩]) 3 0 rfl rfl rfl rfl rfl rfl (by decide) rfl rfl (shows_blk g3 _ _ (0, 0)) (fun _ => rfl) rfl rfl (by omega) (by omega) (fun _ _ => rfl) fun A3 c3 => ?_
    refine JL_evO (gs := [999]) rfl ?_
    refine JL_store 2 rfl rfl rfl rfl rfl [] rfl ?_
    refine JL_nil ?_
    (repeat' (first | refine J_seq ?_ | refine J_skip ?_ | refine J_yes rfl ?_ | refine J_no rfl ?_))
    refine J_region ?_
    refine JL_evO (gs := [999]) rfl ?_
    refine JL_evO (gs := [999]) rfl ?_
    refine JL_evO (gs := [999]) rfl ?_
    refine JL_evO (gs := [999]) rfl ?_
    have hmp : 0 ≤ minP (pickZ x 10, pickZ (x.tdiv 10) 10) ∧ minP (pickZ x 10, pickZ (x.tdiv 10) 10) ≤ 9 := by unfold minP; split <;> omega
    refine JL_evO (gs := [999]) rfl ?_
    refine JL_set 68 (v' := .int .i64 (sumM ((capsW l).take (k + 1)))) rfl (by
      rw [htk, sumM_app]
      exact congrArg (Value.int .i64) (w64 (n := sumM ((capsW l).take k) + minP (pickZ x 10, pickZ (x.tdiv 10) 10)) (by omega))) ?_
    refine JL_all [] rfl ?_
    refine J_drop [2, 3, 4] (by decide) rfl ?_
    have hcell : (arcs (fanL 0 ((capsW l).take k)) ++ arcs [⟨1, ((0 + k + 3 : Nat) : Int), pickZ x 10⟩]) ++ arcs [⟨((0 + k + 3 : Nat) : Int), 2, pickZ (x.tdiv 10) 10⟩] = arcs (fanL 0 ((capsW l).take (k + 1))) := by
      rw [htk, fanL_app, htl]
      unfold arcs
      rw [← List.flatMap_append, ← List.flatMap_append]
      rw [List.append_assoc]; rfl
    (repeat' (first | refine J_seq ?_ | refine J_skip ?_ | refine J_yes rfl ?_ | refine J_no rfl ?_))
    refine J_region ?_
    refine JL_all [] rfl ?_
    (repeat' (first | refine J_seq ?_ | refine J_skip ?_ | refine J_yes rfl ?_ | refine J_no rfl ?_))
    refine J_dec rfl (fun hpos => ?_) (fun hneg => J_skip ?_)
    · (repeat' (first | refine J_seq ?_ | refine J_skip ?_ | refine J_yes rfl ?_ | refine J_no rfl ?_))
      refine J_region ?_
      refine JL_all [] rfl ?_
      (repeat' (first | refine J_seq ?_ | refine J_skip ?_ | refine J_yes rfl ?_ | refine J_no rfl ?_))
      refine J_region ?_
      refine JL_all [] rfl ?_
      refine ⟨(k + 1, A3, c3), ⟨?_, rfl, ?_, rfl, rfl, trivial⟩, ?_, hkl, by show l.length - (k + 1) < l.length - k; omega⟩
      · show some (Value.int .i64 (IntKind.i64.wrap ((k : Int) + 1))) = _
        rw [w64 (by omega)]; rfl
      · show some (Value.int .i64 (IntKind.i64.wrap ((manyM ((capsW l).take k) : Int) + 1))) = some (Value.int .i64 (manyM ((capsW l).take (k + 1)) : Int))
        rw [w64 (by omega), htk, manyM_app, if_pos (show 0 < minP (pickZ x 10, pickZ (x.tdiv 10) 10) from hpos)]; rfl
      · show Fit _ [_, .own (.slice A3 (2 * (k + 1)) c3) _ _ (2 * (k + 1)) ((arcs (fanL 0 ((capsW l).take k)) ++ arcs [⟨1, ((0 + k + 3 : Nat) : Int), pickZ x 10⟩]) ++ arcs [⟨((0 + k + 3 : Nat) : Int), 2, pickZ (x.tdiv 10) 10⟩]), _] _
        rw [hcell]
        exact Fit.refl
    · (repeat' (first | refine J_seq ?_ | refine J_skip ?_ | refine J_yes rfl ?_ | refine J_no rfl ?_))
      refine J_region ?_
      refine JL_all [] rfl ?_
      refine ⟨(k + 1, A3, c3), ⟨?_, rfl, ?_, rfl, rfl, trivial⟩, ?_, hkl, by show l.length - (k + 1) < l.length - k; omega⟩
      · show some (Value.int .i64 (IntKind.i64.wrap ((k : Int) + 1))) = _
        rw [w64 (by omega)]; rfl
      · show some (Value.int .i64 (manyM ((capsW l).take k) : Int)) = some (Value.int .i64 (manyM ((capsW l).take (k + 1)) : Int))
        rw [htk, manyM_app, if_neg (show ¬ 0 < minP (pickZ x 10, pickZ (x.tdiv 10) 10) from hneg)]; rfl
      · show Fit _ [_, .own (.slice A3 (2 * (k + 1)) c3) _ _ (2 * (k + 1)) ((arcs (fanL 0 ((capsW l).take k)) ++ arcs [⟨1, ((0 + k + 3 : Nat) : Int), pickZ x 10⟩]) ++ arcs [⟨((0 + k + 3 : Nat) : Int), 2, pickZ (x.tdiv 10) 10⟩]), _] _
        rw [hcell]
        exact Fit.refl
  · obtain rfl : k = l.length := by omega
    rw [List.take_of_length_le (by omega)]
    obtain ⟨cs, hcs⟩ : ∃ cs, cs = capsW l := ⟨_, rfl⟩
    rw [← hcs] at hcr hcl ⊢
    have hR := wide_right (cs := cs) (by omega) hcr
    have hsm := sumM_le cs hcr
    have hmm := manyM_le cs
    have hal : (wideN cs).arcs.length = 2 * l.length := by rw [wide_len, hcl]
    refine J_fit (K := [blk pn 26 (netC (wideN cs) A1 c1), .own (.slice A1 (wideN cs).arcs.length c1) 29 3 (wideN cs).arcs.length (arcs (wideN cs).arcs)]) (by
      unfold netC
      rw [hal]
      show Fit _ _ [blk pn _ [.int .i64 ((2 + cs.length : Nat) : Int), .int .i64 1, .int .i64 2, _], _]
      rw [hcl]
      exact Fit.re (A := [_, _, _]) (R := []) [0, 1] rfl (by decide)) (J_exit ?_)
    have hzf : IsFlow (wideN cs) (List.replicate (2 * l.length) 0) := by
      have := zeroFlow _ hR
      rwa [hal] at this
    have hF := hR.fits2
    obtain ⟨N, hN⟩ : ∃ N, N = wideN cs := ⟨_, rfl⟩
    have hNn : N.nodes = ((2 + l.length : Nat) : Int) := by rw [hN]; show ((2 + cs.length : Nat) : Int) = _; rw [hcl]
    rw [← hN] at hR hal hF hzf ⊢
    refine J_know (own_is 1 rfl) fun ⟨_, _, hA1, hl1⟩ => ?_
    obtain ⟨g1, hA1⟩ := own_at hA1 hl1
    have hA1' : N.arcs ≠ [] → A1 = some ⟨g1, 0, none⟩ := fun h => hA1 (fun h0 => h (List.length_eq_zero_iff.1 (by have := arcs_length N.arcs; rw [h0] at this; simp at this; omega)))
    (repeat' (first | refine J_seq ?_ | refine J_skip ?_ | refine J_yes rfl ?_ | refine J_no rfl ?_))
    refine J_walk 15 [(0, true), (1, true), (2, true), (3, true), (4, false), (5, false), (6, true), (7, true), (8, true), (9, true), (10, true), (11, true), (12, true), (13, true), (14, true)] [0] (by kernel_rfl) (by decide) rfl ?_
    refine JW_still [] rfl (OpV_blk (v := netV N A1 c1) 0 rfl rfl rfl rfl) rfl ?_
    refine JW_evO (gs := [999]) rfl rfl ?_
    refine JW_still [] rfl (OpV_blk (v := .slice A1 N.arcs.length c1) 0 rfl rfl rfl rfl) rfl ?_
    refine JW_evO (gs := [999]) rfl rfl ?_
    refine JW_set 79 (v' := .int .i64 ((2 * l.length : Nat) : Int)) rfl (by rw [hal]) ?_
    refine JW_eff rfl ?_
    refine JL_make (n := 2 * l.length) (c := 2 * l.length) rfl rfl rfl rfl rfl rfl (by omega) (by omega) (by omega) (fun _ => rfl) fun gz => ?_
    rw [show made [Value.int .i64 0] (2 * l.length * 1) = ints (List.replicate (2 * l.length) 0) by rw [made_one, Nat.mul_one]; simp [ints]]
    refine JL_nil ⟨⟨[1], by decide, rfl⟩, ?_⟩
    have hzin := IsFlow.inB hR hzf.toRanged
    have TT := tblock_fn N hF hR A1 c1 g1 0 hA1' (List.replicate (2 * l.length) 0) (some ⟨gz, 0, none⟩) (2 * l.length) gz 0 (fun _ => rfl) hzin (by rw [List.length_replicate]; omega) 1 (by decide)
    rw [List.length_replicate] at TT
    refine JW_eff rfl ?_
    refine JL_callR [] TT rfl rfl rfl rfl (by kernel_rfl) ⟨⟨2, _, by simp, rfl, shows_ownS hA1, seen_ownS hA1⟩, ⟨0, _, by simp, rfl, shows_own, .inr rfl⟩, trivial⟩ (fun _ => rfl) ?_
    rintro v H' (⟨_, _, f1, ws1, k1, Ao, co, hB1, hk1, hk2, hw1, rfl, rfl⟩ | ⟨h, _, _⟩ | ⟨_, h, _, _⟩)
    case inr.inl => exact absurd hzf h
    case inr.inr => omega
    refine ⟨rfl, JL_nil ⟨⟨[2], by decide, rfl⟩, ?_⟩⟩
    (repeat' (refine JW_evO (gs := [999]) rfl rfl ?_))
    refine JW_nil ?_
    refine JL_nil ?_
    have hf1 := (hB1.gain hR (by omega) hzf).1
    have hf1l : f1.length = 2 * l.length := by rw [hf1.len, hal]
    have hf1in := IsFlow.inB hR hf1.toRanged
    have hcm := cost_most hR (by omega)
    have hml := mostZ_le hR
    have hlaw : exZ (N.arcs.zip f1) N.snk = sumM cs ∧ ws1.length = manyM cs := by
      subst hN
      rw [← hcl] at hB1
      exact wide_law hR hB1
    refine J_know (own_is 0 rfl) fun ⟨_, _, hAo, hlo⟩ => ?_
    obtain ⟨go, hAo⟩ := own_at hAo hlo
    have hAo' : f1 ≠ [] → Ao = some ⟨go, 0, none⟩ := fun h => hAo (by simpa [ints] using h)
    have TV := fvalue_fn N hF hR A1 c1 g1 0 hA1' f1 Ao co go 0 hAo' hf1in (by omega)
    rw [hf1l] at TV
    refine J_drop [0, 2, 3] (by decide) rfl ?_
    (repeat' (first | refine J_seq ?_ | refine J_skip ?_ | refine J_yes rfl ?_ | refine J_no rfl ?_))
    refine J_region ?_
    refine JL_val [] (v := netV N A1 c1) (OpV_blk 1 rfl rfl rfl rfl) rfl ?_
    refine JL_run [] rfl ?_
    refine JL_callR [] TV rfl rfl rfl rfl (by kernel_rfl) ⟨⟨2, _, by simp, rfl, shows_ownS hA1, seen_ownS hA1⟩, ⟨0, _, by simp, rfl, shows_ownS hAo, seen_ownS hAo⟩, trivial⟩ (fun _ => rfl) ?_
    rintro v H' ⟨⟨rfl, _⟩ | ⟨_, h⟩, rfl⟩
    case inr => exact absurd hf1 h
    refine ⟨rfl, ?_⟩
    refine JL_all [] rfl ?_
    (repeat' (first | refine J_seq ?_ | refine J_skip ?_ | refine J_yes rfl ?_ | refine J_no rfl ?_))
    refine J_region ?_
    refine JL_evO (gs := [999]) rfl ?_
    refine JL_evO (gs := [999]) rfl ?_
    refine JL_evO (gs := [999]) rfl ?_
    refine JL_set 94 (v' := .bool true) rfl (congrArg Value.bool (cdec_yes rfl)) ?_
    refine JL_run [2] rfl ?_
    refine JL_set 98 (v' := .bool true) rfl (congrArg Value.bool (cdec_yes rfl)) ?_
    refine JL_run [2, 6] rfl ?_
    refine JL_set 103 (v' := .bool true) rfl (congrArg Value.bool (cdec_yes hlaw.1)) ?_
    refine JL_run [2, 6, 11] rfl ?_
    refine JL_set 108 (v' := .bool true) rfl (congrArg Value.bool (cdec_yes (congrArg Int.ofNat hlaw.2))) ?_
    refine JL_evO (gs := [2, 6, 11, 16]) rfl ?_
    refine JL_val [2, 6, 11, 16] (v := netV N A1 c1) (OpV_blk 1 rfl rfl rfl rfl) rfl ?_
    refine JL_callR [2, 6, 11, 16] (tmost_fn N hR A1 c1) rfl rfl rfl rfl (by kernel_rfl) trivial (fun _ => rfl) ?_
    rintro v H' ⟨rfl, rfl⟩
    refine ⟨rfl, ?_⟩
    refine JL_all [2, 6, 11, 16] rfl ?_
    exact J_ret ⟨_, rfl, congrArg Value.bool (cdec_yes (by omega))⟩
end Go.Proofs.Ytcgcimnjknadjaa
