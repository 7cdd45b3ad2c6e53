
/- BudgetChain: along a path of arcs there is one phase, of one walk, or none at all. No condition. -/
import Derived.Test.YtdhenmmmkdhonaaBudT
import Derived.Test.YtdhenmmmkdhonaaMade18
import Derived.Test.YtdhenmmmkdhonaaQX1
import Derived.Test.YtdhenmmmkdhonaaRwM
set_option linter.unusedVariables false
set_option linter.unusedSimpArgs false
namespace Go.Proofs.Ytdhenmmmkdhonaa
open Go.RowKit
/-- The capacities out of raw numbers. -/
def capsB (l : List Int) : List Int := l.map fun x => pickZ x 40
theorem least_spec : ∀ (l : List Int) (m : Int), (l.foldl (fun m c => if c < m then c else m) m ≤ m) ∧ (∀ c ∈ l, l.foldl (fun m c => if c < m then c else m) m ≤ c) ∧ (l.foldl (fun m c => if c < m then c else m) m = m ∨ l.foldl (fun m c => if c < m then c else m) m ∈ l)
  | [], m => ⟨Int.le_refl _, fun _ h => (by cases h), .inl rfl⟩
  | c :: l, m => by
    obtain ⟨h1, h2, h3⟩ := least_spec l (if c < m then c else m)
    simp only [List.foldl_cons]
    have hm : (if c < m then c else m) ≤ m ∧ (if c < m then c else m) ≤ c := by split <;> omega
    refine ⟨Int.le_trans h1 hm.1, fun d hd => ?_, ?_⟩
    · rcases List.mem_cons.1 hd with rfl | hd
      · exact Int.le_trans h1 hm.2
      · exact h2 d hd
    · rcases h3 with h3 | h3
      · rw [h3]
        split
        · exact .inr (by simp)
        · exact .inl rfl
      · exact .inr (by simp [h3])
set_option maxHeartbeats 4000000 in
theorem budgetChain_fn (A : Option Addr) (c b o : Nat) (l : List Int) (hA : l ≠ [] → A = some ⟨b, o, none⟩) (hl : ∀ x ∈ l, inB x) (hs : l.length * 8 ≤ 140737488351232) :
    Fn 4 [.slice A l.length c] [] [.seg b o (ints l)] fun v _ => v = .bool true := by
  refine Fn_of Try.func4 rfl rfl fun w0 => ?_
  (repeat' (first | refine J_seq ?_ | refine J_skip ?_ | refine J_yes rfl ?_ | refine J_no rfl ?_))
  refine J_region ?_
  refine JL_all [] rfl ?_
  (repeat' (first | refine J_seq ?_ | refine J_skip ?_ | refine J_yes rfl ?_ | refine J_no rfl ?_))
  refine J_region ?_
  refine JL_callR [] (shown18_fn) rfl rfl rfl rfl (by kernel_rfl) trivial (fun _ => rfl) ?_
  rintro v H' ⟨rfl, rfl⟩
  refine ⟨rfl, ?_⟩
  refine JL_all [] rfl ?_
  (repeat' (first | refine J_seq ?_ | refine J_skip ?_ | refine J_yes rfl ?_ | refine J_no rfl ?_))
  refine J_region ?_
  refine JL_evO (gs := [999]) rfl ?_
  refine JL_evO (gs := [999]) rfl ?_
  refine JL_evO (gs := [999]) rfl ?_
  refine JL_set 15 (v' := .bool false) rfl rfl ?_
  refine JL_evO (gs := [2]) rfl ?_
  refine JL_evO (gs := [2]) rfl ?_
  refine JL_evO (gs := [2]) rfl ?_
  refine JL_evO (gs := [2]) rfl ?_
  refine JL_evO (gs := [2]) rfl ?_
  by_cases h0 : l.length = 0
  · refine JL_set 20 (v' := .bool true) rfl (congrArg Value.bool (cdec_yes (by omega))) ?_
    refine JL_all [2, 7] rfl ?_
    (repeat' (first | refine J_seq ?_ | refine J_skip ?_ | refine J_yes rfl ?_ | refine J_no rfl ?_))
    (repeat' (first | refine J_seq ?_ | refine J_skip ?_ | refine J_yes rfl ?_ | refine J_no rfl ?_))
    refine J_region ?_
    refine JL_all [] rfl ?_
    exact J_ret ⟨_, rfl, rfl⟩
  refine JL_set 20 (v' := .bool false) rfl (congrArg Value.bool (cdec_no (by omega))) ?_
  refine JL_all [2, 7] rfl ?_
  (repeat' (first | refine J_seq ?_ | refine J_skip ?_ | refine J_yes rfl ?_ | refine J_no rfl ?_))
  refine J_dec rfl (fun _ => ?_) (fun h80 => J_skip ?_)
  · (repeat' (first | refine J_seq ?_ | refine J_skip ?_ | refine J_yes rfl ?_ | refine J_no rfl ?_))
    refine J_region ?_
    refine JL_all [] rfl ?_
    exact J_ret ⟨_, rfl, rfl⟩
  have hlen : 0 < l.length ∧ l.length ≤ 80 := by omega
  obtain rfl := hA (by rintro rfl; simp at h0)
  (repeat' (first | refine J_seq ?_ | refine J_skip ?_ | refine J_yes rfl ?_ | refine J_no rfl ?_))
  refine J_region ?_
  refine JL_evO (gs := [999]) rfl ?_
  refine JL_evO (gs := [999]) rfl ?_
  refine JL_evO (gs := [999]) rfl ?_
  refine JL_set 28 (v' := .int .i64 ((l.length + 1 : Nat) : Int)) rfl (congrArg (Value.int .i64) (w64 (n := (l.length : Int) + 1) (by omega))) ?_
  refine JL_evO (gs := [999]) rfl ?_
  refine JL_evO (gs := [999]) rfl ?_
  refine JL_evO (gs := [999]) rfl ?_
  refine JL_set 31 (v' := .int .i64 ((l.length + 1 : Nat) : Int)) rfl (congrArg (Value.int .i64) (w64 (n := (l.length : Int) + 1) (by omega))) ?_
  refine JL_val [] (OpV_build rfl rfl rfl rfl rfl rfl) rfl ?_
  refine JL_alloc rfl rfl rfl (fun _ => rfl) fun pn => ?_
  refine JL_store 0 rfl rfl rfl rfl rfl [] rfl ?_
  refine JL_all [] rfl ?_
  (repeat' (first | refine J_seq ?_ | refine J_skip ?_ | refine J_yes rfl ?_ | refine J_no rfl ?_))
  refine J_region ?_
  refine JL_all [] rfl ?_
  (repeat' (first | refine J_seq ?_ | refine J_skip ?_ | refine J_yes rfl ?_ | refine J_no rfl ?_))
  refine J_region ?_
  refine JL_all [] rfl ?_
  (repeat' (first | refine J_seq ?_ | refine J_skip ?_ | refine J_yes rfl ?_ | refine J_no rfl ?_))
  have hcl : (capsB l).length = l.length := by simp [capsB]
  refine J_block ?_
  refine J_addnil 39 3 ?_
  refine J_loopF (σ := Nat × Option Addr × Nat) (fun t => [(6, .int .i64 (t.1 : Int)), (5, .int .i64 (((capsB l).take t.1).foldl (fun m c => if c < m then c else m) 1099511627776)), (4, .pointer (some ⟨pn, 0, none⟩)), (0, .slice (some ⟨b, o, none⟩) l.length c)])
    (fun t => [blk pn 24 [.int .i64 ((l.length + 1 : Nat) : Int), .int .i64 1, .int .i64 ((l.length + 1 : Nat) : Int), .slice t.2.1 t.1 t.2.2], .own (.slice t.2.1 t.1 t.2.2) 39 3 t.1 (arcs (chainL 1 ((capsB l).take t.1))), .seg b o (ints l)])
    (fun t => t.1 ≤ l.length) (fun t => l.length - t.1) (0, none, 0) ⟨rfl, rfl, rfl, rfl, trivial⟩ ?_ (Nat.zero_le _) ?_
  · exact Fit.re (A := [.own (.slice none 0 0) 39 3 0 [], blk pn 24 [.int .i64 ((l.length + 1 : Nat) : Int), .int .i64 1, .int .i64 ((l.length + 1 : Nat) : Int), .slice none 0 0], .seg b o (ints l)]) (R := []) [1, 0, 2] rfl (by decide)
  rintro ⟨k, A1, c1⟩ hk
  simp only at hk ⊢
  (repeat' (first | refine J_seq ?_ | refine J_skip ?_ | refine J_yes rfl ?_ | refine J_no rfl ?_))
  refine J_region ?_
  refine JL_all [] rfl ?_
  (repeat' (first | refine J_seq ?_ | refine J_skip ?_ | refine J_yes rfl ?_ | refine J_no rfl ?_))
  refine J_dec rfl (fun hlt => J_skip ?_) (fun hge => ?_)
  · have hkl : k < l.length := by omega
    obtain ⟨x, hx⟩ : ∃ x, l[k]? = some x := ⟨l[k], List.getElem?_eq_getElem hkl⟩
    have hxb := hl x (List.mem_of_getElem? hx)
    have htk : (capsB l).take (k + 1) = (capsB l).take k ++ [pickZ x 40] := by
      rw [List.take_add_one]
      unfold capsB
      rw [List.getElem?_map, hx]; rfl
    have htl : ((capsB l).take k).length = k := by rw [List.length_take]; omega
    refine J_seq (J_block ?_)
    (repeat' (first | refine J_seq ?_ | refine J_skip ?_ | refine J_yes rfl ?_ | refine J_no rfl ?_))
    refine J_region ?_
    refine JL_evO (gs := [999]) rfl ?_
    refine JL_evO (gs := [999]) rfl ?_
    refine JL_val [] (idx1 rfl rfl rfl rfl rfl hkl) rfl ?_
    refine JL_val [] (ldseg 2 rfl rfl rfl rfl (ints_get hx)) rfl ?_
    refine JL_callR [] (pick18_fn hxb (by decide : (0:Int) < 40)) rfl rfl rfl rfl (by kernel_rfl) trivial (fun _ => rfl) ?_
    rintro v H' ⟨rfl, rfl⟩
    refine ⟨rfl, ?_⟩
    refine JL_all [] rfl ?_
    (repeat' (first | refine J_seq ?_ | refine J_skip ?_ | refine J_yes rfl ?_ | refine J_no rfl ?_))
    refine J_region ?_
    refine JL_all [] rfl ?_
    (repeat' (first | refine J_seq ?_ | refine J_skip ?_ | refine J_yes rfl ?_ | refine J_no rfl ?_))
    refine J_region ?_
    refine JL_evO (gs := [999]) rfl ?_
    refine JL_val [] (v := .slice A1 k c1) (OpV_blk 0 rfl rfl rfl rfl) rfl ?_
    refine JL_evO (gs := [999]) rfl ?_
    refine JL_evO (gs := [999]) rfl ?_
    refine JL_set 50 (v' := .int .i64 ((1 + k : Nat) : Int)) rfl (congrArg (Value.int .i64) ((w64 (by omega)).trans (by omega))) ?_
    refine JL_evO (gs := [999]) rfl ?_
    refine JL_evO (gs := [999]) rfl ?_
    refine JL_set 52 (v' := .int .i64 ((1 + k + 1 : Nat) : Int)) rfl (congrArg (Value.int .i64) ((w64 (by omega)).trans (by omega))) ?_
    refine JL_evO (gs := [999]) rfl ?_
    refine JL_val [] (OpV_build rfl rfl rfl rfl rfl rfl) rfl ?_
    refine JL_lit rfl rfl rfl rfl rfl rfl rfl (fun _ => rfl) fun g2 => ?_
    refine JL_appendS (n := k) (m := 1) (off := 0) (news := arcs [⟨((1 + k : Nat) : Int), ((1 + k + 1 : Nat) : Int), pickZ x 40⟩]) 2 0 rfl rfl rfl rfl rfl rfl (by decide) rfl rfl (shows_blk g2 _ _ (0, 0)) (fun _ => rfl) rfl rfl (by omega) (by omega) (fun _ _ => rfl) fun A2 c2 => ?_
    refine JL_evO (gs := [999]) rfl ?_
    refine JL_store 1 rfl rfl rfl rfl rfl [] rfl ?_
    refine JL_nil ?_
    (repeat' (first | refine J_seq ?_ | refine J_skip ?_ | refine J_yes rfl ?_ | refine J_no rfl ?_))
    refine J_region ?_
    refine JL_all [] rfl ?_
    refine ⟨(k + 1, A2, c2), ⟨?_, ?_, rfl, rfl, trivial⟩, ?_, hkl, by show l.length - (k + 1) < l.length - k; omega⟩
    · show some (Value.int .i64 (IntKind.i64.wrap ((k : Int) + 1))) = _
      rw [w64 (by omega)]; rfl
    · rw [htk, List.foldl_append]; rfl
    · have e : arcs (chainL 1 ((capsB l).take k)) ++ arcs [⟨((1 + k : Nat) : Int), ((1 + k + 1 : Nat) : Int), pickZ x 40⟩] = arcs (chainL 1 ((capsB l).take (k + 1))) := by
        rw [htk, chainL_app, htl]
        unfold arcs
        rw [List.flatMap_append]
      refine Fit.trans (Fit.sub (List.sublist_cons_self _ _)) ?_
      show Fit _ [_, .own _ _ _ _ (arcs (chainL 1 ((capsB l).take k)) ++ arcs [⟨((1 + k : Nat) : Int), ((1 + k + 1 : Nat) : Int), pickZ x 40⟩]), _] _
      rw [e]
      exact Fit.refl
  · obtain rfl : k = l.length := by omega
    rw [List.take_of_length_le (by omega)]
    have hcr : ∀ c ∈ capsB l, 0 ≤ c ∧ c ≤ 99 := by
      intro c hc
      obtain ⟨x, _, rfl⟩ := List.mem_map.1 hc
      have := pickZ_in (c := x) (n := 40) (by decide)
      omega
    have hR := chain_rightW (cs := capsB l) (by omega) (by omega) hcr
    have hal : (chainN (capsB l)).arcs.length = l.length := by show (chainL 1 (capsB l)).length = _; rw [chainL_length, hcl]
    obtain ⟨mo, hmo⟩ : ∃ mo, mo = (capsB l).foldl (fun m c => if c < m then c else m) 1099511627776 := ⟨_, rfl⟩
    obtain ⟨m1, m2, m3⟩ := least_spec (capsB l) 1099511627776
    rw [← hmo] at m1 m2 m3 ⊢
    have hmm : mo ∈ capsB l := by
      rcases m3 with h | h
      · exfalso
        obtain ⟨c0, hc0⟩ : ∃ c0, c0 ∈ capsB l := ⟨(capsB l)[0]'(by omega), List.getElem_mem _⟩
        have h1 := m2 c0 hc0
        have h2 := hcr c0 hc0
        omega
      · exact h
    have hmr := hcr mo hmm
    refine J_fit (K := [blk pn 24 (netC (chainN (capsB l)) A1 c1), .own (.slice A1 (chainN (capsB l)).arcs.length c1) 39 3 (chainN (capsB l)).arcs.length (arcs (chainN (capsB l)).arcs), .seg b o (ints l)]) (by
      unfold netC
      rw [hal]
      show Fit _ _ [blk pn _ [.int .i64 (((capsB l).length + 1 : Nat) : Int), .int .i64 1, .int .i64 (((capsB l).length + 1 : Nat) : Int), _], _, _]
      rw [hcl]
      exact Fit.refl) (J_exit ?_)
    have hph := fun {p k : Nat} {f : List Int} (h : Dn (chainN (capsB l)) 1 _ p k f) => chain_phases hR hmr.1 hmm m2 h
    have hF := hR.fits2
    have hnn := hR.nodes
    have hnd : (chainN (capsB l)).nodes = ((l.length + 1 : Nat) : Int) := by show (((capsB l).length + 1 : Nat) : Int) = _; rw [hcl]
    obtain ⟨N, hN⟩ : ∃ N, N = chainN (capsB l) := ⟨_, rfl⟩
    rw [← hN] at hR hal hF hph hnn hnd ⊢
    have hcm := cost_most hR (by omega)
    obtain ⟨_, _, q1, q2⟩ := mostZ_in hnn.1 hnn.2 (show N.arcs.length ≤ 2001 by omega)
    obtain ⟨bz1, bz2⟩ := boundZ_in hnn.1 hnn.2 (show N.arcs.length ≤ 2001 by omega)
    refine J_know (own_is 1 rfl) fun ⟨_, _, hA1, hl1⟩ => ?_
    obtain ⟨g1, hA1⟩ := own_at hA1 hl1
    have hA1' : N.arcs ≠ [] → A1 = some ⟨g1, 0, none⟩ := fun h => hA1 (fun h0 => h (List.length_eq_zero_iff.1 (by have := arcs_length N.arcs; rw [h0] at this; simp at this; omega)))
    (repeat' (first | refine J_seq ?_ | refine J_skip ?_ | refine J_yes rfl ?_ | refine J_no rfl ?_))
    refine J_region ?_
    refine JL_val [] (v := netV N A1 c1) (OpV_blk 0 rfl rfl rfl rfl) rfl ?_
    refine JL_callR [] (brun_fn N hF hR A1 c1 g1 0 hA1') rfl rfl rfl rfl (by kernel_rfl) ⟨⟨1, _, by simp, rfl, shows_ownS hA1, seen_ownS hA1⟩, trivial⟩ (fun _ => rfl) ?_
    rintro v H' ⟨fb, p, k, s, hdb, hp, hs1, hs2, rfl, rfl⟩
    obtain ⟨r1, r2, r3⟩ := hph hdb
    have hsm : (s : Int) ≤ p * mostZ N := by
      have e1 : ((s : Nat) : Int) ≤ ((costB N.nodes.toNat N.arcs.length * p : Nat) : Int) := Int.ofNat_le.2 hs2
      rw [Int.natCast_mul] at e1
      have e2 : (costB N.nodes.toNat N.arcs.length : Int) * p ≤ mostZ N * p := Int.mul_le_mul_of_nonneg_right hcm (by omega)
      rw [Int.mul_comm (mostZ N)] at e2
      omega
    have hpm : (p : Int) * mostZ N ≤ boundZ N := Int.mul_le_mul_of_nonneg_right (by omega) (by omega)
    have hpm0 : 0 ≤ (p : Int) * mostZ N := Int.mul_nonneg (by omega) (by omega)
    refine ⟨rfl, ?_⟩
    refine JL_run [] rfl ?_
    refine JL_alloc rfl rfl rfl (fun _ => rfl) fun b8 => ?_
    refine JL_store 0 rfl rfl rfl rfl rfl [] rfl ?_
    refine JL_all [] rfl ?_
    have S1 := share_fn (exZ (N.arcs.zip fb) N.snk) p k s (boundZ N) (by unfold inB; omega) (fun _ => by unfold inB; omega)
    have hsh : shareZ (s : Int) (boundZ N) = (Int.tdiv (1000 * s) (boundZ N), 0) := by unfold shareZ; rw [if_neg (by omega)]
    rw [hsh] at S1
    obtain ⟨w, hw⟩ : ∃ w, w = Int.tdiv (1000 * (s : Int)) (boundZ N) := ⟨_, rfl⟩
    have hwb : 0 ≤ w ∧ w ≤ 1000 := by
      rw [hw, Int.tdiv_eq_ediv_of_nonneg (by omega)]
      refine ⟨Int.ediv_nonneg (by omega) (by omega), ?_⟩
      have := Int.ediv_le_ediv bz1 (show 1000 * (s : Int) ≤ 1000 * boundZ N by omega)
      rwa [Int.mul_ediv_cancel _ (by omega)] at this
    rw [← hw] at S1
    rw [r1] at S1 ⊢
    (repeat' (first | refine J_seq ?_ | refine J_skip ?_ | refine J_yes rfl ?_ | refine J_no rfl ?_))
    refine J_region ?_
    refine JL_val [] (v := countV mo p k s (boundZ N)) (OpV_blk 0 rfl rfl rfl rfl) rfl ?_
    refine JL_callR [] (S1) rfl rfl rfl rfl (by kernel_rfl) trivial (fun _ => rfl) ?_
    rintro v H' ⟨rfl, rfl⟩
    refine ⟨rfl, ?_⟩
    refine JL_all [] rfl ?_
    (repeat' (first | refine J_seq ?_ | refine J_skip ?_ | refine J_yes rfl ?_ | refine J_no rfl ?_))
    refine J_region ?_
    refine JL_evO (gs := [999]) rfl ?_
    refine JL_evO (gs := [999]) rfl ?_
    refine JL_evO (gs := [999]) rfl ?_
    refine JL_set 70 (v' := .bool false) rfl (congrArg Value.bool (cdec_no (fun h => h rfl))) ?_
    refine JL_run [2] rfl ?_
    refine JL_set 74 (v' := .bool false) rfl (congrArg Value.bool (cdec_no (fun h => h rfl))) ?_
    refine JL_run [2, 6] rfl ?_
    refine JL_val [2, 6] (v := .int .i64 mo) (OpV_blk 0 rfl rfl rfl rfl) rfl ?_
    refine JL_run [2, 6] rfl ?_
    refine JL_set 80 (v' := .bool false) rfl (congrArg Value.bool (cdec_no (fun h => h rfl))) ?_
    refine JL_all [2, 6, 12] rfl ?_
    (repeat' (first | refine J_seq ?_ | refine J_skip ?_ | refine J_yes rfl ?_ | refine J_no rfl ?_))
    refine J_dec rfl (fun h => (by have : (1000 : Int) < w := h; omega)) (fun _ => J_skip ?_)
    (repeat' (first | refine J_seq ?_ | refine J_skip ?_ | refine J_yes rfl ?_ | refine J_no rfl ?_))
    refine J_region ?_
    refine JL_all [] rfl ?_
    (repeat' (first | refine J_seq ?_ | refine J_skip ?_ | refine J_yes rfl ?_ | refine J_no rfl ?_))
    refine J_dec rfl (fun hm0 => ?_) (fun hm1 => J_skip ?_)
    · obtain ⟨rfl, rfl⟩ := r2 hm0
      (repeat' (first | refine J_seq ?_ | refine J_skip ?_ | refine J_yes rfl ?_ | refine J_no rfl ?_))
      refine J_region ?_
      refine JL_run [] rfl ?_
      refine JL_val [] (v := .int .i64 ((0 : Nat) : Int)) (OpV_blk 0 rfl rfl rfl rfl) rfl ?_
      refine JL_evO (gs := [999]) rfl ?_
      refine JL_evO (gs := [999]) rfl ?_
      refine JL_set 89 (v' := .bool true) rfl (congrArg Value.bool (cdec_yes rfl)) ?_
      refine JL_run [3] rfl ?_
      refine JL_val [3] (v := .int .i64 ((0 : Nat) : Int)) (OpV_blk 0 rfl rfl rfl rfl) rfl ?_
      refine JL_run [3] rfl ?_
      refine JL_set 94 (v' := .bool true) rfl (congrArg Value.bool (cdec_yes rfl)) ?_
      refine JL_run [3, 8] rfl ?_
      refine JL_val [3, 8] (v := .int .i64 (s : Int)) (OpV_blk 0 rfl rfl rfl rfl) rfl ?_
      refine JL_all [3, 8] rfl ?_
      exact J_ret ⟨_, rfl, congrArg Value.bool (cdec_yes (by omega))⟩
    · obtain ⟨rfl, rfl⟩ := r3 (by omega)
      (repeat' (first | refine J_seq ?_ | refine J_skip ?_ | refine J_yes rfl ?_ | refine J_no rfl ?_))
      refine J_walk 23 [(0, true), (1, true), (2, true), (3, true), (4, true), (5, true), (6, true), (7, true), (8, true), (9, true), (10, true), (11, true), (12, true), (13, true), (14, true), (15, true), (16, true), (17, true), (18, true), (19, false), (20, true), (21, true), (22, true)] [0, 1] (by kernel_rfl) (by decide) rfl ?_
      refine JW_run [] rfl ?_
      refine JW_still [] rfl (OpV_blk (v := .int .i64 ((1 : Nat) : Int)) 0 rfl rfl rfl rfl) rfl ?_
      refine JW_run [] rfl ?_
      refine JW_set 102 (v' := .bool true) rfl (congrArg Value.bool (cdec_yes rfl)) ?_
      refine JW_run [3] rfl ?_
      refine JW_still [3] rfl (OpV_blk (v := .int .i64 ((1 : Nat) : Int)) 0 rfl rfl rfl rfl) rfl ?_
      refine JW_run [3] rfl ?_
      refine JW_set 107 (v' := .bool true) rfl (congrArg Value.bool (cdec_yes rfl)) ?_
      refine JW_run [3, 8] rfl ?_
      refine JW_still [3, 8] rfl (OpV_blk (v := .int .i64 (s : Int)) 0 rfl rfl rfl rfl) rfl ?_
      refine JW_run [3, 8] rfl ?_
      refine JW_set 114 (v' := .bool true) rfl (congrArg Value.bool (cdec_yes (show (l.length : Int) ≤ s by rw [hal] at hs1; omega))) ?_
      refine JW_run [3, 8, 15] rfl ?_
      refine JW_still [3, 8, 15] rfl (OpV_blk (v := .int .i64 (s : Int)) 0 rfl rfl rfl rfl) rfl ?_
      refine JW_run [3, 8, 15] rfl ?_
      refine JW_still [3, 8, 15] rfl (OpV_blk (v := netV N A1 c1) 1 rfl rfl rfl rfl) rfl ?_
      refine JW_eff rfl ?_
      refine JL_callR [3, 8, 15] (most_fn N hnn.1 hnn.2 (by omega) A1 c1) rfl rfl rfl rfl (by kernel_rfl) trivial (fun _ => rfl) ?_
      rintro _ H' ⟨rfl, rfl⟩
      refine ⟨rfl, JL_nil ⟨⟨[0, 1], by decide, rfl⟩, ?_⟩⟩
      refine JW_all [3, 8, 15] rfl ?_
      refine JL_nil ?_
      exact J_ret ⟨_, rfl, congrArg Value.bool (cdec_yes (by omega))⟩
end Go.Proofs.Ytdhenmmmkdhonaa
