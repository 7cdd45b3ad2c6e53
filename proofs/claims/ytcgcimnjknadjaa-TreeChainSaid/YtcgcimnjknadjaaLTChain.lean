
/- TreeChain: along one path of arcs as much is led as the least of them lets through. -/
import Derived.Test.YtcgcimnjknadjaaSh11N
import Derived.Test.YtcgcimnjknadjaaSame5
import Derived.Test.YtcgcimnjknadjaaMade11
import Derived.Test.YtcgcimnjknadjaaChainP
set_option linter.unusedVariables false
set_option linter.unusedSimpArgs false
namespace Go.Proofs.Ytcgcimnjknadjaa
open Go.RowKit
/-- The capacities out of raw numbers. -/
def capsZ (l : List Int) : List Int := l.map fun x => pickZ x 100
def minZ (l : List Int) : Int := (capsZ l).foldl (fun m c => if c < m then c else m) 1099511627776
theorem minZ_spec : ∀ (l : List Int) (m : Int), (l.foldl (fun m c => if c < m then c else m) m ≤ m) ∧ (∀ c ∈ l, l.foldl (fun m c => if c < m then c else m) m ≤ c) ∧ (l.foldl (fun m c => if c < m then c else m) m = m ∨ l.foldl (fun m c => if c < m then c else m) m ∈ l)
  | [], m => ⟨Int.le_refl _, fun _ h => (by cases h), .inl rfl⟩
  | c :: l, m => by
    obtain ⟨h1, h2, h3⟩ := minZ_spec l (if c < m then c else m)
    simp only [List.foldl_cons]
    have hm : (if c < m then c else m) ≤ m ∧ (if c < m then c else m) ≤ c := by split <;> omega
    refine ⟨Int.le_trans h1 hm.1, fun d hd => ?_, ?_⟩
    · rcases List.mem_cons.1 hd with rfl | hd
      · exact Int.le_trans h1 hm.2
      · exact h2 d hd
    · rcases h3 with h3 | h3
      · rw [h3]
        split
        · exact .inr (by simp)
        · exact .inl rfl
      · exact .inr (by simp [h3])
set_option maxHeartbeats 2000000 in
theorem treeChain_fn (A : Option Addr) (c b o : Nat) (l : List Int) (hA : l ≠ [] → A = some ⟨b, o, none⟩) (hl : ∀ x ∈ l, inB x) (hs : l.length * 8 ≤ 140737488351232) (least : Int) (hleast : inB least) :
    Fn 3 [.slice A l.length c, .int .i64 least] [] [.seg b o (ints l)] fun v _ => v = .bool true := by
  refine Fn_of Try.func3 rfl rfl fun w0 => ?_
  (repeat' (first | refine J_seq ?_ | refine J_skip ?_ | refine J_yes rfl ?_ | refine J_no rfl ?_))
  refine J_region ?_
  refine JL_all [] rfl ?_
  (repeat' (first | refine J_seq ?_ | refine J_skip ?_ | refine J_yes rfl ?_ | refine J_no rfl ?_))
  refine J_region ?_
  refine JL_callR [] (shown11_fn) rfl rfl rfl rfl (by kernel_rfl) trivial (fun _ => rfl) ?_
  rintro v H' ⟨rfl, rfl⟩
  refine ⟨rfl, ?_⟩
  refine JL_all [] rfl ?_
  (repeat' (first | refine J_seq ?_ | refine J_skip ?_ | refine J_yes rfl ?_ | refine J_no rfl ?_))
  refine J_region ?_
  refine JL_evO (gs := [999]) rfl ?_
  refine JL_evO (gs := [999]) rfl ?_
  refine JL_evO (gs := [999]) rfl ?_
  refine JL_set 25 (v' := .bool false) rfl rfl ?_
  refine JL_evO (gs := [2]) rfl ?_
  refine JL_evO (gs := [2]) rfl ?_
  refine JL_evO (gs := [2]) rfl ?_
  refine JL_evO (gs := [2]) rfl ?_
  refine JL_evO (gs := [2]) rfl ?_
  by_cases h0 : l.length = 0
  · refine JL_set 30 (v' := .bool true) rfl (congrArg Value.bool (cdec_yes (by omega))) ?_
    refine JL_all [2, 7] rfl ?_
    (repeat' (first | refine J_seq ?_ | refine J_skip ?_ | refine J_yes rfl ?_ | refine J_no rfl ?_))
    (repeat' (first | refine J_seq ?_ | refine J_skip ?_ | refine J_yes rfl ?_ | refine J_no rfl ?_))
    refine J_region ?_
    refine JL_all [] rfl ?_
    exact J_ret ⟨_, rfl, rfl⟩
  refine JL_set 30 (v' := .bool false) rfl (congrArg Value.bool (cdec_no (by omega))) ?_
  refine JL_all [2, 7] rfl ?_
  (repeat' (first | refine J_seq ?_ | refine J_skip ?_ | refine J_yes rfl ?_ | refine J_no rfl ?_))
  refine J_dec rfl (fun _ => ?_) (fun h60 => J_skip ?_)
  · (repeat' (first | refine J_seq ?_ | refine J_skip ?_ | refine J_yes rfl ?_ | refine J_no rfl ?_))
    refine J_region ?_
    refine JL_all [] rfl ?_
    exact J_ret ⟨_, rfl, rfl⟩
  have hlen : 0 < l.length ∧ l.length ≤ 60 := by omega
  obtain rfl := hA (by rintro rfl; simp at h0)
  (repeat' (first | refine J_seq ?_ | refine J_skip ?_ | refine J_yes rfl ?_ | refine J_no rfl ?_))
  refine J_region ?_
  refine JL_evO (gs := [999]) rfl ?_
  refine JL_evO (gs := [999]) rfl ?_
  refine JL_evO (gs := [999]) rfl ?_
  refine JL_set 38 (v' := .int .i64 ((l.length + 1 : Nat) : Int)) rfl (congrArg (Value.int .i64) (w64 (n := (l.length : Int) + 1) (by omega))) ?_
  refine JL_evO (gs := [999]) rfl ?_
  refine JL_evO (gs := [999]) rfl ?_
  refine JL_evO (gs := [999]) rfl ?_
  refine JL_set 41 (v' := .int .i64 ((l.length + 1 : Nat) : Int)) rfl (congrArg (Value.int .i64) (w64 (n := (l.length : Int) + 1) (by omega))) ?_
  refine JL_val [] (OpV_build rfl rfl rfl rfl rfl rfl) rfl ?_
  refine JL_alloc rfl rfl rfl (fun _ => rfl) fun pn => ?_
  refine JL_store 0 rfl rfl rfl rfl rfl [] rfl ?_
  refine JL_all [] rfl ?_
  (repeat' (first | refine J_seq ?_ | refine J_skip ?_ | refine J_yes rfl ?_ | refine J_no rfl ?_))
  refine J_region ?_
  refine JL_all [] rfl ?_
  (repeat' (first | refine J_seq ?_ | refine J_skip ?_ | refine J_yes rfl ?_ | refine J_no rfl ?_))
  refine J_region ?_
  refine JL_all [] rfl ?_
  (repeat' (first | refine J_seq ?_ | refine J_skip ?_ | refine J_yes rfl ?_ | refine J_no rfl ?_))
  have hcl : (capsZ l).length = l.length := by simp [capsZ]
  refine J_block ?_
  refine J_addnil 29 3 ?_
  refine J_loopF (σ := Nat × Option Addr × Nat) (fun t => [(8, .int .i64 (t.1 : Int)), (7, .int .i64 (((capsZ l).take t.1).foldl (fun m c => if c < m then c else m) 1099511627776)), (6, .pointer (some ⟨pn, 0, none⟩)), (0, .slice (some ⟨b, o, none⟩) l.length c), (1, .int .i64 least)])
    (fun t => [blk pn 26 [.int .i64 ((l.length + 1 : Nat) : Int), .int .i64 1, .int .i64 ((l.length + 1 : Nat) : Int), .slice t.2.1 t.1 t.2.2], .own (.slice t.2.1 t.1 t.2.2) 29 3 t.1 (arcs (chainL 1 ((capsZ l).take t.1))), .seg b o (ints l)])
    (fun t => t.1 ≤ l.length) (fun t => l.length - t.1) (0, none, 0) ⟨rfl, rfl, rfl, rfl, rfl, trivial⟩ ?_ (Nat.zero_le _) ?_
  · exact Fit.re (A := [.own (.slice none 0 0) 29 3 0 [], blk pn 26 [.int .i64 ((l.length + 1 : Nat) : Int), .int .i64 1, .int .i64 ((l.length + 1 : Nat) : Int), .slice none 0 0], .seg b o (ints l)]) (R := []) [1, 0, 2] rfl (by decide)
  rintro ⟨k, A1, c1⟩ hk
  simp only at hk ⊢
  (repeat' (first | refine J_seq ?_ | refine J_skip ?_ | refine J_yes rfl ?_ | refine J_no rfl ?_))
  refine J_region ?_
  refine JL_all [] rfl ?_
  (repeat' (first | refine J_seq ?_ | refine J_skip ?_ | refine J_yes rfl ?_ | refine J_no rfl ?_))
  refine J_dec rfl (fun hlt => J_skip ?_) (fun hge => ?_)
  · have hkl : k < l.length := by omega
    obtain ⟨x, hx⟩ : ∃ x, l[k]? = some x := ⟨l[k], List.getElem?_eq_getElem hkl⟩
    have hxb := hl x (List.mem_of_getElem? hx)
    have htk : (capsZ l).take (k + 1) = (capsZ l).take k ++ [pickZ x 100] := by
      rw [List.take_add_one]
      unfold capsZ
      rw [List.getElem?_map, hx]; rfl
    have htl : ((capsZ l).take k).length = k := by rw [List.length_take]; omega
    refine J_seq (J_block ?_)
    (repeat' (first | refine J_seq ?_ | refine J_skip ?_ | refine J_yes rfl ?_ | refine J_no rfl ?_))
    refine J_region ?_
    refine JL_evO (gs := [999]) rfl ?_
    refine JL_evO (gs := [999]) rfl ?_
    refine JL_val [] (idx1 rfl rfl rfl rfl rfl hkl) rfl ?_
    refine JL_val [] (ldseg 2 rfl rfl rfl rfl (ints_get hx)) rfl ?_
    refine JL_callR [] (pick11_fn hxb (by decide : (0:Int) < 100)) rfl rfl rfl rfl (by kernel_rfl) trivial (fun _ => rfl) ?_
    rintro v H' ⟨rfl, rfl⟩
    refine ⟨rfl, ?_⟩
    refine JL_all [] rfl ?_
    (repeat' (first | refine J_seq ?_ | refine J_skip ?_ | refine J_yes rfl ?_ | refine J_no rfl ?_))
    refine J_region ?_
    refine JL_all [] rfl ?_
    (repeat' (first | refine J_seq ?_ | refine J_skip ?_ | refine J_yes rfl ?_ | refine J_no rfl ?_))
    refine J_region ?_
    refine JL_evO (gs := [999]) rfl ?_
    refine JL_val [] (v := .slice A1 k c1) (OpV_blk 0 rfl rfl rfl rfl) rfl ?_
    refine JL_evO (gs := [999]) rfl ?_
    refine JL_evO (gs := [999]) rfl ?_
    refine JL_set 60 (v' := .int .i64 ((1 + k : Nat) : Int)) rfl (congrArg (Value.int .i64) ((w64 (by omega)).trans (by omega))) ?_
    refine JL_evO (gs := [999]) rfl ?_
    refine JL_evO (gs := [999]) rfl ?_
    refine JL_set 62 (v' := .int .i64 ((1 + k + 1 : Nat) : Int)) rfl (congrArg (Value.int .i64) ((w64 (by omega)).trans (by omega))) ?_
    refine JL_evO (gs := [999]) rfl ?_
    refine JL_val [] (OpV_build rfl rfl rfl rfl rfl rfl) rfl ?_
    refine JL_lit rfl rfl rfl rfl rfl rfl rfl (fun _ => rfl) fun g2 => ?_
    refine JL_appendS (n := k) (m := 1) (off := 0) (news := arcs [⟨((1 + k : Nat) : Int), ((1 + k + 1 : Nat) : Int), pickZ x 100⟩]) 2 0 rfl rfl rfl rfl rfl rfl (by decide) rfl rfl (shows_blk g2 _ _ (0, 0)) (fun _ => rfl) rfl rfl (by omega) (by omega) (fun _ _ => rfl) fun A2 c2 => ?_
    refine JL_evO (gs := [999]) rfl ?_
    refine JL_store 1 rfl rfl rfl rfl rfl [] rfl ?_
    refine JL_nil ?_
    (repeat' (first | refine J_seq ?_ | refine J_skip ?_ | refine J_yes rfl ?_ | refine J_no rfl ?_))
    refine J_region ?_
    refine JL_all [] rfl ?_
    refine ⟨(k + 1, A2, c2), ⟨?_, ?_, rfl, rfl, rfl, trivial⟩, ?_, hkl, by show l.length - (k + 1) < l.length - k; omega⟩
    · show some (Value.int .i64 (IntKind.i64.wrap ((k : Int) + 1))) = _
      rw [w64 (by omega)]; rfl
    · rw [htk, List.foldl_append]; rfl
    · have e : arcs (chainL 1 ((capsZ l).take k)) ++ arcs [⟨((1 + k : Nat) : Int), ((1 + k + 1 : Nat) : Int), pickZ x 100⟩] = arcs (chainL 1 ((capsZ l).take (k + 1))) := by
        rw [htk, chainL_app, htl]
        unfold arcs
        rw [List.flatMap_append]
      refine Fit.trans (Fit.sub (List.sublist_cons_self _ _)) ?_
      show Fit _ [_, .own _ _ _ _ (arcs (chainL 1 ((capsZ l).take k)) ++ arcs [⟨((1 + k : Nat) : Int), ((1 + k + 1 : Nat) : Int), pickZ x 100⟩]), _] _
      rw [e]
      exact Fit.refl
  · obtain rfl : k = l.length := by omega
    rw [List.take_of_length_le (by omega)]
    have hcr : ∀ c ∈ capsZ l, 0 ≤ c ∧ c ≤ 99 := by
      intro c hc
      obtain ⟨x, _, rfl⟩ := List.mem_map.1 hc
      have := pickZ_in (c := x) (n := 100) (by decide)
      omega
    have hR := chain_right (cs := capsZ l) (by omega) (by omega) hcr
    have hal : (chainN (capsZ l)).arcs.length = l.length := by show (chainL 1 (capsZ l)).length = _; rw [chainL_length, hcl]
    obtain ⟨mo, hmo⟩ : ∃ mo, mo = (capsZ l).foldl (fun m c => if c < m then c else m) 1099511627776 := ⟨_, rfl⟩
    obtain ⟨m1, m2, m3⟩ := minZ_spec (capsZ l) 1099511627776
    rw [← hmo] at m1 m2 m3 ⊢
    have hmm : mo ∈ capsZ l := by
      rcases m3 with h | h
      · exfalso
        obtain ⟨c0, hc0⟩ : ∃ c0, c0 ∈ capsZ l := ⟨(capsZ l)[0]'(by omega), List.getElem_mem _⟩
        have h1 := m2 c0 hc0
        have h2 := hcr c0 hc0
        omega
      · exact h
    have hmr := hcr mo hmm
    refine J_fit (K := [blk pn 26 (netC (chainN (capsZ l)) A1 c1), .own (.slice A1 (chainN (capsZ l)).arcs.length c1) 29 3 (chainN (capsZ l)).arcs.length (arcs (chainN (capsZ l)).arcs), .seg b o (ints l)]) (by
      unfold netC
      rw [hal]
      show Fit _ _ [blk pn _ [.int .i64 (((capsZ l).length + 1 : Nat) : Int), .int .i64 1, .int .i64 (((capsZ l).length + 1 : Nat) : Int), _], _, _]
      rw [hcl]
      exact Fit.refl) (J_exit ?_)
    have hzf : IsFlow (chainN (capsZ l)) (List.replicate (capsZ l).length 0) := by
      have := zeroFlow _ hR
      rwa [hal, ← hcl] at this
    have hzv : exZ ((chainN (capsZ l)).arcs.zip (List.replicate (capsZ l).length 0)) (chainN (capsZ l)).snk = 0 := by
      rw [← chain_flow hzf 0 (by omega), List.getD_eq_getElem?_getD, List.getElem?_replicate, if_pos (by omega)]; rfl
    have hF := hR.fits2
    obtain ⟨N, hN⟩ : ∃ N, N = chainN (capsZ l) := ⟨_, rfl⟩
    rw [← hN] at hR hal hF ⊢
    refine J_know (own_is 1 rfl) fun ⟨_, _, hA1, hl1⟩ => ?_
    obtain ⟨g1, hA1⟩ := own_at hA1 hl1
    have hA1' : N.arcs ≠ [] → A1 = some ⟨g1, 0, none⟩ := fun h => hA1 (fun h0 => h (List.length_eq_zero_iff.1 (by have := arcs_length N.arcs; rw [h0] at this; simp at this; omega)))
    have hpk := pickZ_in (c := least) (n := 50) (by decide)
    (repeat' (first | refine J_seq ?_ | refine J_skip ?_ | refine J_yes rfl ?_ | refine J_no rfl ?_))
    refine J_region ?_
    refine JL_run [] rfl ?_
    refine JL_callR [] (pick11_fn hleast (by decide : (0:Int) < 50)) rfl rfl rfl rfl (by kernel_rfl) trivial (fun _ => rfl) ?_
    rintro v H' ⟨rfl, rfl⟩
    refine ⟨rfl, ?_⟩
    refine JL_all [] rfl ?_
    refine J_set 10 (v' := .int .i64 (1 + pickZ least 50)) rfl (congrArg (Value.int .i64) (w64 (by omega))) ?_
    obtain ⟨x, hx⟩ : ∃ x, x = 1 + pickZ least 50 := ⟨_, rfl⟩
    rw [← hx]
    have hxb : inB x := by unfold inB; omega
    (repeat' (first | refine J_seq ?_ | refine J_skip ?_ | refine J_yes rfl ?_ | refine J_no rfl ?_))
    refine J_walk 15 [(0, true), (1, true), (2, true), (4, true), (3, false), (5, false), (6, true), (7, true), (8, true), (9, true), (10, true), (11, true), (12, true), (13, true), (14, true)] [0] (by kernel_rfl) (by decide) rfl ?_
    refine JW_still [] rfl (OpV_blk (v := netV N A1 c1) 0 rfl rfl rfl rfl) rfl ?_
    refine JW_evO (gs := [999]) rfl rfl ?_
    refine JW_evO (gs := [999]) rfl rfl ?_
    refine JW_evO (gs := [999]) rfl rfl ?_
    refine JW_eff rfl ?_
    refine JL_make (n := l.length) (c := l.length) rfl rfl rfl rfl rfl rfl (by omega) (by omega) (by omega) (fun _ => rfl) fun gz => ?_
    rw [show made [Value.int .i64 0] (l.length * 1) = ints (List.replicate l.length 0) by rw [made_one, Nat.mul_one]; simp [ints]]
    refine JL_nil ⟨⟨[1], by decide, rfl⟩, ?_⟩
    rw [hcl] at hzf hzv
    rw [← hN] at hzf hzv
    have hzin := IsFlow.inB hR hzf.toRanged
    have TT := tblock_fn N hF hR A1 c1 g1 0 hA1' (List.replicate l.length 0) (some ⟨gz, 0, none⟩) l.length gz 0 (fun _ => rfl) hzin (by rw [List.length_replicate]; omega) x hxb
    rw [List.length_replicate] at TT
    refine JW_eff rfl ?_
    refine JL_callR [] TT rfl rfl rfl rfl (by kernel_rfl) ⟨⟨2, _, by simp, rfl, shows_ownS hA1, seen_ownS hA1⟩, ⟨0, _, by simp, rfl, shows_own, .inr rfl⟩, trivial⟩ (fun _ => rfl) ?_
    rintro v H' (⟨_, _, f1, ws1, k1, Ao, co, hB1, _, _, hw1, rfl, rfl⟩ | ⟨h, _, _⟩ | ⟨_, h, _, _⟩)
    case inr.inl => exact absurd hzf h
    case inr.inr => omega
    refine ⟨rfl, JL_nil ⟨⟨[2], by decide, rfl⟩, ?_⟩⟩
    (repeat' (refine JW_evO (gs := [999]) rfl rfl ?_))
    refine JW_nil ?_
    refine JL_nil ?_
    obtain ⟨want, hwant⟩ : ∃ w : Int, w = if mo < x then 0 else mo := ⟨_, rfl⟩
    obtain ⟨many, hmany⟩ : ∃ w : Nat, w = if mo < x then 0 else 1 := ⟨_, rfl⟩
    have hres : ws1.length = many ∧ IsFlow N f1 ∧ (∀ i, i < l.length → f1.getD i 0 = want) ∧ mo < x + exZ (N.arcs.zip f1) N.snk := by
      subst hN
      have hB1' := hB1
      rw [← hcl] at hB1 hzf hzv
      by_cases h : mo < x
      · rw [if_pos h] at hwant hmany
        obtain ⟨e1, e2⟩ := chain_none hR (by omega) hzf hmm hB1 (by omega)
        subst e2
        refine ⟨by omega, hzf, fun i hi => ?_, by omega⟩
        rw [hwant, List.getD_eq_getElem?_getD, List.getElem?_replicate, if_pos (by omega)]; rfl
      · rw [if_neg h] at hwant hmany
        obtain ⟨e1, e2⟩ := chain_one hR (by omega) hmm m2 (by omega) hB1
        have hf1 := (hB1.gain hR (by omega) hzf).1
        refine ⟨by omega, hf1, fun i hi => ?_, by omega⟩
        rw [hwant, chain_flow hf1 i (by omega), e2]
    obtain ⟨r1, hf1, r2, r3⟩ := hres
    have hf1l : f1.length = l.length := by rw [hf1.len, hal]
    have hf1in := IsFlow.inB hR hf1.toRanged
    refine J_know (own_is 0 rfl) fun ⟨_, _, hAo, hlo⟩ => ?_
    obtain ⟨go, hAo⟩ := own_at hAo hlo
    have hAo' : f1 ≠ [] → Ao = some ⟨go, 0, none⟩ := fun h => hAo (by simpa [ints] using h)
    (repeat' (first | refine J_seq ?_ | refine J_skip ?_ | refine J_yes rfl ?_ | refine J_no rfl ?_))
    refine J_region ?_
    refine JL_evO (gs := [999]) rfl ?_
    refine JL_evO (gs := [999]) rfl ?_
    refine JL_evO (gs := [999]) rfl ?_
    refine JL_set 84 (v' := .bool false) rfl (congrArg Value.bool (cdec_no (by decide))) ?_
    refine JL_all [2] rfl ?_
    (repeat' (first | refine J_seq ?_ | refine J_skip ?_ | refine J_yes rfl ?_ | refine J_no rfl ?_))
    refine J_dec rfl (fun h => absurd rfl h) (fun _ => J_skip ?_)
    (repeat' (first | refine J_seq ?_ | refine J_skip ?_ | refine J_yes rfl ?_ | refine J_no rfl ?_))
    refine J_region ?_
    refine JL_all [] rfl ?_
    (repeat' (first | refine J_seq ?_ | refine J_skip ?_ | refine J_yes rfl ?_ | refine J_no rfl ?_))
    refine J_region ?_
    refine JL_all [] rfl ?_
    refine J_cutE (σ := Unit) (fun _ => [(15, .int .i64 want), (16, .int .i64 (many : Int)), (10, .int .i64 x), (11, .slice Ao l.length co), (12, .int .i64 (ws1.length : Int)), (6, .pointer (some ⟨pn, 0, none⟩))])
      (fun _ => [.own (.slice Ao l.length co) 2 1 l.length (ints f1), blk pn 26 (netC N A1 c1), .own (.slice A1 N.arcs.length c1) 29 3 N.arcs.length (arcs N.arcs)]) ?_ ?_
    · (repeat' (first | refine J_seq ?_ | refine J_skip ?_ | refine J_yes rfl ?_ | refine J_no rfl ?_))
      refine J_region ?_
      refine JL_all [] rfl ?_
      (repeat' (first | refine J_seq ?_ | refine J_skip ?_ | refine J_yes rfl ?_ | refine J_no rfl ?_))
      refine J_dec rfl (fun hlt => ?_) (fun hge => J_skip ?_)
      · rw [if_pos hlt] at hwant hmany
        (repeat' (first | refine J_seq ?_ | refine J_skip ?_ | refine J_yes rfl ?_ | refine J_no rfl ?_))
        refine J_region ?_
        refine JL_all [] rfl ?_
        (repeat' (first | refine J_seq ?_ | refine J_skip ?_ | refine J_yes rfl ?_ | refine J_no rfl ?_))
        refine J_region ?_
        refine JL_all [] rfl ?_
        exact ⟨(), ⟨by rw [hwant]; rfl, by rw [hmany]; rfl, rfl, rfl, rfl, rfl, trivial⟩, Fit.re (A := [_, _, _, _, _]) (R := []) [0, 2, 3] rfl (by decide)⟩
      · rw [if_neg hge] at hwant hmany
        exact ⟨(), ⟨by rw [hwant]; rfl, by rw [hmany]; rfl, rfl, rfl, rfl, rfl, trivial⟩, Fit.re (A := [_, _, _, _, _]) (R := []) [0, 2, 3] rfl (by decide)⟩
    rintro ⟨⟩
    (repeat' (first | refine J_seq ?_ | refine J_skip ?_ | refine J_yes rfl ?_ | refine J_no rfl ?_))
    refine J_region ?_
    refine JL_all [] rfl ?_
    (repeat' (first | refine J_seq ?_ | refine J_skip ?_ | refine J_yes rfl ?_ | refine J_no rfl ?_))
    refine J_block ?_
    refine J_loop (σ := Nat) (fun i => [(17, .int .i64 (i : Int)), (16, .int .i64 (many : Int)), (15, .int .i64 want), (10, .int .i64 x), (11, .slice Ao l.length co), (12, .int .i64 (ws1.length : Int)), (6, .pointer (some ⟨pn, 0, none⟩))])
      (fun _ => [.own (.slice Ao l.length co) 2 1 l.length (ints f1), blk pn 26 (netC N A1 c1), .own (.slice A1 N.arcs.length c1) 29 3 N.arcs.length (arcs N.arcs)]) (fun i => i ≤ l.length) (fun i => l.length - i) 0 [0, 1, 2] ⟨rfl, rfl, rfl, rfl, rfl, rfl, rfl, trivial⟩ (by decide) rfl (Nat.zero_le _) ?_
    intro i hi
    (repeat' (first | refine J_seq ?_ | refine J_skip ?_ | refine J_yes rfl ?_ | refine J_no rfl ?_))
    refine J_region ?_
    refine JL_all [] rfl ?_
    (repeat' (first | refine J_seq ?_ | refine J_skip ?_ | refine J_yes rfl ?_ | refine J_no rfl ?_))
    refine J_dec rfl (fun hlt => J_skip ?_) (fun hge => J_exit ?_)
    · have hil : i < l.length := by omega
      have hfi : f1[i]? = some want := by
        have := r2 i hil
        rw [List.getD_eq_getElem?_getD, List.getElem?_eq_getElem (by omega)] at this
        rw [List.getElem?_eq_getElem (by omega), ← this]; rfl
      obtain rfl := hAo' (by intro h; rw [h] at hf1l; simp at hf1l; omega)
      refine J_seq (J_block ?_)
      (repeat' (first | refine J_seq ?_ | refine J_skip ?_ | refine J_yes rfl ?_ | refine J_no rfl ?_))
      refine J_region ?_
      refine JL_evO (gs := [999]) rfl ?_
      refine JL_evO (gs := [999]) rfl ?_
      refine JL_val [] (idx1z rfl rfl rfl rfl rfl hil) rfl ?_
      refine JL_val [] (OpV_own 0 rfl rfl rfl (ints_get hfi)) rfl ?_
      refine JL_all [] rfl ?_
      (repeat' (first | refine J_seq ?_ | refine J_skip ?_ | refine J_yes rfl ?_ | refine J_no rfl ?_))
      refine J_dec rfl (fun h => absurd rfl h) (fun _ => J_skip ?_)
      (repeat' (first | refine J_seq ?_ | refine J_skip ?_ | refine J_yes rfl ?_ | refine J_no rfl ?_))
      refine J_region ?_
      refine JL_all [] rfl ?_
      refine ⟨i + 1, [0, 1, 2], ⟨?_, rfl, rfl, rfl, rfl, rfl, rfl, trivial⟩, by decide, rfl, hil, by omega⟩
      show some (Value.int .i64 (IntKind.i64.wrap ((i : Int) + 1))) = _
      rw [w64 (by omega)]; rfl
    · have TT2 := tblock_fn N hF hR A1 c1 g1 0 hA1' f1 Ao co go 0 hAo' hf1in (by omega) x hxb
      rw [hf1l] at TT2
      (repeat' (first | refine J_seq ?_ | refine J_skip ?_ | refine J_yes rfl ?_ | refine J_no rfl ?_))
      refine J_region ?_
      refine JL_val [] (v := netV N A1 c1) (OpV_blk 1 rfl rfl rfl rfl) rfl ?_
      refine JL_run [] rfl ?_
      refine JL_callR [] TT2 rfl rfl rfl rfl (by kernel_rfl) ⟨⟨2, _, by simp, rfl, shows_ownS hA1, seen_ownS hA1⟩, ⟨0, _, by simp, rfl, shows_ownS hAo, seen_ownS hAo⟩, trivial⟩ (fun _ => rfl) ?_
      rintro v H' (⟨_, _, f2, ws2, k2, Ap, cp, hB2, _, _, hw2, rfl, rfl⟩ | ⟨h, _, _⟩ | ⟨_, h, _, _⟩)
      case inr.inl => exact absurd hf1 h
      case inr.inr => omega
      obtain ⟨z1, z2⟩ : ws2.length = 0 ∧ f2 = f1 := by
        subst hN
        exact chain_none hR (by omega) hf1 hmm hB2 r3
      subst z2
      refine ⟨rfl, ?_⟩
      refine JL_know (own_is 0 rfl) fun ⟨_, _, hAp, hlp⟩ => ?_
      obtain ⟨gp, hAp⟩ := own_at hAp hlp
      have hAp' : f2 ≠ [] → Ap = some ⟨gp, 0, none⟩ := fun h => hAp (by simpa [ints] using h)
      have TS := same5_fn Ao co go 0 f2 hAo' (by omega) Ap cp gp 0 f2 hAp'
      rw [hf1l] at TS
      refine JL_all [] rfl ?_
      (repeat' (first | refine J_seq ?_ | refine J_skip ?_ | refine J_yes rfl ?_ | refine J_no rfl ?_))
      refine J_region ?_
      refine JL_evO (gs := [999]) rfl ?_
      refine JL_evO (gs := [999]) rfl ?_
      refine JL_evO (gs := [999]) rfl ?_
      refine JL_evO (gs := [999]) rfl ?_
      refine JL_set 119 (v' := .bool true) rfl (congrArg Value.bool (cdec_yes (by omega))) ?_
      refine JL_run [3] rfl ?_
      refine JL_set 123 (v' := .bool true) rfl (congrArg Value.bool (cdec_yes rfl)) ?_
      refine JL_run [3, 7] rfl ?_
      refine JL_set 127 (v' := .bool true) rfl (congrArg Value.bool (cdec_yes (by omega))) ?_
      refine JL_run [3, 7, 11] rfl ?_
      refine JL_callR [3, 7, 11] TS rfl rfl rfl rfl (by kernel_rfl) ⟨⟨1, _, by simp, rfl, shows_ownS hAo, seen_ownS hAo⟩, ⟨0, _, by simp, rfl, shows_ownS hAp, seen_ownS hAp⟩, trivial⟩ (fun _ => rfl) ?_
      rintro v H' ⟨rfl, rfl⟩
      refine ⟨rfl, ?_⟩
      refine JL_all [3, 7, 11] rfl ?_
      exact J_ret ⟨_, rfl, congrArg Value.bool (cdec_yes rfl)⟩
end Go.Proofs.Ytcgcimnjknadjaa
