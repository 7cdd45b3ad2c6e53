
/- MatchFull: between two sides of as many nodes, each beside all but one, all are paired. -/
import Derived.Test.YtjbcgjahfalkaaaQX2
import Derived.Test.YtjbcgjahfalkaaaQX4
import Derived.Test.YtjbcgjahfalkaaaFullP
import Derived.Test.YtjbcgjahfalkaaaRightN
import Derived.Test.YtjbcgjahfalkaaaQX1
set_option linter.unusedVariables false
set_option linter.unusedSimpArgs false
namespace Go.Proofs.Ytjbcgjahfalkaaa
open Go.RowKit
set_option maxHeartbeats 4000000 in
theorem matchFull_fn (many : Int) (hmy : inB many) (out : Int) (hout : inB out) :
    Fn 12 [.int .i64 many, .int .i64 out] [] [] fun v _ => v = .bool true := by
  refine Fn_of Try.func12 rfl rfl fun w0 => ?_
  (repeat' (first | refine J_seq ?_ | refine J_skip ?_ | refine J_yes rfl ?_ | refine J_no rfl ?_))
  refine J_region ?_
  refine JL_all [] rfl ?_
  (repeat' (first | refine J_seq ?_ | refine J_skip ?_ | refine J_yes rfl ?_ | refine J_no rfl ?_))
  refine J_region ?_
  refine JL_callR [] (shown16_fn) rfl rfl rfl rfl (by kernel_rfl) trivial (fun _ => rfl) ?_
  rintro v H' ⟨rfl, rfl⟩
  refine ⟨rfl, ?_⟩
  refine JL_all [] rfl ?_
  (repeat' (first | refine J_seq ?_ | refine J_skip ?_ | refine J_yes rfl ?_ | refine J_no rfl ?_))
  refine J_region ?_
  refine JL_all [] rfl ?_
  have hp8 := pickZ_in (c := many) (n := 8) (by decide)
  obtain ⟨n, hn⟩ : ∃ n : Nat, 2 + pickZ many 8 = n := ⟨(2 + pickZ many 8).toNat, by omega⟩
  have hn2 : 2 ≤ n ∧ n ≤ 9 := by omega
  have hps := pickZ_in (c := out) (n := (n : Int)) (by omega)
  obtain ⟨s, hs⟩ : ∃ s : Nat, pickZ out (n : Int) = s := ⟨(pickZ out (n : Int)).toNat, by omega⟩
  (repeat' (first | refine J_seq ?_ | refine J_skip ?_ | refine J_yes rfl ?_ | refine J_no rfl ?_))
  refine J_region ?_
  refine JL_run [] rfl ?_
  refine JL_callR [] (pick16_fn hmy (by decide : (0 : Int) < 8)) rfl rfl rfl rfl (by kernel_rfl) trivial (fun _ => rfl) ?_
  rintro v H' ⟨rfl, rfl⟩
  refine ⟨rfl, ?_⟩
  refine JL_all [] rfl ?_
  refine J_set 6 (v' := .int .i64 (n : Int)) rfl (congrArg (Value.int .i64) ((w64 (by omega)).trans hn)) ?_
  (repeat' (first | refine J_seq ?_ | refine J_skip ?_ | refine J_yes rfl ?_ | refine J_no rfl ?_))
  refine J_region ?_
  refine JL_run [] rfl ?_
  refine JL_val [] (OpV_build rfl rfl rfl rfl rfl rfl) rfl ?_
  refine JL_alloc rfl rfl rfl (fun _ => rfl) fun p7 => ?_
  refine JL_store 0 rfl rfl rfl rfl rfl [] rfl ?_
  refine JL_nil ?_
  (repeat' (first | refine J_seq ?_ | refine J_skip ?_ | refine J_yes rfl ?_ | refine J_no rfl ?_))
  refine J_region ?_
  refine JL_all [] rfl ?_
  (repeat' (first | refine J_seq ?_ | refine J_skip ?_ | refine J_yes rfl ?_ | refine J_no rfl ?_))
  refine J_addnil 77 2 ?_
  refine J_block ?_
  refine J_loopF (σ := Nat × Option Addr × Nat) (fun t => [(8, .int .i64 ((t.1 + 1 : Nat) : Int)), (6, .int .i64 (n : Int)), (7, .pointer (some ⟨p7, 0, none⟩)), (1, .int .i64 out)])
    (fun t => [blk p7 70 [.int .i64 (n : Int), .int .i64 (n : Int), .slice t.2.1 (allF n s t.1).length t.2.2], .own (.slice t.2.1 (allF n s t.1).length t.2.2) 77 2 (allF n s t.1).length (edgs (allF n s t.1))]) (fun t => t.1 ≤ n) (fun t => n - t.1)
    (0, none, 0) ⟨rfl, rfl, rfl, rfl, trivial⟩ (Fit.picks [1, 0] (by decide) rfl) (Nat.zero_le _) ?_
  rintro ⟨i, A1, c1⟩ hi
  simp only at hi ⊢
  (repeat' (first | refine J_seq ?_ | refine J_skip ?_ | refine J_yes rfl ?_ | refine J_no rfl ?_))
  refine J_region ?_
  refine JL_all [] rfl ?_
  refine J_dec rfl (fun hlt => J_skip ?_) (fun hge => J_exit ?_)
  · have hin : i < n := by omega
    have hal := allF_len n s i
    have him : i * n ≤ 9 * 9 := Nat.mul_le_mul (by omega) hn2.2
    refine J_seq (J_block ?_)
    (repeat' (first | refine J_seq ?_ | refine J_skip ?_ | refine J_yes rfl ?_ | refine J_no rfl ?_))
    refine J_region ?_
    refine JL_all [] rfl ?_
    (repeat' (first | refine J_seq ?_ | refine J_skip ?_ | refine J_yes rfl ?_ | refine J_no rfl ?_))
    refine J_block ?_
    refine J_loopF (σ := Nat × Option Addr × Nat) (fun t => [(9, .int .i64 ((t.1 + 1 : Nat) : Int)), (8, .int .i64 ((i + 1 : Nat) : Int)), (6, .int .i64 (n : Int)), (7, .pointer (some ⟨p7, 0, none⟩)), (1, .int .i64 out)])
      (fun t => [blk p7 70 [.int .i64 (n : Int), .int .i64 (n : Int), .slice t.2.1 (allF n s i ++ rowF n s i t.1).length t.2.2], .own (.slice t.2.1 (allF n s i ++ rowF n s i t.1).length t.2.2) 77 2 (allF n s i ++ rowF n s i t.1).length (edgs (allF n s i ++ rowF n s i t.1))]) (fun t => t.1 ≤ n) (fun t => n - t.1)
      (0, A1, c1) ⟨rfl, rfl, rfl, rfl, rfl, trivial⟩ ?_ (Nat.zero_le _) ?_
    · show Fit _ _ [blk p7 _ [_, _, .slice A1 (allF n s i ++ []).length c1], .own (.slice A1 (allF n s i ++ []).length c1) _ _ (allF n s i ++ []).length (edgs (allF n s i ++ []))]
      rw [List.append_nil]
      exact Fit.refl
    rintro ⟨m, A2, c2⟩ hm
    simp only at hm ⊢
    have hrl := rowF_len n s i m
    have hll : (allF n s i ++ rowF n s i m).length ≤ 90 := by rw [List.length_append]; omega
    (repeat' (first | refine J_seq ?_ | refine J_skip ?_ | refine J_yes rfl ?_ | refine J_no rfl ?_))
    refine J_region ?_
    refine JL_all [] rfl ?_
    refine J_dec rfl (fun hlt2 => J_skip ?_) (fun hge2 => J_exit ?_)
    · have hmn : m < n := by omega
      have hrs := rowF_succ n s i m
      have hmod : ((i : Int) + 1 + s).tmod n = (((i + 1 + s) % n : Nat) : Int) := by
        rw [Int.tmod_eq_emod_of_nonneg (by omega)]; simp
      have hq : IntKind.i64.wrap (((m + 1 : Nat) : Int) + 1) = ((m + 1 + 1 : Nat) : Int) := w64 (by omega)
      have hml := Nat.mod_lt (i + 1 + s) (show 0 < n by omega)
      refine J_seq (J_block ?_)
      (repeat' (first | refine J_seq ?_ | refine J_skip ?_ | refine J_yes rfl ?_ | refine J_no rfl ?_))
      refine J_region ?_
      refine JL_run [] rfl ?_
      refine JL_callR [] (pick16_fn hout (show (0 : Int) < (n : Int) by omega)) rfl rfl rfl rfl (by kernel_rfl) trivial (fun _ => rfl) ?_
      rintro v H' ⟨rfl, rfl⟩
      refine ⟨rfl, ?_⟩
      refine JL_run [] rfl ?_
      refine JL_set 38 (v' := .int .i64 ((i : Int) + 1 + s)) rfl (congrArg (Value.int .i64) (by rw [hs]; exact (w64 (by omega)).trans (by omega))) ?_
      refine JL_val [] (OpV_rem rfl rfl rfl (by omega)) rfl ?_
      refine JL_set 40 (v' := .int .i64 (((i + 1 + s) % n : Nat) : Int)) rfl (congrArg (Value.int .i64) hmod) ?_
      refine JL_run [] rfl ?_
      refine JL_nil ?_
      refine J_set 42 (v' := .bool (cdec (m ≠ (i + 1 + s) % n))) rfl (congrArg Value.bool (by rw [w64 (by omega)]; exact cdec_iff (by omega))) ?_
      refine J_dec rfl (fun hne => ?_) (fun heq => J_skip ?_)
      · rw [if_pos hne] at hrs
        (repeat' (first | refine J_seq ?_ | refine J_skip ?_ | refine J_yes rfl ?_ | refine J_no rfl ?_))
        refine J_region ?_
        refine JL_run [] rfl ?_
        refine JL_val [] (v := .slice A2 (allF n s i ++ rowF n s i m).length c2) (OpV_blk 0 rfl rfl rfl rfl) rfl ?_
        refine JL_run [] rfl ?_
        refine JL_val [] (OpV_build rfl rfl rfl rfl rfl rfl) rfl ?_
        refine JL_lit rfl rfl rfl rfl rfl rfl rfl (fun _ => rfl) fun g5 => ?_
        refine JL_appendS (n := (allF n s i ++ rowF n s i m).length) (m := 1) (off := 0) (news := edgs [⟨((i + 1 : Nat) : Int), ((m + 1 : Nat) : Int)⟩]) 2 0 rfl rfl rfl rfl rfl rfl (by decide) rfl rfl (shows_blk g5 _ _ (0, 0)) (fun _ => rfl) rfl rfl (by omega) (by omega) (fun _ _ => rfl) fun A5 c5 => ?_
        refine JL_run [] rfl ?_
        refine JL_store 1 rfl rfl rfl rfl rfl [] rfl ?_
        refine JL_nil ?_
        have e1 : edgs (allF n s i ++ rowF n s i (m + 1)) = edgs (allF n s i ++ rowF n s i m) ++ edgs [⟨((i + 1 : Nat) : Int), ((m + 1 : Nat) : Int)⟩] := by rw [hrs, ← List.append_assoc, edgs_app]
        have e2 : (allF n s i ++ rowF n s i (m + 1)).length = (allF n s i ++ rowF n s i m).length + 1 := by rw [hrs, ← List.append_assoc, List.length_append]; rfl
        rw [← e1, ← e2]
        (repeat' (first | refine J_seq ?_ | refine J_skip ?_ | refine J_yes rfl ?_ | refine J_no rfl ?_))
        refine J_region ?_
        refine JL_all [] rfl ?_
        exact ⟨(m + 1, A5, c5), ⟨congrArg some (congrArg (Value.int .i64) hq), rfl, rfl, rfl, rfl, trivial⟩, Fit.picks [1, 2] (by decide) rfl, hmn, by show n - (m + 1) < n - m; omega⟩
      · rw [if_neg heq, List.append_nil] at hrs
        (repeat' (first | refine J_seq ?_ | refine J_skip ?_ | refine J_yes rfl ?_ | refine J_no rfl ?_))
        refine J_region ?_
        refine JL_all [] rfl ?_
        refine ⟨(m + 1, A2, c2), ⟨congrArg some (congrArg (Value.int .i64) hq), rfl, rfl, rfl, rfl, trivial⟩, ?_, hmn, by show n - (m + 1) < n - m; omega⟩
        simp only [hrs]
        exact Fit.refl
    · obtain rfl : m = n := by omega
      (repeat' (first | refine J_seq ?_ | refine J_skip ?_ | refine J_yes rfl ?_ | refine J_no rfl ?_))
      refine J_region ?_
      refine JL_all [] rfl ?_
      have e1 := allF_succ m s i
      refine ⟨(i + 1, A2, c2), ⟨congrArg some (congrArg (Value.int .i64) (w64 (n := ((i + 1 : Nat) : Int) + 1) (by omega))), rfl, rfl, rfl, trivial⟩, ?_, hin, by show m - (i + 1) < m - i; omega⟩
      simp only [e1]
      exact Fit.refl
  · obtain rfl : i = n := by omega
    have hg := full_right (s := s) hn2.1 hn2.2
    have hmost := fun {p : List Int} h1 h2 => full_most (p := p) hn2.1 hn2.2 h1 h2 (s := s)
    have hel : (fullG i s).edges.length = (allF i s i).length := rfl
    refine J_fit (K := [blk p7 70 (grC (fullG i s) A1 c1), .own (.slice A1 (fullG i s).edges.length c1) 77 2 (fullG i s).edges.length (edgs (fullG i s).edges)]) Fit.refl ?_
    have hnl : (fullG i s).left = i := rfl
    have hnr : (fullG i s).right = i := rfl
    obtain ⟨g, hge⟩ : ∃ g, g = fullG i s := ⟨_, rfl⟩
    rw [← hge] at hg hmost hnl hnr ⊢
    refine J_know (own_is 1 rfl) fun ⟨_, _, hA1, hl1⟩ => ?_
    obtain ⟨g1, hA1⟩ := own_at hA1 hl1
    have hA1' : g.edges ≠ [] → A1 = some ⟨g1, 0, none⟩ := fun h => hA1 (fun h0 => h (List.length_eq_zero_iff.1 (by have := edgs_length g.edges; rw [h0] at this; simp at this; omega)))
    (repeat' (first | refine J_seq ?_ | refine J_skip ?_ | refine J_yes rfl ?_ | refine J_no rfl ?_))
    refine J_region ?_
    refine JL_val [] (v := grV g A1 c1) (OpV_blk 0 rfl rfl rfl rfl) rfl ?_
    refine JL_callR [] (pairsG_fn 112 (.inl rfl) g hg A1 c1 g1 0 hA1' i hnl) rfl rfl rfl rfl (by kernel_rfl) ⟨⟨1, _, by simp, rfl, shows_ownS hA1, seen_ownS hA1⟩, trivial⟩ (fun _ => rfl) ?_
    rintro v H' ⟨fp, ph, wk, Ap, cp, hfp, hdp, rfl, rfl⟩
    obtain ⟨mp, bp⟩ := pairs_best hg hfp hnl hnr
    obtain ⟨P, hP⟩ : ∃ P, P = pairsL fp i g.edges.length := ⟨_, rfl⟩
    rw [← hP] at mp bp ⊢
    have hPl := hmost mp bp
    refine ⟨rfl, ?_⟩
    refine JL_all [] rfl ?_
    refine J_know (own_is 0 rfl) fun ⟨_, _, hAp, hlp⟩ => ?_
    obtain ⟨gp, hAp⟩ := own_at hAp hlp
    have hAp' : P ≠ [] → Ap = some ⟨gp, 0, none⟩ := fun h => hAp (by simpa [ints] using h)
    (repeat' (first | refine J_seq ?_ | refine J_skip ?_ | refine J_yes rfl ?_ | refine J_no rfl ?_))
    refine J_region ?_
    refine JL_val [] (v := grV g A1 c1) (OpV_blk 1 rfl rfl rfl rfl) rfl ?_
    refine JL_callR [] (pairsG_fn 116 (.inr rfl) g hg A1 c1 g1 0 hA1' i hnl) rfl rfl rfl rfl (by kernel_rfl) ⟨⟨2, _, by simp, rfl, shows_ownS hA1, seen_ownS hA1⟩, trivial⟩ (fun _ => rfl) ?_
    rintro v H' ⟨fq, ph2, wk2, Aq, cq, _, hdq, rfl, rfl⟩
    obtain ⟨rfl, _, _⟩ := hdq.uniq (gnet_right hg) (by decide) hdp
    rw [← hP]
    refine ⟨rfl, ?_⟩
    refine JL_all [] rfl ?_
    refine J_know (own_is 0 rfl) fun ⟨_, _, hAq, hlq⟩ => ?_
    obtain ⟨gq, hAq⟩ := own_at hAq hlq
    have hAq' : P ≠ [] → Aq = some ⟨gq, 0, none⟩ := fun h => hAq (by simpa [ints] using h)
    (repeat' (first | refine J_seq ?_ | refine J_skip ?_ | refine J_yes rfl ?_ | refine J_no rfl ?_))
    refine J_region ?_
    refine JL_evO (gs := [999]) rfl ?_
    refine JL_evO (gs := [999]) rfl ?_
    refine JL_evO (gs := [999]) rfl ?_
    refine JL_set 63 (v' := .bool true) rfl (congrArg Value.bool (cdec_yes rfl)) ?_
    refine JL_run [2] rfl ?_
    refine JL_set 67 (v' := .bool true) rfl (congrArg Value.bool (cdec_yes rfl)) ?_
    refine JL_run [2, 6] rfl ?_
    refine JL_set 73 (v' := .bool true) rfl (congrArg Value.bool (cdec_yes (by omega))) ?_
    refine JL_run [2, 6, 12] rfl ?_
    refine JL_set 79 (v' := .bool true) rfl (congrArg Value.bool (cdec_yes (by omega))) ?_
    refine JL_val [2, 6, 12, 18] (v := grV g A1 c1) (OpV_blk 2 rfl rfl rfl rfl) rfl ?_
    refine JL_run [2, 6, 12, 18] rfl ?_
    refine JL_callR [2, 6, 12, 18] (mright_fn g hg A1 c1 g1 0 hA1' P (by omega) (fun x hx => by have := mp.rng x hx; have := hg.len; unfold inB; omega) Ap cp gp 0 hAp') rfl rfl rfl rfl (by kernel_rfl) ⟨⟨3, _, by simp, rfl, shows_ownS hA1, seen_ownS hA1⟩, ⟨1, _, by simp, rfl, shows_ownS hAp, seen_ownS hAp⟩, trivial⟩ (fun _ => rfl) ?_
    rintro _ H' ⟨rfl, rfl⟩
    refine ⟨rfl, ?_⟩
    refine JL_set 82 (v' := .bool true) rfl (congrArg Value.bool (cdec_yes mp)) ?_
    refine JL_run [2, 6, 12, 18, 23] rfl ?_
    refine JL_callR [2, 6, 12, 18, 23] (same16_fn Ap cp gp 0 P hAp' (by omega) Aq cq gq 0 P hAq') rfl rfl rfl rfl (by kernel_rfl) ⟨⟨1, _, by simp, rfl, shows_ownS hAp, seen_ownS hAp⟩, ⟨0, _, by simp, rfl, shows_ownS hAq, seen_ownS hAq⟩, trivial⟩ (fun _ => rfl) ?_
    rintro _ H' ⟨rfl, rfl⟩
    refine ⟨rfl, ?_⟩
    refine JL_all [2, 6, 12, 18, 23] rfl ?_
    exact J_ret ⟨_, rfl, congrArg Value.bool (cdec_yes rfl)⟩
end Go.Proofs.Ytjbcgjahfalkaaa
