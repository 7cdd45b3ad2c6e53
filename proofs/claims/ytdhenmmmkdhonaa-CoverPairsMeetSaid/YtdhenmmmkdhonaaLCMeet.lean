
/- CoverPairsMeet: each pair has just one of the fewest nodes, and each of these is of a pair. No condition. -/
import Derived.Test.YtdhenmmmkdhonaaCovT
import Derived.Test.YtdhenmmmkdhonaaQX3
import Derived.Test.YtdhenmmmkdhonaaQF
import Derived.Test.YtdhenmmmkdhonaaQX4
import Derived.Test.YtdhenmmmkdhonaaQX1
import Derived.Test.YtdhenmmmkdhonaaRwM
set_option linter.unusedVariables false
set_option linter.unusedSimpArgs false
namespace Go.Proofs.Ytdhenmmmkdhonaa
open Go.RowKit
theorem pair_one {g : Gr} {l sl sr : List Int} (hM : IsMatch g l) (hC : IsCover g sl sr) (hlen : sl.length + sr.length = l.length) {x : Int} (hx : x ∈ l) {e : Edg} (he : g.edges[x.toNat]? = some e) : ¬ (e.l ∈ sl ↔ e.r ∈ sr) := by
  intro h
  have hm := hC.meet e (List.mem_of_getElem? he)
  have hl : e.l ∈ sl := by rcases hm with hm | hm; exact hm; exact h.2 hm
  have hr := h.1 hl
  obtain ⟨_, h2⟩ := cover_tight hM hC hlen
  obtain ⟨y, hy, hyr, hyl⟩ := h2 _ hr
  obtain ⟨e', he', _⟩ := hM.at hy
  rw [eR_of he'] at hyr
  rw [eL_of he'] at hyl
  have hxy : x = y := match_left hM hx hy he he' (.inr hyr.symm)
  subst hxy
  rw [he] at he'
  obtain rfl := Option.some.inj he'
  exact hyl hl
set_option maxHeartbeats 4000000 in
theorem coverMeet_fn (sides : Int) (hs : inB sides) (A : Option Addr) (c b o : Nat) (l : List Int) (hA : l ≠ [] → A = some ⟨b, o, none⟩) (hl : ∀ x ∈ l, inB x) (hsz : l.length * 8 ≤ 140737488351232) :
    Fn 6 [.int .i64 sides, .slice A l.length c] [] [.seg b o (ints l)] fun v _ => v = .bool true := by
  refine Fn_of Try.func6 rfl rfl fun w0 => ?_
  (repeat' (first | refine J_seq ?_ | refine J_skip ?_ | refine J_yes rfl ?_ | refine J_no rfl ?_))
  refine J_region ?_
  refine JL_all [] rfl ?_
  (repeat' (first | refine J_seq ?_ | refine J_skip ?_ | refine J_yes rfl ?_ | refine J_no rfl ?_))
  refine J_region ?_
  refine JL_callR [] (shown17_fn) rfl rfl rfl rfl (by kernel_rfl) trivial (fun _ => rfl) ?_
  rintro v H' ⟨rfl, rfl⟩
  refine ⟨rfl, ?_⟩
  refine JL_all [] rfl ?_
  (repeat' (first | refine J_seq ?_ | refine J_skip ?_ | refine J_yes rfl ?_ | refine J_no rfl ?_))
  refine J_region ?_
  refine JL_all [] rfl ?_
  refine J_no rfl (J_skip ?_)
  (repeat' (first | refine J_seq ?_ | refine J_skip ?_ | refine J_yes rfl ?_ | refine J_no rfl ?_))
  refine J_region ?_
  refine JL_run [] rfl ?_
  refine JL_callR [] (drawn17_fn sides hs A c b o l hA hl (by omega)) rfl rfl rfl rfl (by kernel_rfl) ⟨⟨0, _, by simp, rfl, shows_seg _ _ _, seen_seg⟩, trivial⟩ (fun _ => rfl) ?_
  rintro v H' ⟨g, A1, c1, hg, hg7, hg7', hg24, rfl, rfl⟩
  refine ⟨rfl, ?_⟩
  have h1 := hg.left
  have h2 := hg.right
  obtain ⟨nl, hnl⟩ : ∃ n : Nat, g.left = n := ⟨g.left.toNat, by omega⟩
  obtain ⟨nr, hnr⟩ : ∃ n : Nat, g.right = n := ⟨g.right.toNat, by omega⟩
  refine JL_know (own_is 0 rfl) fun ⟨_, _, hA1, hl1⟩ => ?_
  obtain ⟨ge, hA1⟩ := own_at hA1 hl1
  have hA1' := edgs_at hA1
  refine JL_alloc rfl rfl rfl (fun _ => rfl) fun p6 => ?_
  refine JL_store 0 rfl rfl rfl rfl rfl [] rfl ?_
  refine JL_nil ?_
  (repeat' (first | refine J_seq ?_ | refine J_skip ?_ | refine J_yes rfl ?_ | refine J_no rfl ?_))
  refine J_region ?_
  refine JL_val [] (v := grV g A1 c1) (OpV_blk 0 rfl rfl rfl rfl) rfl ?_
  refine JL_callR [] (pairsG_fn 116 (.inr rfl) g hg A1 c1 ge 0 hA1' nl hnl) rfl rfl rfl rfl (by kernel_rfl) ⟨⟨1, _, by simp, rfl, shows_ownS hA1, seen_ownS hA1⟩, trivial⟩ (fun _ => rfl) ?_
  rintro v H' ⟨f, ph, wk, Ap, cp, hf, hdn, rfl, rfl⟩
  refine ⟨rfl, ?_⟩
  have hpM := flow_match hg hf.1 hnl hnr
  have hpN := flow_no_more hg hf hnl hnr
  have hpl := pairsL_length f nl g.edges.length
  generalize pairsL f nl g.edges.length = pl at hpM hpN hpl
  have hprng := hpM.rng
  have hpin : ∀ x ∈ pl, inB x := fun x hx => by have := hprng x hx; unfold inB; omega
  refine JL_all [] rfl ?_
  refine J_know (own_is 0 rfl) fun ⟨_, _, hAp, hp1⟩ => ?_
  obtain ⟨gp, hAp⟩ := own_at hAp hp1
  (repeat' (first | refine J_seq ?_ | refine J_skip ?_ | refine J_yes rfl ?_ | refine J_no rfl ?_))
  refine J_region ?_
  refine JL_val [] (v := grV g A1 c1) (OpV_blk 1 rfl rfl rfl rfl) rfl ?_
  refine JL_run [] rfl ?_
  refine JL_callR [] (cof_fn g hg A1 c1 ge 0 hA1' pl (by omega) hpin Ap cp gp 0 (ints_at hAp)) rfl rfl rfl rfl (by kernel_rfl) ⟨⟨2, _, by simp, rfl, shows_ownS hA1, seen_ownS hA1⟩, ⟨0, _, by simp, rfl, shows_ownS hAp, seen_ownS hAp⟩, trivial⟩ (fun _ => rfl) ?_
  rintro v H' (⟨_, _, sl, sr, Al, Ar, cl, cr, i1, i2, i3, i4, rfl, rfl⟩ | ⟨_, ⟨w, hw, hw'⟩, _, _⟩ | ⟨hMn, _, _⟩)
  rotate_left
  · exact absurd (hpN w hw) hw'
  · exact absurd hpM hMn
  obtain ⟨hC, hlen⟩ := of_cover hg hpM hpN i1 i2 i3 i4
  refine ⟨rfl, ?_⟩
  refine JL_know (own_is 0 rfl) fun ⟨_, hcr, hAr, hr1⟩ => ?_
  obtain ⟨gr, hAr⟩ := own_at hAr hr1
  refine JL_know (own_is 1 rfl) fun ⟨_, hcl, hAl, hl1⟩ => ?_
  obtain ⟨gl, hAl⟩ := own_at hAl hl1
  refine JL_run [] rfl ?_
  refine JL_alloc rfl rfl rfl (fun _ => rfl) fun p9 => ?_
  refine JL_store 0 rfl rfl rfl rfl rfl [] rfl ?_
  refine JL_all [] rfl ?_
  (repeat' (first | refine J_seq ?_ | refine J_skip ?_ | refine J_yes rfl ?_ | refine J_no rfl ?_))
  refine J_region ?_
  refine JL_all [] rfl ?_
  refine J_dec rfl (fun h => absurd rfl h) (fun _ => J_skip ?_)
  (repeat' (first | refine J_seq ?_ | refine J_skip ?_ | refine J_yes rfl ?_ | refine J_no rfl ?_))
  refine J_region ?_
  refine JL_all [] rfl ?_
  (repeat' (first | refine J_seq ?_ | refine J_skip ?_ | refine J_yes rfl ?_ | refine J_no rfl ?_))
  refine J_region ?_
  refine JL_all [] rfl ?_
  (repeat' (first | refine J_seq ?_ | refine J_skip ?_ | refine J_yes rfl ?_ | refine J_no rfl ?_))
  have Hl : ∀ x, Fn 23 [.slice Al sl.length cl, .int .i64 x] [] [.seg gl 0 (ints sl)] _ := has_fn Al cl gl 0 sl (ints_at hAl) (by omega)
  have Hr : ∀ x, Fn 23 [.slice Ar sr.length cr, .int .i64 x] [] [.seg gr 0 (ints sr)] _ := has_fn Ar cr gr 0 sr (ints_at hAr) (by omega)
  refine J_block ?_
  refine J_loopF (σ := Nat) (fun k => [(12, .int .i64 (k : Int)), (11, .int .i64 (k : Int)), (7, .slice Ap pl.length cp), (6, .pointer (some ⟨p6, 0, none⟩)), (9, .pointer (some ⟨p9, 0, none⟩))])
    (fun _ => [blk p9 49 (setC sl sr Al Ar cl cr), .own (.slice Ar sr.length cr) 3 1 sr.length (ints sr), .own (.slice Al sl.length cl) 3 1 sl.length (ints sl), .own (.slice Ap pl.length cp) 3 1 pl.length (ints pl), blk p6 44 (grC g A1 c1), .own (.slice A1 g.edges.length c1) 64 2 g.edges.length (edgs g.edges)])
    (fun k => k ≤ pl.length) (fun k => pl.length - k) 0 ⟨rfl, rfl, rfl, rfl, rfl, trivial⟩ (Fit.picks [0, 1, 2, 3, 4, 5] (by decide) rfl) (Nat.zero_le _) ?_
  intro k hk
  (repeat' (first | refine J_seq ?_ | refine J_skip ?_ | refine J_yes rfl ?_ | refine J_no rfl ?_))
  refine J_region ?_
  refine JL_all [] rfl ?_
  (repeat' (first | refine J_seq ?_ | refine J_skip ?_ | refine J_yes rfl ?_ | refine J_no rfl ?_))
  refine J_dec rfl (fun hlt => J_skip ?_) (fun hge => ?_)
  · have hkl : k < pl.length := by omega
    obtain ⟨x, hx⟩ : ∃ x, pl[k]? = some x := ⟨pl[k], List.getElem?_eq_getElem hkl⟩
    have hxm := List.mem_of_getElem? hx
    have hxr := hprng x hxm
    obtain ⟨e, he, hem⟩ := hpM.at hxm
    have hone := pair_one hpM hC hlen hxm he
    obtain rfl := ints_at hAp (by rintro rfl; simp at hkl)
    obtain rfl := hA1' (fun h0 => by rw [h0] at hem; simp at hem)
    refine J_seq (J_block ?_)
    (repeat' (first | refine J_seq ?_ | refine J_skip ?_ | refine J_yes rfl ?_ | refine J_no rfl ?_))
    refine J_walk 10 [(0, true), (1, true), (2, true), (3, true), (4, true), (5, true), (6, true), (7, true), (8, false), (9, false)] [0, 3, 4, 5] (by kernel_rfl) (by decide) rfl ?_
    obtain ⟨n, rfl⟩ : ∃ n : Nat, x = n := ⟨x.toNat, by omega⟩
    rw [Int.toNat_natCast] at he
    have hng : n < g.edges.length := by omega
    refine JW_run [] rfl ?_
    refine JW_still [] rfl (OpV_blk (v := .slice (some ⟨ge, 0, none⟩) g.edges.length c1) 2 rfl rfl rfl rfl) rfl ?_
    refine JW_run [] rfl ?_
    refine JW_still [] rfl (idx1z rfl rfl rfl rfl rfl hkl) rfl ?_
    refine JW_still [] rfl (OpV_own 1 rfl rfl rfl (readT_int hx)) rfl ?_
    refine JW_still [] rfl (idxNz rfl rfl rfl rfl rfl hng) rfl ?_
    refine JW_still [] rfl (OpV_own 3 rfl rfl rfl (readT_edg he)) rfl ?_
    refine JW_eff rfl ?_
    refine JL_alloc rfl rfl rfl (fun _ => rfl) fun p13 => ?_
    refine JL_nil ⟨⟨[1, 4, 5, 6], by decide, rfl⟩, ?_⟩
    refine JW_eff rfl ?_
    refine JL_store 0 rfl rfl rfl rfl rfl [] rfl ?_
    refine JL_nil ⟨⟨[1, 4, 5, 6], by decide, rfl⟩, ?_⟩
    refine JW_all [] rfl ?_
    refine JL_nil ?_
    (repeat' (first | refine J_seq ?_ | refine J_skip ?_ | refine J_yes rfl ?_ | refine J_no rfl ?_))
    refine J_region ?_
    refine JL_run [] rfl ?_
    refine JL_val [] (v := .slice Al sl.length cl) (OpV_blk 1 rfl rfl rfl rfl) rfl ?_
    refine JL_run [] rfl ?_
    refine JL_val [] (v := .int .i64 e.l) (OpV_blk 0 rfl rfl rfl rfl) rfl ?_
    refine JL_callR [] (Hl e.l) rfl rfl rfl rfl (by kernel_rfl) ⟨⟨3, _, by simp, rfl, shows_ownS hAl, seen_ownS hAl⟩, trivial⟩ (fun _ => rfl) ?_
    rintro v H' ⟨rfl, rfl⟩
    refine ⟨rfl, ?_⟩
    refine JL_all [] rfl ?_
    (repeat' (first | refine J_seq ?_ | refine J_skip ?_ | refine J_yes rfl ?_ | refine J_no rfl ?_))
    refine J_region ?_
    refine JL_run [] rfl ?_
    refine JL_val [] (v := .slice Ar sr.length cr) (OpV_blk 1 rfl rfl rfl rfl) rfl ?_
    refine JL_run [] rfl ?_
    refine JL_val [] (v := .int .i64 e.r) (OpV_blk 0 rfl rfl rfl rfl) rfl ?_
    refine JL_callR [] (Hr e.r) rfl rfl rfl rfl (by kernel_rfl) ⟨⟨2, _, by simp, rfl, shows_ownS hAr, seen_ownS hAr⟩, trivial⟩ (fun _ => rfl) ?_
    rintro v H' ⟨rfl, rfl⟩
    refine ⟨rfl, ?_⟩
    refine JL_all [] rfl ?_
    (repeat' (first | refine J_seq ?_ | refine J_skip ?_ | refine J_yes rfl ?_ | refine J_no rfl ?_))
    refine J_region ?_
    refine JL_all [] rfl ?_
    have hb : (cdec (e.l ∈ sl) == cdec (e.r ∈ sr)) = false := by
      by_cases q1 : e.l ∈ sl <;> by_cases q2 : e.r ∈ sr
      · exact absurd ⟨fun _ => q2, fun _ => q1⟩ hone
      · rw [cdec_yes q1, cdec_no q2]; rfl
      · rw [cdec_no q1, cdec_yes q2]; rfl
      · exact absurd ⟨fun h => absurd h q1, fun h => absurd h q2⟩ hone
    refine J_set 61 (v' := .bool false) rfl (congrArg Value.bool hb) ?_
    refine J_no rfl (J_skip ?_)
    (repeat' (first | refine J_seq ?_ | refine J_skip ?_ | refine J_yes rfl ?_ | refine J_no rfl ?_))
    refine J_region ?_
    refine JL_all [] rfl ?_
    (repeat' (first | refine J_seq ?_ | refine J_skip ?_ | refine J_yes rfl ?_ | refine J_no rfl ?_))
    refine J_region ?_
    refine JL_all [] rfl ?_
    have hq : IntKind.i64.wrap ((k : Int) + 1) = ((k + 1 : Nat) : Int) := w64 (by omega)
    exact ⟨k + 1, ⟨congrArg some (congrArg (Value.int .i64) hq), congrArg some (congrArg (Value.int .i64) hq), rfl, rfl, rfl, trivial⟩, Fit.picks [1, 2, 3, 4, 5, 6] (by decide) rfl, hkl, by show pl.length - (k + 1) < pl.length - k; omega⟩
  · obtain rfl : k = pl.length := by omega
    refine J_exit ?_
    (repeat' (first | refine J_seq ?_ | refine J_skip ?_ | refine J_yes rfl ?_ | refine J_no rfl ?_))
    refine J_region ?_
    refine JL_run [] rfl ?_
    refine JL_val [] (v := .slice Al sl.length cl) (OpV_blk 0 rfl rfl rfl rfl) rfl ?_
    refine JL_run [] rfl ?_
    refine JL_val [] (v := .slice Ar sr.length cr) (OpV_blk 0 rfl rfl rfl rfl) rfl ?_
    refine JL_all [] rfl ?_
    exact J_ret ⟨_, rfl, congrArg Value.bool (cdec_yes (by rw [w64 (by omega)]; omega))⟩
end Go.Proofs.Ytdhenmmmkdhonaa
