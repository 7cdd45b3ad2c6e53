
/- The references' words: where one comes (that it ends, and what is wrong). -/
import Derived.Test.YtfogkbmbmaganaaGreatQX19
import Derived.Test.YtfogkbmbmaganaaGreatQF
set_option linter.unusedVariables false
set_option linter.unusedSimpArgs false
namespace Go.Proofs.YtfogkbmbmaganaaGreat
open Go.RowKit
noncomputable def errZ (N : Net) (f : List Int) (least : Int) : Int := if wrongZ N f ≠ 0 then wrongZ N f else if least < 1 then 3 else 0
theorem errZ_wrong {N : Net} {f : List Int} {least : Int} (h : wrongZ N f ≠ 0) : errZ N f least = wrongZ N f := by unfold errZ; rw [if_pos h]
theorem errZ_least {N : Net} {f : List Int} {least : Int} (h : wrongZ N f = 0) (hl : least < 1) : errZ N f least = 3 := by unfold errZ; rw [if_neg (fun k => k h), if_pos hl]
theorem errZ_zero {N : Net} {f : List Int} {least : Int} : errZ N f least = 0 ↔ N.Right ∧ IsFlow N f ∧ 1 ≤ least := by
  unfold errZ
  constructor
  · intro h
    by_cases hw : wrongZ N f ≠ 0
    · rw [if_pos hw] at h; exact absurd h hw
    · rw [if_neg hw] at h
      obtain ⟨hR, hf⟩ := wrong_zero.1 (Classical.not_not.1 hw)
      refine ⟨hR, hf, ?_⟩
      split at h
      · omega
      · omega
  · rintro ⟨hR, hf, hl⟩
    rw [if_neg (fun h => h (wrong_zero.2 ⟨hR, hf⟩)), if_neg (by omega)]
def rreachR (N : Net) (f : List Int) (least : Int) (v : Value) (H' : Heap) : Prop :=
  (errZ N f least = 0 ∧ ∃ (n g : Nat) (l : List Bool), v = .tuple #[.slice (some ⟨g, 0, none⟩) (n + 1) (n + 1), .int .i64 0] ∧ H' = [.own (.slice (some ⟨g, 0, none⟩) (n + 1) (n + 1)) 4 1 (n + 1) (bools l)]) ∨
  (errZ N f least ≠ 0 ∧ v = .tuple #[.slice none 0 0, .int .i64 (errZ N f least)] ∧ H' = [])
theorem count_true : ∀ (l : List Bool) (t : Nat), l[t]? = some false → (l.set t true).count false + 1 = l.count false
  | [], _, h => by simp at h
  | x :: l, 0, h => by
    simp only [List.getElem?_cons_zero, Option.some.injEq] at h
    subst h; simp
  | x :: l, t + 1, h => by
    have := count_true l t (by simpa using h)
    simp only [List.set_cons_succ, List.count_cons]
    omega
set_option maxHeartbeats 2000000 in
theorem rreach_fn (N : Net) (hN : N.Fits) (A : Option Addr) (c b o : Nat) (hA : N.arcs ≠ [] → A = some ⟨b, o, none⟩) (f : List Int) (F : Option Addr) (cf bf of : Nat) (hF : f ≠ [] → F = some ⟨bf, of, none⟩) (hf : ∀ x ∈ f, inB x) (hfl : f.length * 8 ≤ 140737488351232) (least : Int) :
    Fn 93 [netV N A c, .slice F f.length cf, .int .i64 least] [] [.seg b o (arcs N.arcs), .seg bf of (ints f)] (rreachR N f least) := by
  refine Fn_of Tryz.func93 rfl rfl fun w0 => ?_
  (repeat' (first | refine J_seq ?_ | refine J_skip ?_ | refine J_yes rfl ?_ | refine J_no rfl ?_))
  refine J_region ?_
  refine JL_box (cs := netC N A c) rfl rfl rfl (fun _ => rfl) fun p => ?_
  refine JL_all [] rfl ?_
  (repeat' (first | refine J_seq ?_ | refine J_skip ?_ | refine J_yes rfl ?_ | refine J_no rfl ?_))
  refine J_region ?_
  refine JL_val [] (v := netV N A c) (OpV_blk 0 rfl rfl rfl rfl) rfl ?_
  refine JL_run [] rfl ?_
  refine JL_callR [] (rroom_fn N hN A c b o hA f F cf bf of hF hf hfl) rfl rfl rfl rfl (by kernel_rfl) ⟨⟨1, _, by simp, rfl, shows_seg _ _ _, seen_seg⟩, ⟨2, _, by simp, rfl, shows_seg _ _ _, seen_seg⟩, trivial⟩ (fun _ => rfl) ?_
  rintro v H' (⟨hR, hW, A1, c1, rfl, rfl⟩ | ⟨hw, rfl, rfl⟩)
  case inr =>
    refine ⟨rfl, ?_⟩
    refine JL_all [] rfl ?_
    (repeat' (first | refine J_seq ?_ | refine J_skip ?_ | refine J_yes rfl ?_ | refine J_no rfl ?_))
    refine J_region ?_
    refine JL_all [] rfl ?_
    refine J_dec rfl (fun h => ?_) (fun h => absurd hw h)
    (repeat' (first | refine J_seq ?_ | refine J_skip ?_ | refine J_yes rfl ?_ | refine J_no rfl ?_))
    refine J_region ?_
    refine JL_all [] rfl ?_
    refine J_drop [] (by decide) rfl (J_ret ⟨_, rfl, .inr ⟨by rw [errZ_wrong hw]; exact hw, ?_, rfl⟩⟩)
    rw [errZ_wrong hw]; rfl
  have hw0 := wrong_zero.2 ⟨hR, hW⟩
  refine ⟨rfl, ?_⟩
  refine JL_all [] rfl ?_
  (repeat' (first | refine J_seq ?_ | refine J_skip ?_ | refine J_yes rfl ?_ | refine J_no rfl ?_))
  refine J_region ?_
  refine JL_all [] rfl ?_
  refine J_dec rfl (fun h => absurd rfl h) (fun _ => J_skip ?_)
  (repeat' (first | refine J_seq ?_ | refine J_skip ?_ | refine J_yes rfl ?_ | refine J_no rfl ?_))
  refine J_region ?_
  refine JL_all [] rfl ?_
  refine J_dec rfl (fun h => ?_) (fun hle => J_skip ?_)
  · (repeat' (first | refine J_seq ?_ | refine J_skip ?_ | refine J_yes rfl ?_ | refine J_no rfl ?_))
    refine J_region ?_
    refine JL_all [] rfl ?_
    refine J_drop [] (by decide) rfl (J_ret ⟨_, rfl, .inr ⟨by rw [errZ_least hw0 h]; decide, ?_, rfl⟩⟩)
    rw [errZ_least hw0 h]; rfl
  have he0 : errZ N f least = 0 := errZ_zero.2 ⟨hR, hW, by omega⟩
  have hnn := hR.nodes
  have hsr := hR.src
  have hl2 := hR.len
  obtain ⟨n, hn⟩ : ∃ n : Nat, N.nodes = n := ⟨N.nodes.toNat, by omega⟩
  obtain ⟨s0, hs0⟩ : ∃ s0 : Nat, N.src = s0 := ⟨N.src.toNat, by omega⟩
  obtain ⟨rm, hrm⟩ : ∃ rm, rm = roomL (N.arcs.zip f) := ⟨_, rfl⟩
  have hrl : rm.length = 2 * N.arcs.length := by rw [hrm, roomL_length, List.length_zip, hW.len, Nat.min_self]
  rw [← hrm]
  refine J_know (own_is 0 rfl) fun ⟨_, _, hA1, hla⟩ => ?_
  obtain ⟨gr, hA1⟩ := own_at hA1 hla
  (repeat' (first | refine J_seq ?_ | refine J_skip ?_ | refine J_yes rfl ?_ | refine J_no rfl ?_))
  refine J_region ?_
  refine JL_run [] rfl ?_
  refine JL_val [] (v := .int .i64 N.nodes) (OpV_blk 1 rfl rfl rfl rfl) rfl ?_
  refine JL_evO (gs := [999]) rfl ?_
  refine JL_set 28 (v' := .int .i64 ((n + 1 : Nat) : Int)) rfl (congrArg (Value.int .i64) ((w64 (n := N.nodes + 1) (by omega)).trans (by omega))) ?_
  refine JL_make (n := n + 1) (c := n + 1) rfl rfl rfl rfl rfl rfl (by omega) (by omega) (by omega) (fun _ => rfl) fun g => ?_
  refine JL_all [] rfl ?_
  rw [show made [Value.bool false] ((n + 1) * 1) = bools (List.replicate (n + 1) false) by rw [made_one, Nat.mul_one]; simp [bools]]
  (repeat' (first | refine J_seq ?_ | refine J_skip ?_ | refine J_yes rfl ?_ | refine J_no rfl ?_))
  refine J_region ?_
  refine JL_run [] rfl ?_
  refine JL_val [] (v := .int .i64 N.src) (OpV_blk 2 rfl rfl rfl rfl) rfl ?_
  refine JL_set 32 (v' := .int .i64 (s0 : Int)) rfl (congrArg (Value.int .i64) hs0) ?_
  refine JL_val [] (idx1z rfl rfl rfl rfl rfl (show s0 < n + 1 by omega)) rfl ?_
  refine JL_store_own 0 rfl rfl rfl rfl (put_bools rfl (by simp; omega)) [] rfl ?_
  refine JL_nil ?_
  (repeat' (first | refine J_seq ?_ | refine J_skip ?_ | refine J_yes rfl ?_ | refine J_no rfl ?_))
  refine J_region ?_
  refine JL_all [] rfl ?_
  (repeat' (first | refine J_seq ?_ | refine J_skip ?_ | refine J_yes rfl ?_ | refine J_no rfl ?_))
  have hm0 : ((List.replicate (n + 1) false).set s0 true).length = n + 1 := by simp
  generalize (List.replicate (n + 1) false).set s0 true = m0 at hm0
  refine J_block ?_
  refine J_loopF (σ := List Bool × Bool) (fun s => [(11, .bool s.2), (10, .slice (some ⟨g, 0, none⟩) (n + 1) (n + 1)), (8, .slice A1 (2 * N.arcs.length) c1), (3, .pointer (some ⟨p, 0, none⟩)), (2, .int .i64 least)])
    (fun s => [.own (.slice (some ⟨g, 0, none⟩) (n + 1) (n + 1)) 4 1 (n + 1) (bools s.1), .own (.slice A1 (2 * N.arcs.length) c1) 2 1 (2 * N.arcs.length) (ints rm), blk p 24 (netC N A c), .seg b o (arcs N.arcs), .seg bf of (ints f)])
    (fun s => s.1.length = n + 1) (fun s => 2 * s.1.count false + (if s.2 = true then 1 else 0)) (m0, true) ⟨rfl, rfl, rfl, rfl, rfl, trivial⟩ Fit.refl hm0 ?_
  rintro ⟨met, more⟩ hml
  simp only at hml ⊢
  (repeat' (first | refine J_seq ?_ | refine J_skip ?_ | refine J_yes rfl ?_ | refine J_no rfl ?_))
  refine J_region ?_
  refine JL_all [] rfl ?_
  (repeat' (first | refine J_seq ?_ | refine J_skip ?_ | refine J_yes rfl ?_ | refine J_no rfl ?_))
  cases more with
  | false =>
    refine J_no rfl (J_exit ?_)
    (repeat' (first | refine J_seq ?_ | refine J_skip ?_ | refine J_yes rfl ?_ | refine J_no rfl ?_))
    refine J_region ?_
    refine JL_all [] rfl ?_
    refine J_fit (K := [.own (.slice (some ⟨g, 0, none⟩) (n + 1) (n + 1)) 4 1 (n + 1) (bools met)]) (Fit.picks [0] (by decide) rfl) ?_
    exact J_drop [0] (by decide) rfl (J_ret ⟨_, rfl, .inl ⟨he0, n, g, met, rfl, rfl⟩⟩)
  | true =>
    refine J_yes rfl (J_skip ?_)
    refine J_block ?_
    (repeat' (first | refine J_seq ?_ | refine J_skip ?_ | refine J_yes rfl ?_ | refine J_no rfl ?_))
    refine J_region ?_
    refine JL_all [] rfl ?_
    (repeat' (first | refine J_seq ?_ | refine J_skip ?_ | refine J_yes rfl ?_ | refine J_no rfl ?_))
    refine J_region ?_
    refine JL_all [] rfl ?_
    (repeat' (first | refine J_seq ?_ | refine J_skip ?_ | refine J_yes rfl ?_ | refine J_no rfl ?_))
    refine J_block ?_
    refine J_loopF (σ := Nat × List Bool × Bool) (fun s => [(12, .int .i64 (s.1 : Int)), (11, .bool s.2.2), (10, .slice (some ⟨g, 0, none⟩) (n + 1) (n + 1)), (8, .slice A1 (2 * N.arcs.length) c1), (3, .pointer (some ⟨p, 0, none⟩)), (2, .int .i64 least)])
      (fun s => [.own (.slice (some ⟨g, 0, none⟩) (n + 1) (n + 1)) 4 1 (n + 1) (bools s.2.1), .own (.slice A1 (2 * N.arcs.length) c1) 2 1 (2 * N.arcs.length) (ints rm), blk p 24 (netC N A c), .seg b o (arcs N.arcs), .seg bf of (ints f)])
      (fun s => s.1 ≤ 2 * N.arcs.length ∧ s.2.1.length = n + 1 ∧ s.2.1.count false ≤ met.count false ∧ (s.2.2 = true → s.2.1.count false < met.count false)) (fun s => 2 * N.arcs.length - s.1) (0, met, false) ⟨rfl, rfl, rfl, rfl, rfl, rfl, trivial⟩ Fit.refl ⟨Nat.zero_le _, hml, Nat.le_refl _, fun h => by cases h⟩ ?_
    rintro ⟨k, mt, mo⟩ ⟨hk, hmt, hc1, hc2⟩
    simp only at hk hmt hc1 hc2 ⊢
    (repeat' (first | refine J_seq ?_ | refine J_skip ?_ | refine J_yes rfl ?_ | refine J_no rfl ?_))
    refine J_region ?_
    refine JL_all [] rfl ?_
    (repeat' (first | refine J_seq ?_ | refine J_skip ?_ | refine J_yes rfl ?_ | refine J_no rfl ?_))
    refine J_dec rfl (fun hlt => J_skip ?_) (fun hge => J_exit ?_)
    · have hkl : k < 2 * N.arcs.length := by omega
      obtain ⟨e1, f1, f2⟩ := frN_eq hR hkl
      obtain ⟨e2, t1, t2⟩ := toN_eq hR hkl
      have hE : endsZ N k = ((frN N k : Int), (toN N k : Int)) := Prod.ext e1 e2
      have T := rends_fn N A c b o hA hl2 k hkl
      rw [hE] at T
      obtain ⟨x, hx⟩ : ∃ x, rm[k]? = some x := ⟨rm[k]'(by omega), List.getElem?_eq_getElem (by omega)⟩
      obtain ⟨b1, hb1⟩ : ∃ b1, mt[frN N k]? = some b1 := ⟨_, List.getElem?_eq_getElem (show frN N k < mt.length by omega)⟩
      obtain ⟨b2, hb2⟩ : ∃ b2, mt[toN N k]? = some b2 := ⟨_, List.getElem?_eq_getElem (show toN N k < mt.length by omega)⟩
      obtain rfl := hA1 (by
        intro h0
        have h5 : (ints rm).length = 0 := by rw [h0]; rfl
        rw [ints_length] at h5
        omega)
      have hq : IntKind.i64.wrap ((k : Int) + 1) = ((k + 1 : Nat) : Int) := w64 (by omega)
      refine J_seq (J_block ?_)
      (repeat' (first | refine J_seq ?_ | refine J_skip ?_ | refine J_yes rfl ?_ | refine J_no rfl ?_))
      refine J_region ?_
      refine JL_val [] (v := netV N A c) (OpV_blk 2 rfl rfl rfl rfl) rfl ?_
      refine JL_run [] rfl ?_
      refine JL_callR [] T rfl rfl rfl rfl (by kernel_rfl) ⟨⟨3, _, by simp, rfl, shows_seg _ _ _, seen_seg⟩, trivial⟩ (fun _ => rfl) ?_
      rintro v H' ⟨rfl, rfl⟩
      refine ⟨rfl, ?_⟩
      refine JL_all [] rfl ?_
      refine J_cut [(65, .bool (cdec (least ≤ x ∧ b1 = true ∧ b2 = false))), (14, .int .i64 (toN N k : Int)), (12, .int .i64 (k : Int)), (11, .bool mo), (10, .slice (some ⟨g, 0, none⟩) (n + 1) (n + 1)), (8, .slice (some ⟨gr, 0, none⟩) (2 * N.arcs.length) c1), (3, .pointer (some ⟨p, 0, none⟩)), (2, .int .i64 least)]
        [.own (.slice (some ⟨g, 0, none⟩) (n + 1) (n + 1)) 4 1 (n + 1) (bools mt), .own (.slice (some ⟨gr, 0, none⟩) (2 * N.arcs.length) c1) 2 1 (2 * N.arcs.length) (ints rm), blk p 24 (netC N A c), .seg b o (arcs N.arcs), .seg bf of (ints f)] ?_ ?_
      · (repeat' (first | refine J_seq ?_ | refine J_skip ?_ | refine J_yes rfl ?_ | refine J_no rfl ?_))
        refine J_region ?_
        refine JL_run [] rfl ?_
        refine JL_val [] (idx1z rfl rfl rfl rfl rfl hkl) rfl ?_
        refine JL_val [] (OpV_own 1 rfl rfl rfl (readT_int hx)) rfl ?_
        refine JL_evO (gs := [999]) rfl ?_
        refine JL_evO (gs := [999]) rfl ?_
        refine JL_evO (gs := [999]) rfl ?_
        by_cases h1 : least ≤ x
        case neg =>
          refine JL_set 53 (v' := .bool false) rfl (congrArg Value.bool (cdec_no h1)) ?_
          refine JL_all [6, 12] rfl ?_
          exact ⟨[0, 1, 2, 3, 4], ⟨congrArg some (congrArg Value.bool (cdec_no (fun h => h1 h.1)).symm), rfl, rfl, rfl, rfl, rfl, rfl, rfl, trivial⟩, by decide, rfl⟩
        refine JL_set 53 (v' := .bool true) rfl (congrArg Value.bool (cdec_yes h1)) ?_
        refine JL_run [6] rfl ?_
        refine JL_val [6] (idx1z rfl rfl rfl rfl rfl (show frN N k < n + 1 by omega)) rfl ?_
        refine JL_val [6] (OpV_own 0 rfl rfl rfl (show (bools _)[frN N k]? = some (.bool b1) from bools_get hb1)) rfl ?_
        cases b1 with
        | false =>
          refine JL_all [6, 12] rfl ?_
          exact ⟨[0, 1, 2, 3, 4], ⟨congrArg some (congrArg Value.bool (cdec_no (fun h => Bool.noConfusion h.2.1)).symm), rfl, rfl, rfl, rfl, rfl, rfl, rfl, trivial⟩, by decide, rfl⟩
        | true =>
          refine JL_run [6, 12] rfl ?_
          refine JL_val [6, 12] (idx1z rfl rfl rfl rfl rfl (show toN N k < n + 1 by omega)) rfl ?_
          refine JL_val [6, 12] (OpV_own 0 rfl rfl rfl (show (bools _)[toN N k]? = some (.bool b2) from bools_get hb2)) rfl ?_
          refine JL_all [6, 12] rfl ?_
          refine ⟨[0, 1, 2, 3, 4], ⟨?_, rfl, rfl, rfl, rfl, rfl, rfl, rfl, trivial⟩, by decide, rfl⟩
          cases b2 with
          | false => exact congrArg some (congrArg Value.bool (cdec_yes ⟨h1, rfl, rfl⟩).symm)
          | true => exact congrArg some (congrArg Value.bool (cdec_no (fun h => Bool.noConfusion h.2.2)).symm)
      · refine J_dec rfl (fun h1 => ?_) (fun h1 => J_skip ?_)
        · have hbf : mt[toN N k]? = some false := by rw [hb2, h1.2.2]
          have hcs := count_true mt _ hbf
          (repeat' (first | refine J_seq ?_ | refine J_skip ?_ | refine J_yes rfl ?_ | refine J_no rfl ?_))
          refine J_region ?_
          refine JL_run [] rfl ?_
          refine JL_val [] (idx1z rfl rfl rfl rfl rfl (show toN N k < n + 1 by omega)) rfl ?_
          refine JL_store_own 0 rfl rfl rfl rfl (put_bools rfl (by omega)) [] rfl ?_
          refine JL_nil ?_
          (repeat' (first | refine J_seq ?_ | refine J_skip ?_ | refine J_yes rfl ?_ | refine J_no rfl ?_))
          refine J_region ?_
          refine JL_all [] rfl ?_
          (repeat' (first | refine J_seq ?_ | refine J_skip ?_ | refine J_yes rfl ?_ | refine J_no rfl ?_))
          refine J_region ?_
          refine JL_all [] rfl ?_
          exact ⟨(k + 1, mt.set (toN N k) true, true), ⟨congrArg some (congrArg (Value.int .i64) hq), rfl, rfl, rfl, rfl, rfl, trivial⟩, Fit.refl, ⟨hkl, by simp only [List.length_set]; exact hmt, by simp only; omega, fun _ => by simp only; omega⟩, by simp only; omega⟩
        · (repeat' (first | refine J_seq ?_ | refine J_skip ?_ | refine J_yes rfl ?_ | refine J_no rfl ?_))
          refine J_region ?_
          refine JL_all [] rfl ?_
          exact ⟨(k + 1, mt, mo), ⟨congrArg some (congrArg (Value.int .i64) hq), rfl, rfl, rfl, rfl, rfl, trivial⟩, Fit.refl, ⟨hkl, hmt, hc1, hc2⟩, by simp only; omega⟩
    · refine ⟨(mt, mo), ⟨rfl, rfl, rfl, rfl, rfl, trivial⟩, Fit.refl, hmt, ?_⟩
      simp only
      cases mo with
      | false => simp; omega
      | true => have := hc2 rfl; simp; omega
end Go.Proofs.YtfogkbmbmaganaaGreat
