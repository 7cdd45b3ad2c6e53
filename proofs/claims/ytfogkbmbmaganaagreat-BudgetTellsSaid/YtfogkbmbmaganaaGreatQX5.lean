/- The engine and the words that all chapters share: several texts in one. -/
import Derived.Test.YtfogkbmbmaganaaGreatDinT
import Derived.Test.YtfogkbmbmaganaaGreatQF
import Derived.Test.YtfogkbmbmaganaaGreatQX8

/- Phases by either engine: From and Max with the sign as a number. -/
set_option linter.unusedVariables false
set_option linter.unusedSimpArgs false
namespace Go.Proofs.YtfogkbmbmaganaaGreat
open Go.RowKit
theorem Dn.lev {N : Net} {least : Int} {f f' : List Int} {p k : Nat} (h : Dn N least f p k f') : ∃ lv, IsLev N (roomL (N.arcs.zip f)) least lv := by
  cases h with
  | stop h1 _ => exact ⟨_, h1⟩
  | step h1 _ _ _ => exact ⟨_, h1⟩
theorem Dn.few0 {N : Net} (hR : N.Right) {least : Int} (hle : 1 ≤ least) {f f' : List Int} {p k : Nat} (h : Dn N least f p k f') : IsFlow N f → ∀ lv, IsLev N (roomL (N.arcs.zip f)) least lv →
    (lvZ lv N.snk.toNat < 0 → p = 0) ∧ (0 ≤ lvZ lv N.snk.toNat → (p : Int) + lvZ lv N.snk.toNat ≤ N.nodes) := by
  induction h with
  | stop h1 h2 =>
    intro hf lv hlv
    have := lev_uniq hlv h1 N.snk.toNat
    exact ⟨fun _ => rfl, fun h => by omega⟩
  | @step f f1 f' lv0 ws p k h1 h2 h3 h4 ih =>
    intro hf lv hlv
    have e := lev_uniq hlv h1 N.snk.toNat
    obtain ⟨k1, _, _⟩ := h3.keeps hR hle hf h1
    obtain ⟨lv1, hl1⟩ := h4.lev
    obtain ⟨i1, i2⟩ := ih k1 lv1 hl1
    have hr := h1.rng N.snk.toNat
    have hnn := hR.nodes
    refine ⟨fun h => by omega, fun h => ?_⟩
    by_cases hz : 0 ≤ lvZ lv1 N.snk.toNat
    · have h5 := (h3.rise hR hle hf h1 hl1 hz).2
      have h6 := i2 hz
      omega
    · have := i1 (by omega)
      omega
theorem Dn.few {N : Net} (hR : N.Right) {least : Int} (hle : 1 ≤ least) {f f' : List Int} {p k : Nat} (h : Dn N least f p k f') (hf : IsFlow N f) : (p : Int) + 1 ≤ N.nodes := by
  obtain ⟨lv, hlv⟩ := h.lev
  obtain ⟨h1, h2⟩ := h.few0 hR hle hf lv hlv
  have hnn := hR.nodes
  have hd := hR.diff
  have hs := hR.src
  have hk := hR.snk
  by_cases hz : 0 ≤ lvZ lv N.snk.toNat
  · have h3 := h2 hz
    have : lvZ lv N.snk.toNat ≠ 0 := fun h0 => by
      have := hlv.zero _ h0
      omega
    omega
  · have := h1 (by omega)
    omega
theorem maxG_fn (N : Net) (hN : N.Fits) (hR : N.Right) (A : Option Addr) (c b o : Nat) (hA : N.arcs ≠ [] → A = some ⟨b, o, none⟩) (sg : Int) (hsg : sg = 112 ∨ sg = 116) :
    Fn 25 [netV N A c, .int .u8 sg] [] [.seg b o (arcs N.arcs)] fun v H' => ∃ (f' : List Int) (p k s : Nat) (A' : Option Addr) (c' : Nat), Dn N 1 (List.replicate N.arcs.length 0) p k f' ∧ (k : Int) ≤ 9223372036854775806 ∧ (p : Int) + 1 ≤ N.nodes ∧ (sg = 112 → s = 0) ∧ (sg = 116 → 2 * N.arcs.length * p ≤ s) ∧ s ≤ costB N.nodes.toNat N.arcs.length * p ∧
      v = .tuple #[runV A' f'.length c' p k s, .int .i64 0] ∧ H' = [.own (.slice A' f'.length c') 2 1 f'.length (ints f')] := by
  rcases hsg with rfl | rfl
  · refine (max_fn N hN hR A c b o hA).mono ?_
    rintro v H' ⟨f', p, k, A', c', hd, hk, rfl, rfl⟩
    exact ⟨f', p, k, 0, A', c', hd, hk, hd.few hR (by decide) (zeroFlow N hR), fun _ => rfl, fun h => absurd h (by decide), Nat.zero_le _, rfl, rfl⟩
  · refine (maxT_fn N hN hR A c b o hA).mono ?_
    rintro v H' ⟨f', p, k, s, A', c', hd, hk, hp, hs1, hs2, rfl, rfl⟩
    exact ⟨f', p, k, s, A', c', hd, hk, hp, fun h => absurd h (by decide), fun _ => hs1, hs2, rfl, rfl⟩
end Go.Proofs.YtfogkbmbmaganaaGreat


/- Two rows that are the same. -/
set_option linter.unusedVariables false
set_option linter.unusedSimpArgs false
namespace Go.Proofs.YtfogkbmbmaganaaGreat
open Go.RowKit
end Go.Proofs.YtfogkbmbmaganaaGreat


/- What a run takes, and what was reckoned ahead. -/
set_option linter.unusedVariables false
set_option linter.unusedSimpArgs false
namespace Go.Proofs.YtfogkbmbmaganaaGreat
open Go.RowKit
theorem shown18_fn : Fn 5 [] [] [] fun v H' => v = .bool true ∧ H' = [] := by
  have hR : (⟨2, 1, 2, [⟨1, 2, 5⟩]⟩ : Net).Right := ⟨by decide, by decide, by decide, by decide, by decide, fun a ha => (by obtain rfl := List.mem_singleton.1 ha; decide), by decide⟩
  have hF : (⟨2, 1, 2, [⟨1, 2, 5⟩]⟩ : Net).Fits := ⟨by decide, by decide, by decide, by decide, fun a ha => (by obtain rfl := List.mem_singleton.1 ha; decide)⟩
  refine Fn_of Tryz.func5 rfl rfl fun w0 => ?_
  (repeat' (first | refine J_seq ?_ | refine J_skip ?_ | refine J_yes rfl ?_ | refine J_no rfl ?_))
  refine J_region ?_
  refine JL_all [] rfl ?_
  (repeat' (first | refine J_seq ?_ | refine J_skip ?_ | refine J_yes rfl ?_ | refine J_no rfl ?_))
  refine J_region ?_
  refine JL_val [] (OpV_build rfl rfl rfl rfl rfl rfl) rfl ?_
  refine JL_lit rfl rfl rfl rfl rfl rfl rfl (fun _ => rfl) fun g => ?_
  refine JL_val [] (OpV_build rfl rfl rfl rfl rfl rfl) rfl ?_
  refine JL_callR [] (bound_fn ⟨2, 1, 2, [⟨1, 2, 5⟩]⟩ hF (some ⟨g, 0, none⟩) 1 g 0 (fun _ => rfl)) rfl rfl rfl rfl (by kernel_rfl) ⟨⟨0, _, by simp, rfl, shows_blk _ _ _ (0, 0), .inr rfl⟩, trivial⟩ (fun _ => rfl) ?_
  rintro v H' ⟨rfl, rfl⟩
  refine ⟨rfl, ?_⟩
  rw [if_pos hR.check]
  refine JL_all [] rfl ?_
  have e : boundZ ⟨2, 1, 2, [⟨1, 2, 5⟩]⟩ = 540000 := by decide
  rw [e]
  (repeat' (first | refine J_seq ?_ | refine J_skip ?_ | refine J_yes rfl ?_ | refine J_no rfl ?_))
  refine J_region ?_
  refine JL_run [] rfl ?_
  refine JL_set 12 (v' := .bool true) rfl (congrArg Value.bool (cdec_yes rfl)) ?_
  refine JL_all [2] rfl ?_
  refine J_drop [] (by decide) rfl ?_
  exact J_ret ⟨_, rfl, congrArg Value.bool (cdec_yes rfl), rfl⟩
theorem brun_fn (N : Net) (hF : N.Fits) (hR : N.Right) (A : Option Addr) (c b o : Nat) (hA : N.arcs ≠ [] → A = some ⟨b, o, none⟩) : Fn 8 [netV N A c] [] [.seg b o (arcs N.arcs)] fun v H' => ∃ (f : List Int) (p k s : Nat), Dn N 1 (List.replicate N.arcs.length 0) p k f ∧ (p : Int) + 1 ≤ N.nodes ∧ 2 * N.arcs.length * p ≤ s ∧ s ≤ costB N.nodes.toNat N.arcs.length * p ∧
    v = .tuple #[countV (exZ (N.arcs.zip f) N.snk) p k s (boundZ N), .int .i64 0] ∧ H' = [] := by
  have hl2 := hR.len
  refine Fn_ofC Tryz.func8 rfl rfl fun w0 => ?_
  (repeat' (first | refine J_seq ?_ | refine J_skip ?_ | refine J_yes rfl ?_ | refine J_no rfl ?_))
  refine J_region ?_
  refine JL_box (cs := netC N A c) rfl rfl rfl (fun _ => rfl) fun p1 => ?_
  refine JL_alloc rfl rfl rfl (fun _ => rfl) fun p2 => ?_
  refine JL_all [] rfl ?_
  (repeat' (first | refine J_seq ?_ | refine J_skip ?_ | refine J_yes rfl ?_ | refine J_no rfl ?_))
  refine J_region ?_
  refine JL_val [] (v := netV N A c) (OpV_blk 1 rfl rfl rfl rfl) rfl ?_
  refine JL_callR [] (bound_fn N hF A c b o hA) rfl rfl rfl rfl (by kernel_rfl) ⟨⟨2, _, by simp, rfl, shows_seg _ _ _, seen_seg⟩, trivial⟩ (fun _ => rfl) ?_
  rintro v H' ⟨rfl, rfl⟩
  refine ⟨rfl, ?_⟩
  rw [if_pos hR.check]
  refine JL_all [] rfl ?_
  (repeat' (first | refine J_seq ?_ | refine J_skip ?_ | refine J_yes rfl ?_ | refine J_no rfl ?_))
  refine J_region ?_
  refine JL_all [] rfl ?_
  refine J_dec rfl (fun h => absurd rfl h) (fun _ => J_skip ?_)
  (repeat' (first | refine J_seq ?_ | refine J_skip ?_ | refine J_yes rfl ?_ | refine J_no rfl ?_))
  refine J_region ?_
  refine JL_val [] (v := netV N A c) (OpV_blk 1 rfl rfl rfl rfl) rfl ?_
  refine JL_callR [] (maxG_fn N hF hR A c b o hA 116 (.inr rfl)) rfl rfl rfl rfl (by kernel_rfl) ⟨⟨2, _, by simp, rfl, shows_seg _ _ _, seen_seg⟩, trivial⟩ (fun _ => rfl) ?_
  rintro v H' ⟨f, p, k, s, Aa, ca, hd, _, hp, _, hs1, hs2, rfl, rfl⟩
  obtain ⟨hf, _⟩ := hd.keeps hR (by decide) (zeroFlow N hR)
  have hfl := hf.len
  refine ⟨rfl, ?_⟩
  refine JL_run [] rfl ?_
  refine JL_alloc rfl rfl rfl (fun _ => rfl) fun p6 => ?_
  refine JL_store 0 rfl rfl rfl rfl rfl [] rfl ?_
  refine JL_all [] rfl ?_
  refine J_know (own_is 1 rfl) fun ⟨_, _, hAa, hla⟩ => ?_
  obtain ⟨ga, hAa⟩ := own_at hAa hla
  have hAa' : f ≠ [] → Aa = some ⟨ga, 0, none⟩ := fun h => hAa (by simpa [ints] using h)
  (repeat' (first | refine J_seq ?_ | refine J_skip ?_ | refine J_yes rfl ?_ | refine J_no rfl ?_))
  refine J_region ?_
  refine JL_val [] (v := netV N A c) (OpV_blk 3 rfl rfl rfl rfl) rfl ?_
  refine JL_run [] rfl ?_
  refine JL_val [] (v := .slice Aa f.length ca) (OpV_blk 0 rfl rfl rfl rfl) rfl ?_
  refine JL_callR [] (fvalue_fn N hF hR A c b o hA f Aa ca ga 0 hAa' (IsFlow.inB hR hf.toRanged) (by omega)) rfl rfl rfl rfl (by kernel_rfl) ⟨⟨4, _, by simp, rfl, shows_seg _ _ _, seen_seg⟩, ⟨1, _, by simp, rfl, shows_ownS hAa, seen_ownS hAa⟩, trivial⟩ (fun _ => rfl) ?_
  rintro v H' ⟨⟨rfl, _⟩ | ⟨_, h⟩, rfl⟩
  case inr => exact absurd hf h
  refine ⟨rfl, ?_⟩
  refine JL_all [] rfl ?_
  (repeat' (first | refine J_seq ?_ | refine J_skip ?_ | refine J_yes rfl ?_ | refine J_no rfl ?_))
  refine J_region ?_
  refine JL_run [] rfl ?_
  refine JL_val [] (v := .int .i64 p) (OpV_blk 0 rfl rfl rfl rfl) rfl ?_
  refine JL_run [] rfl ?_
  refine JL_val [] (v := .int .i64 k) (OpV_blk 0 rfl rfl rfl rfl) rfl ?_
  refine JL_run [] rfl ?_
  refine JL_val [] (v := .int .i64 s) (OpV_blk 0 rfl rfl rfl rfl) rfl ?_
  refine JL_run [] rfl ?_
  refine JL_val [] (OpV_build rfl rfl rfl rfl rfl rfl) rfl ?_
  refine JL_store 2 rfl rfl rfl rfl rfl [] rfl ?_
  refine JL_all [] rfl ?_
  refine J_ret ?_
  exact ⟨[_, _], [], _, ⟨⟨p2, 2, _, _, rfl, rfl, rfl⟩, rfl, trivial⟩, by decide, rfl, f, p, k, s, hd, hp, hs1 rfl, hs2, rfl, rfl⟩
end Go.Proofs.YtfogkbmbmaganaaGreat
