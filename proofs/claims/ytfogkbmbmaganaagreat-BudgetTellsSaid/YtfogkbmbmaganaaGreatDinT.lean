
/- Phases by trees. -/
import Derived.Test.YtfogkbmbmaganaaGreatTblkN
import Derived.Test.YtfogkbmbmaganaaGreatDinN
import Derived.Test.YtfogkbmbmaganaaGreatQX20
set_option linter.unusedVariables false
set_option linter.unusedSimpArgs false
namespace Go.Proofs.YtfogkbmbmaganaaGreat
open Go.RowKit
theorem byTrees_fn (N : Net) (hN : N.Fits) (hR : N.Right) (A : Option Addr) (c b o : Nat) (hA : N.arcs ≠ [] → A = some ⟨b, o, none⟩) (f : List Int) (hf : IsFlow N f) (F : Option Addr) (cf bf of : Nat) (hF : f ≠ [] → F = some ⟨bf, of, none⟩) (least : Int) (hle : 1 ≤ least) (hlb : inB least) :
    Fn 123 [.agg #[], netV N A c, .slice F f.length cf, .int .i64 least] [] [.seg b o (arcs N.arcs), .seg bf of (ints f)] fun v H' => ∃ (f' : List Int) (ws : List (List Nat × Int)) (Ao : Option Addr) (co k : Nat), BlkOf N least f ws f' ∧ 2 * N.arcs.length ≤ k ∧ k ≤ costB N.nodes.toNat N.arcs.length ∧
      v = .tuple #[.slice Ao f.length co, .int .i64 (ws.length : Int), .int .i64 (k : Int)] ∧ H' = [.own (.slice Ao f.length co) 2 1 f.length (ints f')] := by
  have hl := hf.len
  have hl2 := hR.len
  refine Fn_of Tryz.func123 rfl rfl fun w0 => ?_
  (repeat' (first | refine J_seq ?_ | refine J_skip ?_ | refine J_yes rfl ?_ | refine J_no rfl ?_))
  refine J_region ?_
  refine JL_box (cs := []) rfl rfl rfl (fun _ => rfl) fun p0 => ?_
  refine JL_box (cs := netC N A c) rfl rfl rfl (fun _ => rfl) fun p => ?_
  refine JL_all [] rfl ?_
  (repeat' (first | refine J_seq ?_ | refine J_skip ?_ | refine J_yes rfl ?_ | refine J_no rfl ?_))
  refine J_region ?_
  refine JL_val [] (v := netV N A c) (OpV_blk 0 rfl rfl rfl rfl) rfl ?_
  refine JL_run [] rfl ?_
  refine JL_callR [] (tblock_fn N hN hR A c b o hA f F cf bf of hF (IsFlow.inB hR hf.toRanged) (by omega) least hlb) rfl rfl rfl rfl (by kernel_rfl) ⟨⟨2, _, by simp, rfl, shows_seg _ _ _, seen_seg⟩, ⟨3, _, by simp, rfl, shows_seg _ _ _, seen_seg⟩, trivial⟩ (fun _ => rfl) ?_
  rintro v H' (⟨_, _, f', ws, k, Ao, co, hb, hk1, hk2, _, rfl, rfl⟩ | ⟨hW, _, _⟩ | ⟨_, hlt, _, _⟩)
  case inr.inl => exact absurd hf hW
  case inr.inr => omega
  refine ⟨rfl, ?_⟩
  refine JL_all [] rfl ?_
  (repeat' (first | refine J_seq ?_ | refine J_skip ?_ | refine J_yes rfl ?_ | refine J_no rfl ?_))
  refine J_region ?_
  refine JL_all [] rfl ?_
  exact J_drop [0] (by decide) rfl (J_ret ⟨_, rfl, f', ws, Ao, co, k, hb, hk1, hk2, rfl, rfl⟩)
theorem engineT_fn : Fn 66 [.int .u8 116] [] [] fun v H' => v = .iface 149 (.agg #[]) ∧ H' = [] := by
  refine Fn_of Tryz.func66 rfl rfl fun w0 => ?_
  (repeat' (first | refine J_seq ?_ | refine J_skip ?_ | refine J_yes rfl ?_ | refine J_no rfl ?_))
  refine J_region ?_
  refine JL_all [] rfl ?_
  (repeat' (first | refine J_seq ?_ | refine J_skip ?_ | refine J_yes rfl ?_ | refine J_no rfl ?_))
  refine J_region ?_
  refine JL_all [] rfl ?_
  (repeat' (first | refine J_seq ?_ | refine J_skip ?_ | refine J_yes rfl ?_ | refine J_no rfl ?_))
  refine J_block ?_
  (repeat' (first | refine J_seq ?_ | refine J_skip ?_ | refine J_yes rfl ?_ | refine J_no rfl ?_))
  refine J_region ?_
  refine JL_all [] rfl ?_
  refine J_dec rfl (fun h => absurd h (by decide)) (fun _ => ?_)
  (repeat' (first | refine J_seq ?_ | refine J_skip ?_ | refine J_yes rfl ?_ | refine J_no rfl ?_))
  refine J_region ?_
  refine JL_all [] rfl ?_
  refine J_dec rfl (fun _ => ?_) (fun h => absurd rfl h)
  (repeat' (first | refine J_seq ?_ | refine J_skip ?_ | refine J_yes rfl ?_ | refine J_no rfl ?_))
  refine J_region ?_
  refine JL_run [] rfl ?_
  refine JL_val [] (OpV_build rfl rfl rfl rfl rfl rfl) rfl ?_
  refine JL_all [] rfl ?_
  exact J_ret ⟨_, rfl, rfl, rfl⟩
theorem costB_small {n m : Nat} (h1 : n ≤ 500) (hl2 : m ≤ 2000) : costB n m ≤ 200000000000 := by
  have h2 : accN (n + 1) ≤ 3000000 := by
    unfold accN
    have : (n + 1) * (n + 1) ≤ 501 * 501 := Nat.mul_le_mul (by omega) (by omega)
    omega
  have h3 : (costU n + 3) * m ≤ 46000000 * 2000 := Nat.mul_le_mul (by unfold costU; omega) hl2
  have h4 : costL n * (n + 1) ≤ 16000000 * 501 := Nat.mul_le_mul (by unfold costL; omega) (by omega)
  have h5 : (2 * accN (n + 1) + 11 * (n + 1) + 1) * (n + 1) ≤ 7000000 * 501 := Nat.mul_le_mul (by omega) (by omega)
  unfold costB
  omega
structure FT where
  f : List Int
  A : Option Addr
  c : Nat
  p : Nat
  k : Nat
  s : Nat
  lv : List Int
set_option maxHeartbeats 1000000 in
theorem fromT_fn (N : Net) (hN : N.Fits) (hR : N.Right) (A : Option Addr) (c b o : Nat) (hA : N.arcs ≠ [] → A = some ⟨b, o, none⟩) (f : List Int) (hf : IsFlow N f) (F : Option Addr) (cf bf of : Nat) (hF : f ≠ [] → F = some ⟨bf, of, none⟩) (least : Int) (hle : 1 ≤ least) (hlb : inB least) :
    Fn 44 [netV N A c, .slice F f.length cf, .int .i64 least, .int .u8 116] [] [.seg b o (arcs N.arcs), .seg bf of (ints f)] fun v H' => ∃ (f' : List Int) (p k s : Nat) (A' : Option Addr) (c' : Nat), Dn N least f p k f' ∧ (k : Int) ≤ 9223372036854775806 ∧ (p : Int) + 1 ≤ N.nodes ∧ 2 * N.arcs.length * p ≤ s ∧ s ≤ costB N.nodes.toNat N.arcs.length * p ∧
      v = .tuple #[runV A' f'.length c' p k s, .int .i64 0] ∧ H' = [.own (.slice A' f'.length c') 2 1 f'.length (ints f')] := by
  have hl := hf.len
  have hl2 := hR.len
  refine Fn_ofC Tryz.func44 rfl rfl fun w0 => ?_
  (repeat' (first | refine J_seq ?_ | refine J_skip ?_ | refine J_yes rfl ?_ | refine J_no rfl ?_))
  refine J_region ?_
  refine JL_box (cs := netC N A c) rfl rfl rfl (fun _ => rfl) fun p4 => ?_
  refine JL_alloc rfl rfl rfl (fun _ => rfl) fun p8 => ?_
  refine JL_all [] rfl ?_
  (repeat' (first | refine J_seq ?_ | refine J_skip ?_ | refine J_yes rfl ?_ | refine J_no rfl ?_))
  refine J_region ?_
  refine JL_val [] (v := netV N A c) (OpV_blk 1 rfl rfl rfl rfl) rfl ?_
  refine JL_run [] rfl ?_
  refine JL_callR [] (deep_fn N hN hR A c b o hA f F cf bf of hF (IsFlow.inB hR hf.toRanged) (by omega) least) rfl rfl rfl rfl (by kernel_rfl) ⟨⟨2, _, by simp, rfl, shows_seg _ _ _, seen_seg⟩, ⟨3, _, by simp, rfl, shows_seg _ _ _, seen_seg⟩, trivial⟩ (fun _ => rfl) ?_
  rintro v H' (⟨_, _, lv, hlv, rfl, rfl⟩ | ⟨hW, _, _⟩ | ⟨_, hlt, _, _⟩)
  case inr.inl => exact absurd hf hW
  case inr.inr => omega
  refine ⟨rfl, ?_⟩
  refine JL_all [] rfl ?_
  (repeat' (first | refine J_seq ?_ | refine J_skip ?_ | refine J_yes rfl ?_ | refine J_no rfl ?_))
  refine J_region ?_
  refine JL_all [] rfl ?_
  refine J_dec rfl (fun h => absurd rfl h) (fun _ => J_skip ?_)
  (repeat' (first | refine J_seq ?_ | refine J_skip ?_ | refine J_yes rfl ?_ | refine J_no rfl ?_))
  refine J_region ?_
  refine JL_run [] rfl ?_
  refine JL_callR [] (engineT_fn) rfl rfl rfl rfl (by kernel_rfl) trivial (fun _ => rfl) ?_
  rintro v H' ⟨rfl, rfl⟩
  refine ⟨rfl, ?_⟩
  refine JL_all [] rfl ?_
  (repeat' (first | refine J_seq ?_ | refine J_skip ?_ | refine J_yes rfl ?_ | refine J_no rfl ?_))
  refine J_region ?_
  refine JL_all [] rfl ?_
  refine J_no rfl (J_skip ?_)
  (repeat' (first | refine J_seq ?_ | refine J_skip ?_ | refine J_yes rfl ?_ | refine J_no rfl ?_))
  refine J_region ?_
  refine JL_run [] rfl ?_
  refine JL_callR [] (cloneL_fn F cf bf of f hF (by omega)) rfl rfl rfl rfl (by kernel_rfl) ⟨⟨3, _, by simp, rfl, shows_seg _ _ _, seen_seg⟩, trivial⟩ (fun _ => rfl) ?_
  rintro v H' ⟨A0, c0, rfl, rfl⟩
  refine ⟨rfl, ?_⟩
  refine JL_val [] (OpV_build rfl rfl rfl rfl rfl rfl) rfl ?_
  refine JL_alloc rfl rfl rfl (fun _ => rfl) fun p13 => ?_
  refine JL_store 0 rfl rfl rfl rfl rfl [] rfl ?_
  refine JL_nil ?_
  (repeat' (first | refine J_seq ?_ | refine J_skip ?_ | refine J_yes rfl ?_ | refine J_no rfl ?_))
  refine J_block ?_
  have hvb := value_bound hR hf.toRanged N.snk
  have hnn := hR.nodes
  have hsr := hR.src
  have hsk := hR.snk
  have hdf := hR.diff
  have hcB := costB_small (n := N.nodes.toNat) (m := N.arcs.length) (by omega) hl2
  have hlv0 : 0 ≤ lvZ lv N.snk.toNat → ((0 : Nat) : Int) + 1 ≤ lvZ lv N.snk.toNat := by
    intro h
    rcases Int.lt_or_eq_of_le h with h | h
    · omega
    · have := hlv.zero _ h.symm
      omega
  refine J_loop (σ := FT) (fun s => [(10, .int .i64 (lvZ s.lv N.snk.toNat)), (12, .iface 149 (.agg #[])), (13, .pointer (some ⟨p13, 0, none⟩)), (8, .pointer (some ⟨p8, 0, none⟩)), (4, .pointer (some ⟨p4, 0, none⟩)), (2, .int .i64 least)])
    (fun s => [blk p13 68 [.slice s.A s.f.length s.c, .int .i64 (s.p : Int), .int .i64 (s.k : Int), .int .i64 (s.s : Int)], .own (.slice s.A s.f.length s.c) 2 1 s.f.length (ints s.f), blk p8 68 [.slice none 0 0, .int .i64 0, .int .i64 0, .int .i64 0], blk p4 24 (netC N A c), .seg b o (arcs N.arcs)])
    (fun s => (s.p : Int) + 1 ≤ N.nodes ∧ (0 ≤ lvZ s.lv N.snk.toNat → (s.p : Int) + 1 ≤ lvZ s.lv N.snk.toNat) ∧ 2 * N.arcs.length * s.p ≤ s.s ∧ s.s ≤ costB N.nodes.toNat N.arcs.length * s.p ∧ IsFlow N s.f ∧ IsLev N (roomL (N.arcs.zip s.f)) least s.lv ∧ s.p ≤ s.k ∧ exZ (N.arcs.zip f) N.snk + s.k ≤ exZ (N.arcs.zip s.f) N.snk ∧ ∀ p k f', Dn N least s.f p k f' → Dn N least f (s.p + p) (s.k + k) f')
    (fun s => (4611686018427387903 - exZ (N.arcs.zip s.f) N.snk).toNat) ⟨f, A0, c0, 0, 0, 0, lv⟩ [0, 1, 2, 3, 4] ⟨rfl, rfl, rfl, rfl, rfl, rfl, trivial⟩ (by decide) rfl ⟨by show ((0 : Nat) : Int) + 1 ≤ _; omega, hlv0, by simp, by simp, hf, hlv, Nat.le_refl _, by simp, fun p k f' h => by simpa using h⟩ ?_
  rintro ⟨fc, Ac, cc, p, k, s, lvc⟩ ⟨hpn, hpl, hs1, hs2, hfc, hlvc, hpk, hval, hX⟩
  simp only at hpn hpl hs1 hs2 hfc hlvc hpk hval hX ⊢
  have hvc := value_bound hR hfc.toRanged N.snk
  have hfcl := hfc.len
  (repeat' (first | refine J_seq ?_ | refine J_skip ?_ | refine J_yes rfl ?_ | refine J_no rfl ?_))
  refine J_region ?_
  refine JL_all [] rfl ?_
  refine J_dec rfl (fun hge => J_skip ?_) (fun hlt => J_exit ?_)
  · refine J_block ?_
    refine J_know (own_is 1 rfl) fun ⟨_, _, hAc, hlAc⟩ => ?_
    obtain ⟨gc, hAc⟩ := own_at hAc hlAc
    (repeat' (first | refine J_seq ?_ | refine J_skip ?_ | refine J_yes rfl ?_ | refine J_no rfl ?_))
    refine J_region ?_
    refine JL_run [] rfl ?_
    refine JL_val [] (v := netV N A c) (OpV_blk 3 rfl rfl rfl rfl) rfl ?_
    refine JL_run [] rfl ?_
    refine JL_val [] (OpV_blk (v := .slice Ac fc.length cc) 0 rfl rfl rfl rfl) rfl ?_
    refine JL_run [] rfl ?_
    refine JL_invoke [] (byTrees_fn N hN hR A c b o hA fc hfc Ac cc gc 0 (fun h => hAc (by simpa [ints] using h)) least hle hlb) rfl rfl rfl rfl (by kernel_rfl) rfl (by kernel_rfl) ⟨⟨4, _, by simp, rfl, shows_seg _ _ _, seen_seg⟩, ⟨1, _, by simp, rfl, shows_ownS hAc, seen_ownS hAc⟩, trivial⟩ (fun _ => rfl) ?_
    rintro v H' ⟨f1, ws, Ag, cg, st, hb, hst1, hst2, rfl, rfl⟩
    have hpB : costB N.nodes.toNat N.arcs.length * p ≤ 200000000000 * 500 := Nat.mul_le_mul hcB (by omega)
    have hlr := hlvc.rng N.snk.toNat
    have hpl2 := hpl hge
    refine ⟨rfl, ?_⟩
    refine JL_know (own_is 0 rfl) fun ⟨_, _, hAg, hlAg⟩ => ?_
    obtain ⟨g1, hAg⟩ := own_at hAg hlAg
    have hAg' : f1 ≠ [] → Ag = some ⟨g1, 0, none⟩ := fun h => hAg (by simpa [ints] using h)
    obtain ⟨hf1, hv1, hw1⟩ := hb.keeps hR hle hfc hlvc
    have hwpos := List.length_pos_iff.2 (hw1 hge)
    have hf1l := hf1.len
    have hlen : fc.length = f1.length := by omega
    rw [hlen]
    refine JL_all [] rfl ?_
    have hvc1 := value_bound hR hf1.toRanged N.snk
    have hlw : (ws.length : Int) ≤ least * ws.length := by
      have := Int.mul_le_mul_of_nonneg_right hle (show (0 : Int) ≤ ws.length by omega)
      omega
    (repeat' (first | refine J_seq ?_ | refine J_skip ?_ | refine J_yes rfl ?_ | refine J_no rfl ?_))
    refine J_region ?_
    refine JL_run [] rfl ?_
    refine JL_val [] (OpV_blk (v := .int .i64 p) 1 rfl rfl rfl rfl) rfl ?_
    refine JL_run [] rfl ?_
    refine JL_set 51 (v' := .int .i64 ((p + 1 : Nat) : Int)) rfl (congrArg (Value.int .i64) (w64 (by omega))) ?_
    refine JL_val [] (OpV_blk (v := .int .i64 k) 1 rfl rfl rfl rfl) rfl ?_
    refine JL_run [] rfl ?_
    refine JL_set 55 (v' := .int .i64 ((k + ws.length : Nat) : Int)) rfl (congrArg (Value.int .i64) ((w64 (by omega)).trans (by omega))) ?_
    refine JL_val [] (OpV_blk (v := .int .i64 s) 1 rfl rfl rfl rfl) rfl ?_
    refine JL_run [] rfl ?_
    refine JL_set 59 (v' := .int .i64 ((s + st : Nat) : Int)) rfl (congrArg (Value.int .i64) ((w64 (by omega)).trans (by omega))) ?_
    refine JL_val [] (OpV_build rfl rfl rfl rfl rfl rfl) rfl ?_
    refine JL_store 1 rfl rfl rfl rfl rfl [] rfl ?_
    refine JL_nil ?_
    (repeat' (first | refine J_seq ?_ | refine J_skip ?_ | refine J_yes rfl ?_ | refine J_no rfl ?_))
    refine J_region ?_
    refine JL_val [] (v := netV N A c) (OpV_blk 4 rfl rfl rfl rfl) rfl ?_
    refine JL_run [] rfl ?_
    refine JL_callR [] (deep_fn N hN hR A c b o hA f1 Ag cg g1 0 hAg' (IsFlow.inB hR hf1.toRanged) (by omega) least) rfl rfl rfl rfl (by kernel_rfl) ⟨⟨5, _, by simp, rfl, shows_seg _ _ _, seen_seg⟩, ⟨0, _, by simp, rfl, shows_ownS hAg, seen_ownS hAg⟩, trivial⟩ (fun _ => rfl) ?_
    rintro v H' (⟨_, _, lv1, hlv1, rfl, rfl⟩ | ⟨hW, _, _⟩ | ⟨_, hlt, _, _⟩)
    case inr.inl => exact absurd hf1 hW
    case inr.inr => omega
    refine ⟨rfl, ?_⟩
    refine JL_all [] rfl ?_
    have hex : 2 * N.arcs.length * (p + 1) = 2 * N.arcs.length * p + 2 * N.arcs.length := by rw [Nat.mul_add, Nat.mul_one]
    have hey : costB N.nodes.toNat N.arcs.length * (p + 1) = costB N.nodes.toNat N.arcs.length * p + costB N.nodes.toNat N.arcs.length := by rw [Nat.mul_add, Nat.mul_one]
    refine ⟨⟨f1, Ag, cg, p + 1, k + ws.length, s + st, lv1⟩, [1, 0, 3, 4, 5], ⟨rfl, rfl, rfl, rfl, rfl, rfl, trivial⟩, by decide, rfl, ⟨by show ((p + 1 : Nat) : Int) + 1 ≤ N.nodes; omega, fun h => (by have := (hb.rise hR hle hfc hlvc hlv1 h).2; show ((p + 1 : Nat) : Int) + 1 ≤ lvZ lv1 N.snk.toNat; omega), by show 2 * N.arcs.length * (p + 1) ≤ s + st; rw [hex]; exact Nat.add_le_add hs1 hst1, by show s + st ≤ costB N.nodes.toNat N.arcs.length * (p + 1); rw [hey]; exact Nat.add_le_add hs2 hst2, hf1, hlv1, by simp only; omega, by simp only; omega, fun p' k' f' h => ?_⟩, by simp only; omega⟩
    have := hX _ _ _ (.step hlvc hge hb h)
    simp only
    rw [show p + 1 + p' = p + (p' + 1) by omega, show k + ws.length + k' = k + (ws.length + k') by omega]
    exact this
  · have hdn := hX _ _ _ (.stop hlvc (by omega))
    rw [Nat.add_zero, Nat.add_zero] at hdn
    (repeat' (first | refine J_seq ?_ | refine J_skip ?_ | refine J_yes rfl ?_ | refine J_no rfl ?_))
    refine J_region ?_
    refine JL_val [] (v := runV Ac fc.length cc p k s) (OpV_blk 0 rfl rfl rfl rfl) rfl ?_
    refine JL_run [] rfl ?_
    refine JL_store 2 rfl rfl rfl rfl rfl [] rfl ?_
    refine JL_all [] rfl ?_
    refine J_ret ?_
    exact ⟨[_, _], [1], _, ⟨⟨p8, 2, _, _, rfl, rfl, rfl⟩, rfl, trivial⟩, by decide, rfl, fc, p, k, s, Ac, cc, hdn, by omega, hpn, hs1, hs2, rfl, rfl⟩
theorem maxT_fn (N : Net) (hN : N.Fits) (hR : N.Right) (A : Option Addr) (c b o : Nat) (hA : N.arcs ≠ [] → A = some ⟨b, o, none⟩) :
    Fn 25 [netV N A c, .int .u8 116] [] [.seg b o (arcs N.arcs)] fun v H' => ∃ (f' : List Int) (p k s : Nat) (A' : Option Addr) (c' : Nat), Dn N 1 (List.replicate N.arcs.length 0) p k f' ∧ (k : Int) ≤ 9223372036854775806 ∧ (p : Int) + 1 ≤ N.nodes ∧ 2 * N.arcs.length * p ≤ s ∧ s ≤ costB N.nodes.toNat N.arcs.length * p ∧
      v = .tuple #[runV A' f'.length c' p k s, .int .i64 0] ∧ H' = [.own (.slice A' f'.length c') 2 1 f'.length (ints f')] := by
  have hl2 := hR.len
  refine Fn_ofC Tryz.func25 rfl rfl fun w0 => ?_
  (repeat' (first | refine J_seq ?_ | refine J_skip ?_ | refine J_yes rfl ?_ | refine J_no rfl ?_))
  refine J_region ?_
  refine JL_box (cs := netC N A c) rfl rfl rfl (fun _ => rfl) fun p2 => ?_
  refine JL_alloc rfl rfl rfl (fun _ => rfl) fun p4 => ?_
  refine JL_all [] rfl ?_
  (repeat' (first | refine J_seq ?_ | refine J_skip ?_ | refine J_yes rfl ?_ | refine J_no rfl ?_))
  refine J_walk 9 [(0, true), (1, true), (2, true), (3, true), (5, true), (4, false), (6, false), (7, true), (8, true)] [1, 2] (by kernel_rfl) (by decide) rfl ?_
  refine JW_still [] rfl (OpV_blk (v := netV N A c) 0 rfl rfl rfl rfl) rfl ?_
  refine JW_run [] rfl ?_
  (first | refine JW_still [] rfl (OpV_blk 0 rfl rfl rfl rfl) rfl ?_ | refine JW_still [] rfl (OpV_blk 1 rfl rfl rfl rfl) rfl ?_ | refine JW_still [] rfl (OpV_blk 2 rfl rfl rfl rfl) rfl ?_ | refine JW_still [] rfl (OpV_blk 3 rfl rfl rfl rfl) rfl ?_ | refine JW_still [] rfl (OpV_blk 4 rfl rfl rfl rfl) rfl ?_ | refine JW_still [] rfl (OpV_blk 5 rfl rfl rfl rfl) rfl ?_)
  refine JW_run [] rfl ?_
  refine JW_eff rfl ?_
  refine JL_make (n := N.arcs.length) (c := N.arcs.length) rfl rfl rfl rfl rfl rfl (by omega) (by omega) (by omega) (fun _ => rfl) fun g => ?_
  refine JL_nil ⟨⟨[2, 3], by decide, rfl⟩, ?_⟩
  rw [show made [Value.int .i64 0] (N.arcs.length * 1) = ints (List.replicate N.arcs.length 0) by rw [made_one, Nat.mul_one]; simp [ints]]
  refine JW_eff rfl ?_
  refine JL_callR [] (fromT_fn N hN hR A c b o hA (List.replicate N.arcs.length 0) (zeroFlow N hR) (some ⟨g, 0, none⟩) N.arcs.length g 0 (fun _ => rfl) 1 (by decide) (by decide)) rfl rfl rfl (by rw [List.length_replicate]; rfl) (by kernel_rfl) ⟨⟨3, _, by simp, rfl, shows_seg _ _ _, seen_seg⟩, ⟨0, _, by simp, rfl, shows_own, seen_ownS (fun _ => rfl)⟩, trivial⟩ (fun _ => rfl) ?_
  rintro v H' ⟨f', p, k, s, A', c', hd, hk, hp1, hs1, hs2, rfl, rfl⟩
  refine ⟨rfl, JL_nil ⟨⟨[3, 4], by decide, rfl⟩, ?_⟩⟩
  refine JW_all [] rfl ?_
  refine JL_store 2 rfl rfl rfl rfl rfl [] rfl ?_
  refine JL_all [] rfl ?_
  refine J_ret ?_
  exact ⟨[_, _], [0], _, ⟨⟨p4, 2, _, _, rfl, rfl, rfl⟩, rfl, trivial⟩, by decide, rfl, f', p, k, s, A', c', hd, hk, hp1, hs1, hs2, rfl, rfl⟩
end Go.Proofs.YtfogkbmbmaganaaGreat
