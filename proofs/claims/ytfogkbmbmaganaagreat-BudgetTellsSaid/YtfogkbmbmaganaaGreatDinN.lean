
/- Phases by walks. -/
import Derived.Test.YtfogkbmbmaganaaGreatBlkN
set_option linter.unusedVariables false
set_option linter.unusedSimpArgs false
namespace Go.Proofs.YtfogkbmbmaganaaGreat
open Go.RowKit
theorem byWalks_fn (N : Net) (hN : N.Fits) (hR : N.Right) (A : Option Addr) (c b o : Nat) (hA : N.arcs ≠ [] → A = some ⟨b, o, none⟩) (f : List Int) (hf : IsFlow N f) (F : Option Addr) (cf bf of : Nat) (hF : f ≠ [] → F = some ⟨bf, of, none⟩) (least : Int) (hle : 1 ≤ least) :
    Fn 113 [.agg #[], netV N A c, .slice F f.length cf, .int .i64 least] [] [.seg b o (arcs N.arcs), .seg bf of (ints f)] fun v H' => ∃ (f' : List Int) (ws : List (List Nat × Int)) (g : Nat), BlkOf N least f ws f' ∧
      v = .tuple #[.slice (some ⟨g, 0, none⟩) f.length f.length, .int .i64 ws.length, .int .i64 0] ∧ H' = [.own (.slice (some ⟨g, 0, none⟩) f.length f.length) 2 1 f.length (ints f')] := by
  have hl := hf.len
  have hl2 := hR.len
  refine Fn_of Tryz.func113 rfl rfl fun w0 => ?_
  (repeat' (first | refine J_seq ?_ | refine J_skip ?_ | refine J_yes rfl ?_ | refine J_no rfl ?_))
  refine J_region ?_
  refine JL_box (cs := []) rfl rfl rfl (fun _ => rfl) fun p0 => ?_
  refine JL_box (cs := netC N A c) rfl rfl rfl (fun _ => rfl) fun p => ?_
  refine JL_all [] rfl ?_
  (repeat' (first | refine J_seq ?_ | refine J_skip ?_ | refine J_yes rfl ?_ | refine J_no rfl ?_))
  refine J_region ?_
  refine JL_val [] (v := netV N A c) (OpV_blk 0 rfl rfl rfl rfl) rfl ?_
  refine JL_run [] rfl ?_
  refine JL_callR [] (block_fn N hN hR A c b o hA f F cf bf of hF (IsFlow.inB hR hf.toRanged) (by omega) least) rfl rfl rfl rfl (by kernel_rfl) ⟨⟨2, _, by simp, rfl, shows_seg _ _ _, seen_seg⟩, ⟨3, _, by simp, rfl, shows_seg _ _ _, seen_seg⟩, trivial⟩ (fun _ => rfl) ?_
  rintro v H' (⟨_, _, f', ws, g, Ak, ck, xs, hb, rfl, rfl⟩ | ⟨hW, _, _⟩ | ⟨_, hlt, _, _⟩)
  case inr.inl => exact absurd hf hW
  case inr.inr => omega
  refine ⟨rfl, ?_⟩
  refine JL_all [] rfl ?_
  (repeat' (first | refine J_seq ?_ | refine J_skip ?_ | refine J_yes rfl ?_ | refine J_no rfl ?_))
  refine J_region ?_
  refine JL_all [] rfl ?_
  exact J_drop [0] (by decide) rfl (J_ret ⟨_, rfl, f', ws, g, hb, rfl, rfl⟩)
theorem engine_fn : Fn 66 [.int .u8 112] [] [] fun v H' => v = .iface 148 (.agg #[]) ∧ H' = [] := by
  refine Fn_of Tryz.func66 rfl rfl fun w0 => ?_
  (repeat' (first | refine J_seq ?_ | refine J_skip ?_ | refine J_yes rfl ?_ | refine J_no rfl ?_))
  refine J_region ?_
  refine JL_all [] rfl ?_
  (repeat' (first | refine J_seq ?_ | refine J_skip ?_ | refine J_yes rfl ?_ | refine J_no rfl ?_))
  refine J_region ?_
  refine JL_all [] rfl ?_
  (repeat' (first | refine J_seq ?_ | refine J_skip ?_ | refine J_yes rfl ?_ | refine J_no rfl ?_))
  refine J_block ?_
  (repeat' (first | refine J_seq ?_ | refine J_skip ?_ | refine J_yes rfl ?_ | refine J_no rfl ?_))
  refine J_region ?_
  refine JL_all [] rfl ?_
  refine J_dec rfl (fun _ => ?_) (fun h => absurd rfl h)
  (repeat' (first | refine J_seq ?_ | refine J_skip ?_ | refine J_yes rfl ?_ | refine J_no rfl ?_))
  refine J_region ?_
  refine JL_run [] rfl ?_
  refine JL_val [] (OpV_build rfl rfl rfl rfl rfl rfl) rfl ?_
  refine JL_all [] rfl ?_
  exact J_ret ⟨_, rfl, rfl, rfl⟩
structure FS where
  f : List Int
  A : Option Addr
  c : Nat
  p : Nat
  k : Nat
  lv : List Int
def runV (A : Option Addr) (m c : Nat) (p k : Int) (s : Int) : Value := .agg #[.slice A m c, .int .i64 p, .int .i64 k, .int .i64 s]
set_option maxHeartbeats 1000000 in
theorem from_fn (N : Net) (hN : N.Fits) (hR : N.Right) (A : Option Addr) (c b o : Nat) (hA : N.arcs ≠ [] → A = some ⟨b, o, none⟩) (f : List Int) (hf : IsFlow N f) (F : Option Addr) (cf bf of : Nat) (hF : f ≠ [] → F = some ⟨bf, of, none⟩) (least : Int) (hle : 1 ≤ least) :
    Fn 44 [netV N A c, .slice F f.length cf, .int .i64 least, .int .u8 112] [] [.seg b o (arcs N.arcs), .seg bf of (ints f)] fun v H' => ∃ (f' : List Int) (p k : Nat) (A' : Option Addr) (c' : Nat), Dn N least f p k f' ∧ (k : Int) ≤ 9223372036854775806 ∧
      v = .tuple #[runV A' f'.length c' p k 0, .int .i64 0] ∧ H' = [.own (.slice A' f'.length c') 2 1 f'.length (ints f')] := by
  have hl := hf.len
  have hl2 := hR.len
  refine Fn_ofC Tryz.func44 rfl rfl fun w0 => ?_
  (repeat' (first | refine J_seq ?_ | refine J_skip ?_ | refine J_yes rfl ?_ | refine J_no rfl ?_))
  refine J_region ?_
  refine JL_box (cs := netC N A c) rfl rfl rfl (fun _ => rfl) fun p4 => ?_
  refine JL_alloc rfl rfl rfl (fun _ => rfl) fun p8 => ?_
  refine JL_all [] rfl ?_
  (repeat' (first | refine J_seq ?_ | refine J_skip ?_ | refine J_yes rfl ?_ | refine J_no rfl ?_))
  refine J_region ?_
  refine JL_val [] (v := netV N A c) (OpV_blk 1 rfl rfl rfl rfl) rfl ?_
  refine JL_run [] rfl ?_
  refine JL_callR [] (deep_fn N hN hR A c b o hA f F cf bf of hF (IsFlow.inB hR hf.toRanged) (by omega) least) rfl rfl rfl rfl (by kernel_rfl) ⟨⟨2, _, by simp, rfl, shows_seg _ _ _, seen_seg⟩, ⟨3, _, by simp, rfl, shows_seg _ _ _, seen_seg⟩, trivial⟩ (fun _ => rfl) ?_
  rintro v H' (⟨_, _, lv, hlv, rfl, rfl⟩ | ⟨hW, _, _⟩ | ⟨_, hlt, _, _⟩)
  case inr.inl => exact absurd hf hW
  case inr.inr => omega
  refine ⟨rfl, ?_⟩
  refine JL_all [] rfl ?_
  (repeat' (first | refine J_seq ?_ | refine J_skip ?_ | refine J_yes rfl ?_ | refine J_no rfl ?_))
  refine J_region ?_
  refine JL_all [] rfl ?_
  refine J_dec rfl (fun h => absurd rfl h) (fun _ => J_skip ?_)
  (repeat' (first | refine J_seq ?_ | refine J_skip ?_ | refine J_yes rfl ?_ | refine J_no rfl ?_))
  refine J_region ?_
  refine JL_run [] rfl ?_
  refine JL_callR [] (engine_fn) rfl rfl rfl rfl (by kernel_rfl) trivial (fun _ => rfl) ?_
  rintro v H' ⟨rfl, rfl⟩
  refine ⟨rfl, ?_⟩
  refine JL_all [] rfl ?_
  (repeat' (first | refine J_seq ?_ | refine J_skip ?_ | refine J_yes rfl ?_ | refine J_no rfl ?_))
  refine J_region ?_
  refine JL_all [] rfl ?_
  refine J_no rfl (J_skip ?_)
  (repeat' (first | refine J_seq ?_ | refine J_skip ?_ | refine J_yes rfl ?_ | refine J_no rfl ?_))
  refine J_region ?_
  refine JL_run [] rfl ?_
  refine JL_callR [] (cloneL_fn F cf bf of f hF (by omega)) rfl rfl rfl rfl (by kernel_rfl) ⟨⟨3, _, by simp, rfl, shows_seg _ _ _, seen_seg⟩, trivial⟩ (fun _ => rfl) ?_
  rintro v H' ⟨A0, c0, rfl, rfl⟩
  refine ⟨rfl, ?_⟩
  refine JL_val [] (OpV_build rfl rfl rfl rfl rfl rfl) rfl ?_
  refine JL_alloc rfl rfl rfl (fun _ => rfl) fun p13 => ?_
  refine JL_store 0 rfl rfl rfl rfl rfl [] rfl ?_
  refine JL_nil ?_
  (repeat' (first | refine J_seq ?_ | refine J_skip ?_ | refine J_yes rfl ?_ | refine J_no rfl ?_))
  refine J_block ?_
  have hvb := value_bound hR hf.toRanged N.snk
  refine J_loop (σ := FS) (fun s => [(10, .int .i64 (lvZ s.lv N.snk.toNat)), (12, .iface 148 (.agg #[])), (13, .pointer (some ⟨p13, 0, none⟩)), (8, .pointer (some ⟨p8, 0, none⟩)), (4, .pointer (some ⟨p4, 0, none⟩)), (2, .int .i64 least)])
    (fun s => [blk p13 68 [.slice s.A s.f.length s.c, .int .i64 s.p, .int .i64 s.k, .int .i64 0], .own (.slice s.A s.f.length s.c) 2 1 s.f.length (ints s.f), blk p8 68 [.slice none 0 0, .int .i64 0, .int .i64 0, .int .i64 0], blk p4 24 (netC N A c), .seg b o (arcs N.arcs)])
    (fun s => IsFlow N s.f ∧ IsLev N (roomL (N.arcs.zip s.f)) least s.lv ∧ s.p ≤ s.k ∧ exZ (N.arcs.zip f) N.snk + s.k ≤ exZ (N.arcs.zip s.f) N.snk ∧ ∀ p k f', Dn N least s.f p k f' → Dn N least f (s.p + p) (s.k + k) f')
    (fun s => (4611686018427387903 - exZ (N.arcs.zip s.f) N.snk).toNat) ⟨f, A0, c0, 0, 0, lv⟩ [0, 1, 2, 3, 4] ⟨rfl, rfl, rfl, rfl, rfl, rfl, trivial⟩ (by decide) rfl ⟨hf, hlv, Nat.le_refl _, by simp, fun p k f' h => by simpa using h⟩ ?_
  rintro ⟨fc, Ac, cc, p, k, lvc⟩ ⟨hfc, hlvc, hpk, hval, hX⟩
  simp only at hfc hlvc hpk hval hX ⊢
  have hvc := value_bound hR hfc.toRanged N.snk
  have hfcl := hfc.len
  (repeat' (first | refine J_seq ?_ | refine J_skip ?_ | refine J_yes rfl ?_ | refine J_no rfl ?_))
  refine J_region ?_
  refine JL_all [] rfl ?_
  refine J_dec rfl (fun hge => J_skip ?_) (fun hlt => J_exit ?_)
  · refine J_block ?_
    refine J_know (own_is 1 rfl) fun ⟨_, _, hAc, hlAc⟩ => ?_
    obtain ⟨gc, hAc⟩ := own_at hAc hlAc
    (repeat' (first | refine J_seq ?_ | refine J_skip ?_ | refine J_yes rfl ?_ | refine J_no rfl ?_))
    refine J_region ?_
    refine JL_run [] rfl ?_
    refine JL_val [] (v := netV N A c) (OpV_blk 3 rfl rfl rfl rfl) rfl ?_
    refine JL_run [] rfl ?_
    refine JL_val [] (OpV_blk (v := .slice Ac fc.length cc) 0 rfl rfl rfl rfl) rfl ?_
    refine JL_run [] rfl ?_
    refine JL_invoke [] (byWalks_fn N hN hR A c b o hA fc hfc Ac cc gc 0 (fun h => hAc (by simpa [ints] using h)) least hle) rfl rfl rfl rfl (by kernel_rfl) rfl (by kernel_rfl) ⟨⟨4, _, by simp, rfl, shows_seg _ _ _, seen_seg⟩, ⟨1, _, by simp, rfl, shows_ownS hAc, seen_ownS hAc⟩, trivial⟩ (fun _ => rfl) ?_
    rintro v H' ⟨f1, ws, g1, hb, rfl, rfl⟩
    obtain ⟨hf1, hv1, hw1⟩ := hb.keeps hR hle hfc hlvc
    have hwpos := List.length_pos_iff.2 (hw1 hge)
    have hf1l := hf1.len
    have hlen : fc.length = f1.length := by omega
    refine ⟨rfl, ?_⟩
    rw [hlen]
    refine JL_all [] rfl ?_
    have hvc1 := value_bound hR hf1.toRanged N.snk
    have hlw : (ws.length : Int) ≤ least * ws.length := by
      have := Int.mul_le_mul_of_nonneg_right hle (show (0 : Int) ≤ ws.length by omega)
      omega
    (repeat' (first | refine J_seq ?_ | refine J_skip ?_ | refine J_yes rfl ?_ | refine J_no rfl ?_))
    refine J_region ?_
    refine JL_run [] rfl ?_
    refine JL_val [] (OpV_blk (v := .int .i64 p) 1 rfl rfl rfl rfl) rfl ?_
    refine JL_run [] rfl ?_
    refine JL_set 51 (v' := .int .i64 ((p + 1 : Nat) : Int)) rfl (congrArg (Value.int .i64) (w64 (by omega))) ?_
    refine JL_val [] (OpV_blk (v := .int .i64 k) 1 rfl rfl rfl rfl) rfl ?_
    refine JL_run [] rfl ?_
    refine JL_set 55 (v' := .int .i64 ((k + ws.length : Nat) : Int)) rfl (congrArg (Value.int .i64) ((w64 (by omega)).trans (by omega))) ?_
    refine JL_val [] (OpV_blk (v := .int .i64 0) 1 rfl rfl rfl rfl) rfl ?_
    refine JL_run [] rfl ?_
    refine JL_set 59 (v' := .int .i64 0) rfl (congrArg (Value.int .i64) (w64 (by omega))) ?_
    refine JL_val [] (OpV_build rfl rfl rfl rfl rfl rfl) rfl ?_
    refine JL_store 1 rfl rfl rfl rfl rfl [] rfl ?_
    refine JL_nil ?_
    (repeat' (first | refine J_seq ?_ | refine J_skip ?_ | refine J_yes rfl ?_ | refine J_no rfl ?_))
    refine J_region ?_
    refine JL_val [] (v := netV N A c) (OpV_blk 4 rfl rfl rfl rfl) rfl ?_
    refine JL_run [] rfl ?_
    refine JL_callR [] (deep_fn N hN hR A c b o hA f1 (some ⟨g1, 0, none⟩) f1.length g1 0 (fun _ => rfl) (IsFlow.inB hR hf1.toRanged) (by omega) least) rfl rfl rfl rfl (by kernel_rfl) ⟨⟨5, _, by simp, rfl, shows_seg _ _ _, seen_seg⟩, ⟨0, _, by simp, rfl, shows_own, seen_ownS (fun _ => rfl)⟩, trivial⟩ (fun _ => rfl) ?_
    rintro v H' (⟨_, _, lv1, hlv1, rfl, rfl⟩ | ⟨hW, _, _⟩ | ⟨_, hlt, _, _⟩)
    case inr.inl => exact absurd hf1 hW
    case inr.inr => omega
    refine ⟨rfl, ?_⟩
    refine JL_all [] rfl ?_
    refine ⟨⟨f1, some ⟨g1, 0, none⟩, f1.length, p + 1, k + ws.length, lv1⟩, [1, 0, 3, 4, 5], ⟨rfl, rfl, rfl, rfl, rfl, rfl, trivial⟩, by decide, rfl, ⟨hf1, hlv1, by simp only; omega, by simp only; omega, fun p' k' f' h => ?_⟩, by simp only; omega⟩
    have := hX _ _ _ (.step hlvc hge hb h)
    simp only
    rw [show p + 1 + p' = p + (p' + 1) by omega, show k + ws.length + k' = k + (ws.length + k') by omega]
    exact this
  · have hdn := hX _ _ _ (.stop hlvc (by omega))
    rw [Nat.add_zero, Nat.add_zero] at hdn
    (repeat' (first | refine J_seq ?_ | refine J_skip ?_ | refine J_yes rfl ?_ | refine J_no rfl ?_))
    refine J_region ?_
    refine JL_val [] (v := runV Ac fc.length cc p k 0) (OpV_blk 0 rfl rfl rfl rfl) rfl ?_
    refine JL_run [] rfl ?_
    refine JL_store 2 rfl rfl rfl rfl rfl [] rfl ?_
    refine JL_all [] rfl ?_
    refine J_ret ?_
    exact ⟨[_, _], [1], _, ⟨⟨p8, 2, _, _, rfl, rfl, rfl⟩, rfl, trivial⟩, by decide, rfl, fc, p, k, Ac, cc, hdn, by omega, rfl, rfl⟩
theorem max_fn (N : Net) (hN : N.Fits) (hR : N.Right) (A : Option Addr) (c b o : Nat) (hA : N.arcs ≠ [] → A = some ⟨b, o, none⟩) :
    Fn 25 [netV N A c, .int .u8 112] [] [.seg b o (arcs N.arcs)] fun v H' => ∃ (f' : List Int) (p k : Nat) (A' : Option Addr) (c' : Nat), Dn N 1 (List.replicate N.arcs.length 0) p k f' ∧ (k : Int) ≤ 9223372036854775806 ∧
      v = .tuple #[runV A' f'.length c' p k 0, .int .i64 0] ∧ H' = [.own (.slice A' f'.length c') 2 1 f'.length (ints f')] := by
  have hl2 := hR.len
  refine Fn_ofC Tryz.func25 rfl rfl fun w0 => ?_
  (repeat' (first | refine J_seq ?_ | refine J_skip ?_ | refine J_yes rfl ?_ | refine J_no rfl ?_))
  refine J_region ?_
  refine JL_box (cs := netC N A c) rfl rfl rfl (fun _ => rfl) fun p2 => ?_
  refine JL_alloc rfl rfl rfl (fun _ => rfl) fun p4 => ?_
  refine JL_all [] rfl ?_
  (repeat' (first | refine J_seq ?_ | refine J_skip ?_ | refine J_yes rfl ?_ | refine J_no rfl ?_))
  refine J_walk 9 [(0, true), (1, true), (2, true), (3, true), (5, true), (4, false), (6, false), (7, true), (8, true)] [1, 2] (by kernel_rfl) (by decide) rfl ?_
  refine JW_still [] rfl (OpV_blk (v := netV N A c) 0 rfl rfl rfl rfl) rfl ?_
  refine JW_run [] rfl ?_
  (first | refine JW_still [] rfl (OpV_blk 0 rfl rfl rfl rfl) rfl ?_ | refine JW_still [] rfl (OpV_blk 1 rfl rfl rfl rfl) rfl ?_ | refine JW_still [] rfl (OpV_blk 2 rfl rfl rfl rfl) rfl ?_ | refine JW_still [] rfl (OpV_blk 3 rfl rfl rfl rfl) rfl ?_ | refine JW_still [] rfl (OpV_blk 4 rfl rfl rfl rfl) rfl ?_ | refine JW_still [] rfl (OpV_blk 5 rfl rfl rfl rfl) rfl ?_)
  refine JW_run [] rfl ?_
  refine JW_eff rfl ?_
  refine JL_make (n := N.arcs.length) (c := N.arcs.length) rfl rfl rfl rfl rfl rfl (by omega) (by omega) (by omega) (fun _ => rfl) fun g => ?_
  refine JL_nil ⟨⟨[2, 3], by decide, rfl⟩, ?_⟩
  rw [show made [Value.int .i64 0] (N.arcs.length * 1) = ints (List.replicate N.arcs.length 0) by rw [made_one, Nat.mul_one]; simp [ints]]
  refine JW_eff rfl ?_
  refine JL_callR [] (from_fn N hN hR A c b o hA (List.replicate N.arcs.length 0) (zeroFlow N hR) (some ⟨g, 0, none⟩) N.arcs.length g 0 (fun _ => rfl) 1 (by decide)) rfl rfl rfl (by rw [List.length_replicate]; rfl) (by kernel_rfl) ⟨⟨3, _, by simp, rfl, shows_seg _ _ _, seen_seg⟩, ⟨0, _, by simp, rfl, shows_own, seen_ownS (fun _ => rfl)⟩, trivial⟩ (fun _ => rfl) ?_
  rintro v H' ⟨f', p, k, A', c', hd, hk, rfl, rfl⟩
  refine ⟨rfl, JL_nil ⟨⟨[3, 4], by decide, rfl⟩, ?_⟩⟩
  refine JW_all [] rfl ?_
  refine JL_store 2 rfl rfl rfl rfl rfl [] rfl ?_
  refine JL_all [] rfl ?_
  refine J_ret ?_
  exact ⟨[_, _], [0], _, ⟨⟨p4, 2, _, _, rfl, rfl, rfl⟩, rfl, trivial⟩, by decide, rfl, f', p, k, A', c', hd, hk, rfl, rfl⟩
end Go.Proofs.YtfogkbmbmaganaaGreat
