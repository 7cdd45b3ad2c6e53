/- The engine and the words that all chapters share: several texts in one. -/
import Derived.Test.YtfogkbmbmaganaaGreatRefY
import Derived.Test.YtfogkbmbmaganaaGreatQX23
import Derived.Test.YtfogkbmbmaganaaGreatQX11

/- The references' words: phases. -/
set_option linter.unusedVariables false
set_option linter.unusedSimpArgs false
namespace Go.Proofs.YtfogkbmbmaganaaGreat
open Go.RowKit
def rrunV (A : Option Addr) (n c : Nat) (p k : Int) : Value := .agg #[.slice A n c, .int .i64 p, .int .i64 k]
def rfromR (N : Net) (f : List Int) (least sg : Int) (v : Value) (H' : Heap) : Prop :=
  (errZ N f least = 0 ∧ (sg = 112 ∨ sg = 116) ∧ ∃ (f' : List Int) (p k : Nat) (A' : Option Addr) (c' : Nat), Dn N least f p k f' ∧ v = .tuple #[rrunV A' f'.length c' p k, .int .i64 0] ∧ H' = [.own (.slice A' f'.length c') 2 1 f'.length (ints f')]) ∨
  (errZ N f least = 0 ∧ sg ≠ 112 ∧ sg ≠ 116 ∧ v = .tuple #[rrunV none 0 0 0 0, .int .i64 1] ∧ H' = []) ∨
  (errZ N f least ≠ 0 ∧ v = .tuple #[rrunV none 0 0 0 0, .int .i64 (errZ N f least)] ∧ H' = [])
structure RZ where
  g : List Int
  A : Option Addr
  c : Nat
  p : Nat
  k : Nat
  lv : List Int
set_option maxHeartbeats 2000000 in
theorem rfrom_fn (N : Net) (hN : N.Fits) (A : Option Addr) (c b o : Nat) (hA : N.arcs ≠ [] → A = some ⟨b, o, none⟩) (f : List Int) (F : Option Addr) (cf bf of : Nat) (hF : f ≠ [] → F = some ⟨bf, of, none⟩) (hf : ∀ x ∈ f, inB x) (hfl : f.length * 8 ≤ 140737488351232) (least sg : Int) :
    Fn 47 [netV N A c, .slice F f.length cf, .int .i64 least, .int .u8 sg] [] [.seg b o (arcs N.arcs), .seg bf of (ints f)] (rfromR N f least sg) := by
  refine Fn_ofC Tryz.func47 rfl rfl fun w0 => ?_
  (repeat' (first | refine J_seq ?_ | refine J_skip ?_ | refine J_yes rfl ?_ | refine J_no rfl ?_))
  refine J_region ?_
  refine JL_box (cs := netC N A c) rfl rfl rfl (fun _ => rfl) fun p4 => ?_
  refine JL_alloc rfl rfl rfl (fun _ => rfl) fun p8 => ?_
  refine JL_all [] rfl ?_
  (repeat' (first | refine J_seq ?_ | refine J_skip ?_ | refine J_yes rfl ?_ | refine J_no rfl ?_))
  refine J_region ?_
  refine JL_val [] (v := netV N A c) (OpV_blk 1 rfl rfl rfl rfl) rfl ?_
  refine JL_run [] rfl ?_
  refine JL_callR [] (rdeep_fn N hN A c b o hA f F cf bf of hF hf hfl least) rfl rfl rfl rfl (by kernel_rfl) ⟨⟨2, _, by simp, rfl, shows_seg _ _ _, seen_seg⟩, ⟨3, _, by simp, rfl, shows_seg _ _ _, seen_seg⟩, trivial⟩ (fun _ => rfl) ?_
  rintro v H' (⟨he0, lv, hlv, rfl, rfl⟩ | ⟨he, rfl, rfl⟩)
  case inr =>
    refine ⟨rfl, ?_⟩
    refine JL_all [] rfl ?_
    (repeat' (first | refine J_seq ?_ | refine J_skip ?_ | refine J_yes rfl ?_ | refine J_no rfl ?_))
    refine J_region ?_
    refine JL_all [] rfl ?_
    refine J_dec rfl (fun _ => ?_) (fun h => absurd he h)
    (repeat' (first | refine J_seq ?_ | refine J_skip ?_ | refine J_yes rfl ?_ | refine J_no rfl ?_))
    refine J_region ?_
    refine JL_val [] (v := rrunV none 0 0 0 0) (OpV_build rfl rfl rfl rfl rfl rfl) rfl ?_
    refine JL_run [] rfl ?_
    refine JL_store 0 rfl rfl rfl rfl rfl [] rfl ?_
    refine JL_all [] rfl ?_
    (repeat' (first | refine J_seq ?_ | refine J_skip ?_ | refine J_yes rfl ?_ | refine J_no rfl ?_))
    refine J_ret ?_
    exact ⟨[_, _], [], _, ⟨⟨p8, 0, _, _, rfl, rfl, rfl⟩, rfl, trivial⟩, by decide, rfl, .inr (.inr ⟨he, rfl, rfl⟩)⟩
  obtain ⟨hR, hW, hle⟩ := errZ_zero.1 he0
  have hl := hW.len
  have hl2 := hR.len
  refine ⟨rfl, ?_⟩
  refine JL_all [] rfl ?_
  (repeat' (first | refine J_seq ?_ | refine J_skip ?_ | refine J_yes rfl ?_ | refine J_no rfl ?_))
  refine J_region ?_
  refine JL_all [] rfl ?_
  refine J_dec rfl (fun h => absurd rfl h) (fun _ => J_skip ?_)
  refine J_seq ?_
  refine J_cut [(32, .bool (cdec (sg ≠ 112 ∧ sg ≠ 116))), (10, .int .i64 (lvZ lv N.snk.toNat)), (8, .pointer (some ⟨p8, 0, none⟩)), (4, .pointer (some ⟨p4, 0, none⟩)), (2, .int .i64 least), (1, .slice F f.length cf)] [blk p8 73 [.slice none 0 0, .int .i64 0, .int .i64 0], blk p4 24 (netC N A c), .seg b o (arcs N.arcs), .seg bf of (ints f)] ?_ ?_
  · (repeat' (first | refine J_seq ?_ | refine J_skip ?_ | refine J_yes rfl ?_ | refine J_no rfl ?_))
    refine J_region ?_
    refine JL_evO (gs := [999]) rfl ?_
    refine JL_evO (gs := [999]) rfl ?_
    refine JL_evO (gs := [999]) rfl ?_
    by_cases h1 : sg ≠ 112
    · refine JL_set 29 (v' := .bool true) rfl (congrArg Value.bool (cdec_yes h1)) ?_
      refine JL_all [2] rfl ?_
      exact ⟨[0, 1, 2, 3], ⟨congrArg some (congrArg Value.bool (cdec_iff ⟨fun h => ⟨h1, h⟩, fun h => h.2⟩)), rfl, rfl, rfl, rfl, rfl, trivial⟩, by decide, rfl⟩
    · refine JL_set 29 (v' := .bool false) rfl (congrArg Value.bool (cdec_no h1)) ?_
      refine JL_all [2] rfl ?_
      exact ⟨[0, 1, 2, 3], ⟨congrArg some (congrArg Value.bool (cdec_no (fun h => h1 h.1)).symm), rfl, rfl, rfl, rfl, rfl, trivial⟩, by decide, rfl⟩
  refine J_dec rfl (fun hbad => ?_) (fun hgood => J_skip ?_)
  · (repeat' (first | refine J_seq ?_ | refine J_skip ?_ | refine J_yes rfl ?_ | refine J_no rfl ?_))
    refine J_region ?_
    refine JL_val [] (v := rrunV none 0 0 0 0) (OpV_build rfl rfl rfl rfl rfl rfl) rfl ?_
    refine JL_store 0 rfl rfl rfl rfl rfl [] rfl ?_
    refine JL_all [] rfl ?_
    (repeat' (first | refine J_seq ?_ | refine J_skip ?_ | refine J_yes rfl ?_ | refine J_no rfl ?_))
    refine J_ret ?_
    exact ⟨[_, _], [], _, ⟨⟨p8, 0, _, _, rfl, rfl, rfl⟩, rfl, trivial⟩, by decide, rfl, .inr (.inl ⟨he0, hbad.1, hbad.2, rfl, rfl⟩)⟩
  have hsg : sg = 112 ∨ sg = 116 := by omega
  (repeat' (first | refine J_seq ?_ | refine J_skip ?_ | refine J_yes rfl ?_ | refine J_no rfl ?_))
  refine J_region ?_
  refine JL_lit rfl rfl rfl rfl rfl rfl rfl (fun _ => rfl) fun gx => ?_
  refine JL_fit (fun w h => h.blkOwn (sz := 1) (n := 0) rfl (by decide)) ?_
  refine JL_evO (gs := [999]) rfl ?_
  refine JL_appendS (n := 0) (m := f.length) (off := of) (news := ints f) 0 4 rfl rfl rfl rfl rfl rfl (by decide) rfl rfl (shows_seg _ _ _) (fun hne => hF (by rintro rfl; exact hne rfl)) (by rw [ints_length]; simp) (one_ints' _) (by omega) (by omega) (fun _ _ => rfl) fun A0 c0 => ?_
  refine JL_val [] (OpV_build rfl rfl rfl rfl rfl rfl) rfl ?_
  refine JL_alloc rfl rfl rfl (fun _ => rfl) fun p12 => ?_
  refine JL_store 0 rfl rfl rfl rfl rfl [] rfl ?_
  refine JL_nil ?_
  rw [show ([] : List Value) ++ ints f = ints f from rfl, Nat.zero_add]
  (repeat' (first | refine J_seq ?_ | refine J_skip ?_ | refine J_yes rfl ?_ | refine J_no rfl ?_))
  refine J_block ?_
  have hvb := value_bound hR hW.toRanged N.snk
  have hsk := hR.snk
  refine J_loopF (σ := RZ) (fun s => [(10, .int .i64 (lvZ s.lv N.snk.toNat)), (12, .pointer (some ⟨p12, 0, none⟩)), (8, .pointer (some ⟨p8, 0, none⟩)), (4, .pointer (some ⟨p4, 0, none⟩)), (2, .int .i64 least)])
    (fun s => [blk p12 73 [.slice s.A f.length s.c, .int .i64 (s.p : Int), .int .i64 (s.k : Int)], .own (.slice s.A f.length s.c) 2 1 f.length (ints s.g), blk p8 73 [.slice none 0 0, .int .i64 0, .int .i64 0], blk p4 24 (netC N A c), .seg b o (arcs N.arcs)])
    (fun s => IsFlow N s.g ∧ IsLev N (roomL (N.arcs.zip s.g)) least s.lv ∧ s.p ≤ s.k ∧ exZ (N.arcs.zip f) N.snk + s.k ≤ exZ (N.arcs.zip s.g) N.snk ∧ ∀ p k f', Dn N least s.g p k f' → Dn N least f (s.p + p) (s.k + k) f')
    (fun s => (4611686018427387903 - exZ (N.arcs.zip s.g) N.snk).toNat) ⟨f, A0, c0, 0, 0, lv⟩ ⟨rfl, rfl, rfl, rfl, rfl, trivial⟩ (Fit.picks [0, 1, 2, 3, 4] (by decide) rfl) ⟨hW, hlv, Nat.le_refl _, by simp, fun p k f' h => by simpa using h⟩ ?_
  rintro ⟨g, Ac, cc, p, k, lvc⟩ ⟨hg, hlvc, hpk, hval, hX⟩
  simp only at hg hlvc hpk hval hX ⊢
  have hvc := value_bound hR hg.toRanged N.snk
  have hgl := hg.len
  have hgin := IsFlow.inB hR hg.toRanged
  (repeat' (first | refine J_seq ?_ | refine J_skip ?_ | refine J_yes rfl ?_ | refine J_no rfl ?_))
  refine J_region ?_
  refine JL_all [] rfl ?_
  (repeat' (first | refine J_seq ?_ | refine J_skip ?_ | refine J_yes rfl ?_ | refine J_no rfl ?_))
  refine J_dec rfl (fun hge => J_skip ?_) (fun hlt => J_exit ?_)
  · refine J_block ?_
    refine J_know (own_is 1 rfl) fun ⟨_, _, hAc, hlAc⟩ => ?_
    obtain ⟨gc, hAc⟩ := own_at hAc hlAc
    have TB := rblock_fn N hN A c b o hA g Ac cc gc 0 (ints_nat hAc) hgin (by omega) least
    rw [show g.length = f.length by omega] at TB
    (repeat' (first | refine J_seq ?_ | refine J_skip ?_ | refine J_yes rfl ?_ | refine J_no rfl ?_))
    refine J_region ?_
    refine JL_run [] rfl ?_
    refine JL_val [] (v := netV N A c) (OpV_blk 3 rfl rfl rfl rfl) rfl ?_
    refine JL_run [] rfl ?_
    refine JL_val [] (OpV_blk (v := .slice Ac f.length cc) 0 rfl rfl rfl rfl) rfl ?_
    refine JL_run [] rfl ?_
    refine JL_callR [] TB rfl rfl rfl rfl (by kernel_rfl) ⟨⟨4, _, by simp, rfl, shows_seg _ _ _, seen_seg⟩, ⟨1, _, by simp, rfl, shows_ownS hAc, seen_ownS hAc⟩, trivial⟩ (fun _ => rfl) ?_
    rintro v H' (⟨_, f1, ws, Ao, co, Ak, ck, hb, rfl, rfl⟩ | ⟨he, _, _⟩)
    case inr => exact absurd (errZ_zero.2 ⟨hR, hg, hle⟩) he
    refine ⟨rfl, ?_⟩
    refine JL_all [] rfl ?_
    obtain ⟨hf1, hv1, hw1⟩ := hb.keeps hR hle hg hlvc
    have hwpos := List.length_pos_iff.2 (hw1 hge)
    have hf1l := hf1.len
    have hvc1 := value_bound hR hf1.toRanged N.snk
    have hlw : (ws.length : Int) ≤ least * ws.length := by
      have := Int.mul_le_mul_of_nonneg_right hle (show (0 : Int) ≤ ws.length by omega)
      omega
    have hgf : g.length = f.length := by omega
    rw [hgf]
    (repeat' (first | refine J_seq ?_ | refine J_skip ?_ | refine J_yes rfl ?_ | refine J_no rfl ?_))
    refine J_region ?_
    refine JL_run [] rfl ?_
    refine JL_store 1 rfl rfl rfl rfl rfl [] rfl ?_
    refine JL_nil ?_
    (repeat' (first | refine J_seq ?_ | refine J_skip ?_ | refine J_yes rfl ?_ | refine J_no rfl ?_))
    refine J_region ?_
    refine JL_run [] rfl ?_
    refine JL_val [] (OpV_blk (v := .int .i64 (p : Int)) 1 rfl rfl rfl rfl) rfl ?_
    refine JL_evO (gs := [999]) rfl ?_
    refine JL_set 53 (v' := .int .i64 ((p + 1 : Nat) : Int)) rfl (congrArg (Value.int .i64) (w64 (by omega))) ?_
    refine JL_run [] rfl ?_
    refine JL_store 1 rfl rfl rfl rfl rfl [] rfl ?_
    refine JL_nil ?_
    (repeat' (first | refine J_seq ?_ | refine J_skip ?_ | refine J_yes rfl ?_ | refine J_no rfl ?_))
    refine J_region ?_
    refine JL_run [] rfl ?_
    refine JL_val [] (OpV_blk (v := .int .i64 (k : Int)) 1 rfl rfl rfl rfl) rfl ?_
    refine JL_evO (gs := [999]) rfl ?_
    refine JL_evO (gs := [999]) rfl ?_
    refine JL_evO (gs := [999]) rfl ?_
    refine JL_set 59 (v' := .int .i64 ((k + ws.length : Nat) : Int)) rfl (congrArg (Value.int .i64) ((w64 (by omega)).trans (by omega))) ?_
    refine JL_run [] rfl ?_
    refine JL_store 1 rfl rfl rfl rfl rfl [] rfl ?_
    refine JL_nil ?_
    refine J_know (own_is 0 rfl) fun ⟨_, _, hAo, hlAo⟩ => ?_
    obtain ⟨go, hAo⟩ := own_at hAo hlAo
    have TD := rdeep_fn N hN A c b o hA f1 Ao co go 0 (ints_nat hAo) (IsFlow.inB hR hf1.toRanged) (by omega) least
    rw [show f1.length = f.length by omega] at TD
    (repeat' (first | refine J_seq ?_ | refine J_skip ?_ | refine J_yes rfl ?_ | refine J_no rfl ?_))
    refine J_region ?_
    refine JL_run [] rfl ?_
    refine JL_val [] (v := netV N A c) (OpV_blk 4 rfl rfl rfl rfl) rfl ?_
    refine JL_run [] rfl ?_
    refine JL_val [] (OpV_blk (v := .slice Ao f.length co) 1 rfl rfl rfl rfl) rfl ?_
    refine JL_run [] rfl ?_
    refine JL_callR [] TD rfl rfl rfl rfl (by kernel_rfl) ⟨⟨5, _, by simp, rfl, shows_seg _ _ _, seen_seg⟩, ⟨0, _, by simp, rfl, shows_ownS hAo, seen_ownS hAo⟩, trivial⟩ (fun _ => rfl) ?_
    rintro v H' (⟨_, lv1, hlv1, rfl, rfl⟩ | ⟨he, _, _⟩)
    case inr => exact absurd (errZ_zero.2 ⟨hR, hf1, hle⟩) he
    refine ⟨rfl, ?_⟩
    refine JL_all [] rfl ?_
    refine ⟨⟨f1, Ao, co, p + 1, k + ws.length, lv1⟩, ⟨rfl, rfl, rfl, rfl, rfl, trivial⟩, Fit.picks [1, 0, 3, 4, 5] (by decide) rfl, ⟨hf1, hlv1, by simp only; omega, by simp only; omega, fun p' k' f' h => ?_⟩, by simp only; omega⟩
    have := hX _ _ _ (.step hlvc hge hb h)
    simp only
    rw [show p + 1 + p' = p + (p' + 1) by omega, show k + ws.length + k' = k + (ws.length + k') by omega]
    exact this
  · have hdn := hX _ _ _ (.stop hlvc (by omega))
    rw [Nat.add_zero, Nat.add_zero] at hdn
    have hgf : g.length = f.length := by omega
    (repeat' (first | refine J_seq ?_ | refine J_skip ?_ | refine J_yes rfl ?_ | refine J_no rfl ?_))
    refine J_region ?_
    refine JL_val [] (v := rrunV Ac f.length cc p k) (OpV_blk 0 rfl rfl rfl rfl) rfl ?_
    refine JL_store 2 rfl rfl rfl rfl rfl [] rfl ?_
    refine JL_all [] rfl ?_
    refine J_ret ?_
    refine ⟨[_, _], [1], _, ⟨⟨p8, 2, _, _, rfl, rfl, rfl⟩, rfl, trivial⟩, by decide, rfl, .inl ⟨he0, hsg, g, p, k, Ac, cc, hdn, ?_, ?_⟩⟩
    · rw [hgf]; rfl
    · rw [hgf]
end Go.Proofs.YtfogkbmbmaganaaGreat


/- The references' words: phases from nothing. -/
set_option linter.unusedVariables false
set_option linter.unusedSimpArgs false
namespace Go.Proofs.YtfogkbmbmaganaaGreat
open Go.RowKit
set_option maxHeartbeats 1000000 in
theorem rmax_fn (N : Net) (hN : N.Fits) (hl2 : N.arcs.length ≤ 2000) (A : Option Addr) (c b o : Nat) (hA : N.arcs ≠ [] → A = some ⟨b, o, none⟩) (sg : Int) :
    Fn 27 [netV N A c, .int .u8 sg] [] [.seg b o (arcs N.arcs)] (rfromR N (List.replicate N.arcs.length 0) 1 sg) := by
  refine Fn_ofC Tryz.func27 rfl rfl fun w0 => ?_
  (repeat' (first | refine J_seq ?_ | refine J_skip ?_ | refine J_yes rfl ?_ | refine J_no rfl ?_))
  refine J_region ?_
  refine JL_box (cs := netC N A c) rfl rfl rfl (fun _ => rfl) fun p2 => ?_
  refine JL_alloc rfl rfl rfl (fun _ => rfl) fun p4 => ?_
  refine JL_all [] rfl ?_
  (repeat' (first | refine J_seq ?_ | refine J_skip ?_ | refine J_yes rfl ?_ | refine J_no rfl ?_))
  refine J_walk 9 [(0, true), (1, true), (2, true), (3, true), (5, true), (4, false), (6, false), (7, true), (8, true)] [1, 2] (by kernel_rfl) (by decide) rfl ?_
  refine JW_still [] rfl (OpV_blk (v := netV N A c) 0 rfl rfl rfl rfl) rfl ?_
  refine JW_run [] rfl ?_
  (first | refine JW_still [] rfl (OpV_blk 0 rfl rfl rfl rfl) rfl ?_ | refine JW_still [] rfl (OpV_blk 1 rfl rfl rfl rfl) rfl ?_ | refine JW_still [] rfl (OpV_blk 2 rfl rfl rfl rfl) rfl ?_ | refine JW_still [] rfl (OpV_blk 3 rfl rfl rfl rfl) rfl ?_ | refine JW_still [] rfl (OpV_blk 4 rfl rfl rfl rfl) rfl ?_ | refine JW_still [] rfl (OpV_blk 5 rfl rfl rfl rfl) rfl ?_)
  refine JW_run [] rfl ?_
  refine JW_eff rfl ?_
  refine JL_make (n := N.arcs.length) (c := N.arcs.length) rfl rfl rfl rfl rfl rfl (by omega) (by omega) (by omega) (fun _ => rfl) fun g => ?_
  refine JL_nil ⟨⟨[2, 3], by decide, rfl⟩, ?_⟩
  rw [show made [Value.int .i64 0] (N.arcs.length * 1) = ints (List.replicate N.arcs.length 0) by rw [made_one, Nat.mul_one]; simp [ints]]
  refine JW_eff rfl ?_
  refine JL_callR [] (rfrom_fn N hN A c b o hA (List.replicate N.arcs.length 0) (some ⟨g, 0, none⟩) N.arcs.length g 0 (fun _ => rfl) (fun x hx => by rw [List.eq_of_mem_replicate hx]; decide) (by rw [List.length_replicate]; omega) 1 sg) rfl rfl rfl (by rw [List.length_replicate]; rfl) (by kernel_rfl) ⟨⟨3, _, by simp, rfl, shows_seg _ _ _, seen_seg⟩, ⟨0, _, by simp, rfl, shows_own, seen_ownS (fun _ => rfl)⟩, trivial⟩ (fun _ => rfl) ?_
  rintro v H' (⟨he0, hsg, f', p, k, A', c', hd, rfl, rfl⟩ | ⟨he0, h1, h2, rfl, rfl⟩ | ⟨he, rfl, rfl⟩)
  · refine ⟨rfl, JL_nil ⟨⟨[3, 4], by decide, rfl⟩, ?_⟩⟩
    refine JW_all [] rfl ?_
    refine JL_store 2 rfl rfl rfl rfl rfl [] rfl ?_
    refine JL_all [] rfl ?_
    refine J_ret ?_
    exact ⟨[_, _], [0], _, ⟨⟨p4, 2, _, _, rfl, rfl, rfl⟩, rfl, trivial⟩, by decide, rfl, .inl ⟨he0, hsg, f', p, k, A', c', hd, rfl, rfl⟩⟩
  · refine ⟨rfl, JL_nil ⟨⟨[2, 3], by decide, rfl⟩, ?_⟩⟩
    refine JW_all [] rfl ?_
    refine JL_store 1 rfl rfl rfl rfl rfl [] rfl ?_
    refine JL_all [] rfl ?_
    refine J_ret ?_
    exact ⟨[_, _], [], _, ⟨⟨p4, 1, _, _, rfl, rfl, rfl⟩, rfl, trivial⟩, by decide, rfl, .inr (.inl ⟨he0, h1, h2, rfl, rfl⟩)⟩
  · refine ⟨rfl, JL_nil ⟨⟨[2, 3], by decide, rfl⟩, ?_⟩⟩
    refine JW_all [] rfl ?_
    refine JL_store 1 rfl rfl rfl rfl rfl [] rfl ?_
    refine JL_all [] rfl ?_
    refine J_ret ?_
    exact ⟨[_, _], [], _, ⟨⟨p4, 1, _, _, rfl, rfl, rfl⟩, rfl, trivial⟩, by decide, rfl, .inr (.inr ⟨he, rfl, rfl⟩)⟩
end Go.Proofs.YtfogkbmbmaganaaGreat
