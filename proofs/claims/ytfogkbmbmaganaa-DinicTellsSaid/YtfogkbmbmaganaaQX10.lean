/- The engine and the words that all chapters share: several texts in one. -/
import Derived.Test.YtfogkbmbmaganaaDinT
import Derived.Test.YtfogkbmbmaganaaRefE

/- Phases by either engine: From and Max with the sign as a number. -/
set_option linter.unusedVariables false
set_option linter.unusedSimpArgs false
namespace Go.Proofs.Ytfogkbmbmaganaa
open Go.RowKit
theorem Dn.lev {N : Net} {least : Int} {f f' : List Int} {p k : Nat} (h : Dn N least f p k f') : ∃ lv, IsLev N (roomL (N.arcs.zip f)) least lv := by
  cases h with
  | stop h1 _ => exact ⟨_, h1⟩
  | step h1 _ _ _ => exact ⟨_, h1⟩
theorem Dn.few0 {N : Net} (hR : N.Right) {least : Int} (hle : 1 ≤ least) {f f' : List Int} {p k : Nat} (h : Dn N least f p k f') : IsFlow N f → ∀ lv, IsLev N (roomL (N.arcs.zip f)) least lv →
    (lvZ lv N.snk.toNat < 0 → p = 0) ∧ (0 ≤ lvZ lv N.snk.toNat → (p : Int) + lvZ lv N.snk.toNat ≤ N.nodes) := by
  induction h with
  | stop h1 h2 =>
    intro hf lv hlv
    have := lev_uniq hlv h1 N.snk.toNat
    exact ⟨fun _ => rfl, fun h => by omega⟩
  | @step f f1 f' lv0 ws p k h1 h2 h3 h4 ih =>
    intro hf lv hlv
    have e := lev_uniq hlv h1 N.snk.toNat
    obtain ⟨k1, _, _⟩ := h3.keeps hR hle hf h1
    obtain ⟨lv1, hl1⟩ := h4.lev
    obtain ⟨i1, i2⟩ := ih k1 lv1 hl1
    have hr := h1.rng N.snk.toNat
    have hnn := hR.nodes
    refine ⟨fun h => by omega, fun h => ?_⟩
    by_cases hz : 0 ≤ lvZ lv1 N.snk.toNat
    · have h5 := (h3.rise hR hle hf h1 hl1 hz).2
      have h6 := i2 hz
      omega
    · have := i1 (by omega)
      omega
theorem Dn.few {N : Net} (hR : N.Right) {least : Int} (hle : 1 ≤ least) {f f' : List Int} {p k : Nat} (h : Dn N least f p k f') (hf : IsFlow N f) : (p : Int) + 1 ≤ N.nodes := by
  obtain ⟨lv, hlv⟩ := h.lev
  obtain ⟨h1, h2⟩ := h.few0 hR hle hf lv hlv
  have hnn := hR.nodes
  have hd := hR.diff
  have hs := hR.src
  have hk := hR.snk
  by_cases hz : 0 ≤ lvZ lv N.snk.toNat
  · have h3 := h2 hz
    have : lvZ lv N.snk.toNat ≠ 0 := fun h0 => by
      have := hlv.zero _ h0
      omega
    omega
  · have := h1 (by omega)
    omega
theorem fromG_fn (N : Net) (hN : N.Fits) (hR : N.Right) (A : Option Addr) (c b o : Nat) (hA : N.arcs ≠ [] → A = some ⟨b, o, none⟩) (f : List Int) (hf : IsFlow N f) (F : Option Addr) (cf bf of : Nat) (hF : f ≠ [] → F = some ⟨bf, of, none⟩) (least : Int) (hle : 1 ≤ least) (hlb : inB least) (sg : Int) (hsg : sg = 112 ∨ sg = 116) :
    Fn 5 [netV N A c, .slice F f.length cf, .int .i64 least, .int .u8 sg] [] [.seg b o (arcs N.arcs), .seg bf of (ints f)] fun v H' => ∃ (f' : List Int) (p k s : Nat) (A' : Option Addr) (c' : Nat), Dn N least f p k f' ∧ (k : Int) ≤ 9223372036854775806 ∧ (p : Int) + 1 ≤ N.nodes ∧ (sg = 112 → s = 0) ∧ (sg = 116 → 2 * N.arcs.length * p ≤ s) ∧ s ≤ costB N.nodes.toNat N.arcs.length * p ∧
      v = .tuple #[runV A' f'.length c' p k s, .int .i64 0] ∧ H' = [.own (.slice A' f'.length c') 2 1 f'.length (ints f')] := by
  rcases hsg with rfl | rfl
  · refine (from_fn N hN hR A c b o hA f hf F cf bf of hF least hle).mono ?_
    rintro v H' ⟨f', p, k, A', c', hd, hk, rfl, rfl⟩
    exact ⟨f', p, k, 0, A', c', hd, hk, hd.few hR hle hf, fun _ => rfl, fun h => absurd h (by decide), Nat.zero_le _, rfl, rfl⟩
  · refine (fromT_fn N hN hR A c b o hA f hf F cf bf of hF least hle hlb).mono ?_
    rintro v H' ⟨f', p, k, s, A', c', hd, hk, hp, hs1, hs2, rfl, rfl⟩
    exact ⟨f', p, k, s, A', c', hd, hk, hp, fun h => absurd h (by decide), fun _ => hs1, hs2, rfl, rfl⟩
end Go.Proofs.Ytfogkbmbmaganaa


/- dinic.From and dinic.Max of any network, any amounts, any least room, any engine. -/
set_option linter.unusedVariables false
set_option linter.unusedSimpArgs false
namespace Go.Proofs.Ytfogkbmbmaganaa
open Go.RowKit
def deepX (N : Net) (f : List Int) (least : Int) (v : Value) (H' : Heap) : Prop :=
  (errZ N f least = 0 ∧ ∃ d : Int, v = two (d, 0) ∧ H' = []) ∨ (errZ N f least ≠ 0 ∧ ∃ d : Int, v = two (d, errZ N f least) ∧ H' = [])
theorem deepX_fn (N : Net) (hN : N.Fits) (A : Option Addr) (c b o : Nat) (hA : N.arcs ≠ [] → A = some ⟨b, o, none⟩) (f : List Int) (F : Option Addr) (cf bf of : Nat) (hF : f ≠ [] → F = some ⟨bf, of, none⟩) (hf : ∀ x ∈ f, inB x) (hfl : f.length * 8 ≤ 140737488351232) (least : Int) :
    Fn 10 [netV N A c, .slice F f.length cf, .int .i64 least] [] [.seg b o (arcs N.arcs), .seg bf of (ints f)] (deepX N f least) := by
  by_cases hz : checkZ N = 0
  · have hR := checkZ_zero hz
    refine (deep_fn N hN hR A c b o hA f F cf bf of hF hf hfl least).mono ?_
    rintro v H' (⟨h1, h2, lv, hlv, rfl, rfl⟩ | ⟨h1, rfl, rfl⟩ | ⟨h1, h2, rfl, rfl⟩)
    · exact .inl ⟨errZ_zero.2 ⟨hR, h1, h2⟩, _, rfl, rfl⟩
    · obtain ⟨e1, e2⟩ := errZ_flow (least := least) hR h1
      exact .inr ⟨by rw [e1]; exact e2, _, by rw [e1], rfl⟩
    · have e1 := errZ_least (N := N) (f := f) (wrong_zero.2 ⟨hR, h1⟩) h2
      exact .inr ⟨by rw [e1]; decide, _, by rw [e1], rfl⟩
  · refine (deepE_fn N hN hz A c b o hA f F cf bf of hF hf hfl least).mono ?_
    rintro v H' ⟨rfl, rfl⟩
    have e1 := errZ_check (f := f) (least := least) hz
    exact .inr ⟨by rw [e1]; exact hz, _, by rw [e1], rfl⟩
theorem engineX_fn (sg : Int) (h1 : sg ≠ 112) (h2 : sg ≠ 116) : Fn 11 [.int .u8 sg] [] [] fun v H' => v = .nilIface ∧ H' = [] := by
  refine Fn_of Try.func11 rfl rfl fun w0 => ?_
  (repeat' (first | refine J_seq ?_ | refine J_skip ?_ | refine J_yes rfl ?_ | refine J_no rfl ?_))
  refine J_region ?_
  refine JL_all [] rfl ?_
  (repeat' (first | refine J_seq ?_ | refine J_skip ?_ | refine J_yes rfl ?_ | refine J_no rfl ?_))
  refine J_region ?_
  refine JL_all [] rfl ?_
  (repeat' (first | refine J_seq ?_ | refine J_skip ?_ | refine J_yes rfl ?_ | refine J_no rfl ?_))
  refine J_block ?_
  (repeat' (first | refine J_seq ?_ | refine J_skip ?_ | refine J_yes rfl ?_ | refine J_no rfl ?_))
  refine J_region ?_
  refine JL_all [] rfl ?_
  refine J_dec rfl (fun h => absurd h h1) (fun _ => ?_)
  (repeat' (first | refine J_seq ?_ | refine J_skip ?_ | refine J_yes rfl ?_ | refine J_no rfl ?_))
  refine J_region ?_
  refine JL_all [] rfl ?_
  refine J_dec rfl (fun h => absurd h h2) (fun _ => ?_)
  (repeat' (first | refine J_seq ?_ | refine J_skip ?_ | refine J_yes rfl ?_ | refine J_no rfl ?_))
  (repeat' (first
    | refine JL_all [] rfl ?_
    | refine JL_splitd rfl rfl rfl rfl (fun _ => ?_) (fun _ => ?_)
    | refine JL_evO (gs := [999]) rfl ?_
    | refine JL_split rfl rfl rfl rfl (fun _ => ?_) (fun _ => ?_)
    | refine J_seq ?_
    | refine J_region ?_
    | refine J_dec rfl (fun _ => ?_) (fun _ => ?_)
    | refine J_yes rfl ?_
    | refine J_no rfl ?_
    | refine J_cond rfl (fun _ => ?_) (fun _ => ?_)
    | refine J_skip ?_
    | refine J_ret ?_))
  exact ⟨_, rfl, rfl, rfl⟩
def fromX (N : Net) (f : List Int) (least sg : Int) (v : Value) (H' : Heap) : Prop :=
  (errZ N f least = 0 ∧ (sg = 112 ∨ sg = 116) ∧ ∃ (f' : List Int) (p k s : Nat) (A' : Option Addr) (c' : Nat), Dn N least f p k f' ∧ (sg = 112 → s = 0) ∧ v = .tuple #[runV A' f'.length c' p k s, .int .i64 0] ∧ H' = [.own (.slice A' f'.length c') 2 1 f'.length (ints f')]) ∨
  (errZ N f least = 0 ∧ sg ≠ 112 ∧ sg ≠ 116 ∧ v = .tuple #[runV none 0 0 0 0 0, .int .i64 1] ∧ H' = []) ∨
  (errZ N f least ≠ 0 ∧ v = .tuple #[runV none 0 0 0 0 0, .int .i64 (errZ N f least)] ∧ H' = [])
set_option maxHeartbeats 1000000 in
theorem fromY_fn (N : Net) (hN : N.Fits) (A : Option Addr) (c b o : Nat) (hA : N.arcs ≠ [] → A = some ⟨b, o, none⟩) (f : List Int) (F : Option Addr) (cf bf of : Nat) (hF : f ≠ [] → F = some ⟨bf, of, none⟩) (hf : ∀ x ∈ f, inB x) (hfl : f.length * 8 ≤ 140737488351232) (least sg : Int) (hX : errZ N f least ≠ 0 ∨ sg ≠ 112 ∧ sg ≠ 116) :
    Fn 5 [netV N A c, .slice F f.length cf, .int .i64 least, .int .u8 sg] [] [.seg b o (arcs N.arcs), .seg bf of (ints f)] (fromX N f least sg) := by
  refine Fn_ofC Try.func5 rfl rfl fun w0 => ?_
  (repeat' (first | refine J_seq ?_ | refine J_skip ?_ | refine J_yes rfl ?_ | refine J_no rfl ?_))
  refine J_region ?_
  refine JL_box (cs := netC N A c) rfl rfl rfl (fun _ => rfl) fun p4 => ?_
  refine JL_alloc rfl rfl rfl (fun _ => rfl) fun p8 => ?_
  refine JL_all [] rfl ?_
  (repeat' (first | refine J_seq ?_ | refine J_skip ?_ | refine J_yes rfl ?_ | refine J_no rfl ?_))
  refine J_region ?_
  refine JL_val [] (v := netV N A c) (OpV_blk 1 rfl rfl rfl rfl) rfl ?_
  refine JL_run [] rfl ?_
  refine JL_callR [] (deepX_fn N hN A c b o hA f F cf bf of hF hf hfl least) rfl rfl rfl rfl (by kernel_rfl) ⟨⟨2, _, by simp, rfl, shows_seg _ _ _, seen_seg⟩, ⟨3, _, by simp, rfl, shows_seg _ _ _, seen_seg⟩, trivial⟩ (fun _ => rfl) ?_
  rintro v H' (⟨he0, d, rfl, rfl⟩ | ⟨he, d, rfl, rfl⟩)
  · refine ⟨rfl, ?_⟩
    refine JL_all [] rfl ?_
    (repeat' (first | refine J_seq ?_ | refine J_skip ?_ | refine J_yes rfl ?_ | refine J_no rfl ?_))
    refine J_region ?_
    refine JL_all [] rfl ?_
    refine J_dec rfl (fun h => absurd rfl h) (fun _ => J_skip ?_)
    have hs : sg ≠ 112 ∧ sg ≠ 116 := hX.resolve_left (fun h => h he0)
    (repeat' (first | refine J_seq ?_ | refine J_skip ?_ | refine J_yes rfl ?_ | refine J_no rfl ?_))
    refine J_region ?_
    refine JL_run [] rfl ?_
    refine JL_callR [] (engineX_fn sg hs.1 hs.2) rfl rfl rfl rfl (by kernel_rfl) trivial (fun _ => rfl) ?_
    rintro v H' ⟨rfl, rfl⟩
    refine ⟨rfl, ?_⟩
    refine JL_all [] rfl ?_
    (repeat' (first | refine J_seq ?_ | refine J_skip ?_ | refine J_yes rfl ?_ | refine J_no rfl ?_))
    refine J_region ?_
    refine JL_all [] rfl ?_
    (repeat' (first | refine J_seq ?_ | refine J_skip ?_ | refine J_yes rfl ?_ | refine J_no rfl ?_))
    (repeat' (first | refine J_seq ?_ | refine J_skip ?_ | refine J_yes rfl ?_ | refine J_no rfl ?_))
    refine J_region ?_
    refine JL_val [] (v := runV none 0 0 0 0 0) (OpV_build rfl rfl rfl rfl rfl rfl) rfl ?_
    refine JL_run [] rfl ?_
    refine JL_store 0 rfl rfl rfl rfl rfl [] rfl ?_
    refine JL_all [] rfl ?_
    (repeat' (first | refine J_seq ?_ | refine J_skip ?_ | refine J_yes rfl ?_ | refine J_no rfl ?_))
    refine J_ret ?_
    exact ⟨[_, _], [], _, ⟨⟨p8, 0, _, _, rfl, rfl, rfl⟩, rfl, trivial⟩, by decide, rfl, .inr (.inl ⟨he0, hs.1, hs.2, rfl, rfl⟩)⟩
  · refine ⟨rfl, ?_⟩
    refine JL_all [] rfl ?_
    (repeat' (first | refine J_seq ?_ | refine J_skip ?_ | refine J_yes rfl ?_ | refine J_no rfl ?_))
    refine J_region ?_
    refine JL_all [] rfl ?_
    refine J_dec rfl (fun _ => ?_) (fun h => absurd he h)
    (repeat' (first | refine J_seq ?_ | refine J_skip ?_ | refine J_yes rfl ?_ | refine J_no rfl ?_))
    refine J_region ?_
    refine JL_val [] (v := runV none 0 0 0 0 0) (OpV_build rfl rfl rfl rfl rfl rfl) rfl ?_
    refine JL_run [] rfl ?_
    refine JL_store 0 rfl rfl rfl rfl rfl [] rfl ?_
    refine JL_all [] rfl ?_
    (repeat' (first | refine J_seq ?_ | refine J_skip ?_ | refine J_yes rfl ?_ | refine J_no rfl ?_))
    refine J_ret ?_
    exact ⟨[_, _], [], _, ⟨⟨p8, 0, _, _, rfl, rfl, rfl⟩, rfl, trivial⟩, by decide, rfl, .inr (.inr ⟨he, rfl, rfl⟩)⟩
theorem fromX_fn (N : Net) (hN : N.Fits) (A : Option Addr) (c b o : Nat) (hA : N.arcs ≠ [] → A = some ⟨b, o, none⟩) (f : List Int) (F : Option Addr) (cf bf of : Nat) (hF : f ≠ [] → F = some ⟨bf, of, none⟩) (hf : ∀ x ∈ f, inB x) (hfl : f.length * 8 ≤ 140737488351232) (least : Int) (hlb : inB least) (sg : Int) :
    Fn 5 [netV N A c, .slice F f.length cf, .int .i64 least, .int .u8 sg] [] [.seg b o (arcs N.arcs), .seg bf of (ints f)] (fromX N f least sg) := by
  by_cases hX : errZ N f least ≠ 0 ∨ sg ≠ 112 ∧ sg ≠ 116
  · exact fromY_fn N hN A c b o hA f F cf bf of hF hf hfl least sg hX
  · have he : errZ N f least = 0 := Classical.byContradiction fun h => hX (.inl h)
    have hs : sg = 112 ∨ sg = 116 := by omega
    obtain ⟨hR, hW, hle⟩ := errZ_zero.1 he
    refine (fromG_fn N hN hR A c b o hA f hW F cf bf of hF least hle hlb sg hs).mono ?_
    rintro v H' ⟨f', p, k, s, A', c', hd, _, _, h1, _, _, rfl, rfl⟩
    exact .inl ⟨he, hs, f', p, k, s, A', c', hd, h1, rfl, rfl⟩
set_option maxHeartbeats 1000000 in
theorem maxX_fn (N : Net) (hN : N.Fits) (hl2 : N.arcs.length ≤ 2000) (A : Option Addr) (c b o : Nat) (hA : N.arcs ≠ [] → A = some ⟨b, o, none⟩) (sg : Int) :
    Fn 7 [netV N A c, .int .u8 sg] [] [.seg b o (arcs N.arcs)] (fromX N (List.replicate N.arcs.length 0) 1 sg) := by
  refine Fn_ofC Try.func7 rfl rfl fun w0 => ?_
  (repeat' (first | refine J_seq ?_ | refine J_skip ?_ | refine J_yes rfl ?_ | refine J_no rfl ?_))
  refine J_region ?_
  refine JL_box (cs := netC N A c) rfl rfl rfl (fun _ => rfl) fun p2 => ?_
  refine JL_alloc rfl rfl rfl (fun _ => rfl) fun p4 => ?_
  refine JL_all [] rfl ?_
  (repeat' (first | refine J_seq ?_ | refine J_skip ?_ | refine J_yes rfl ?_ | refine J_no rfl ?_))
  refine J_walk 9 [(0, true), (1, true), (2, true), (3, true), (5, true), (4, false), (6, false), (7, true), (8, true)] [1, 2] (by kernel_rfl) (by decide) rfl ?_
  refine JW_still [] rfl (OpV_blk (v := netV N A c) 0 rfl rfl rfl rfl) rfl ?_
  refine JW_run [] rfl ?_
  (first | refine JW_still [] rfl (OpV_blk 0 rfl rfl rfl rfl) rfl ?_ | refine JW_still [] rfl (OpV_blk 1 rfl rfl rfl rfl) rfl ?_ | refine JW_still [] rfl (OpV_blk 2 rfl rfl rfl rfl) rfl ?_ | refine JW_still [] rfl (OpV_blk 3 rfl rfl rfl rfl) rfl ?_ | refine JW_still [] rfl (OpV_blk 4 rfl rfl rfl rfl) rfl ?_ | refine JW_still [] rfl (OpV_blk 5 rfl rfl rfl rfl) rfl ?_)
  refine JW_run [] rfl ?_
  refine JW_eff rfl ?_
  refine JL_make (n := N.arcs.length) (c := N.arcs.length) rfl rfl rfl rfl rfl rfl (by omega) (by omega) (by omega) (fun _ => rfl) fun g => ?_
  refine JL_nil ⟨⟨[2, 3], by decide, rfl⟩, ?_⟩
  rw [show made [Value.int .i64 0] (N.arcs.length * 1) = ints (List.replicate N.arcs.length 0) by rw [made_one, Nat.mul_one]; simp [ints]]
  refine JW_eff rfl ?_
  refine JL_callR [] (fromX_fn N hN A c b o hA (List.replicate N.arcs.length 0) (some ⟨g, 0, none⟩) N.arcs.length g 0 (fun _ => rfl) (fun x hx => by rw [List.eq_of_mem_replicate hx]; decide) (by rw [List.length_replicate]; omega) 1 (by decide) sg) rfl rfl rfl (by rw [List.length_replicate]; rfl) (by kernel_rfl) ⟨⟨3, _, by simp, rfl, shows_seg _ _ _, seen_seg⟩, ⟨0, _, by simp, rfl, shows_own, seen_ownS (fun _ => rfl)⟩, trivial⟩ (fun _ => rfl) ?_
  rintro v H' (⟨he0, hsg, f', p, k, s, A', c', hd, h0, rfl, rfl⟩ | ⟨he0, h1, h2, rfl, rfl⟩ | ⟨he, rfl, rfl⟩)
  · refine ⟨rfl, JL_nil ⟨⟨[3, 4], by decide, rfl⟩, ?_⟩⟩
    refine JW_all [] rfl ?_
    refine JL_store 2 rfl rfl rfl rfl rfl [] rfl ?_
    refine JL_all [] rfl ?_
    refine J_ret ?_
    exact ⟨[_, _], [0], _, ⟨⟨p4, 2, _, _, rfl, rfl, rfl⟩, rfl, trivial⟩, by decide, rfl, .inl ⟨he0, hsg, f', p, k, s, A', c', hd, h0, rfl, rfl⟩⟩
  · refine ⟨rfl, JL_nil ⟨⟨[2, 3], by decide, rfl⟩, ?_⟩⟩
    refine JW_all [] rfl ?_
    refine JL_store 1 rfl rfl rfl rfl rfl [] rfl ?_
    refine JL_all [] rfl ?_
    refine J_ret ?_
    exact ⟨[_, _], [], _, ⟨⟨p4, 1, _, _, rfl, rfl, rfl⟩, rfl, trivial⟩, by decide, rfl, .inr (.inl ⟨he0, h1, h2, rfl, rfl⟩)⟩
  · refine ⟨rfl, JL_nil ⟨⟨[2, 3], by decide, rfl⟩, ?_⟩⟩
    refine JW_all [] rfl ?_
    refine JL_store 1 rfl rfl rfl rfl rfl [] rfl ?_
    refine JL_all [] rfl ?_
    refine J_ret ?_
    exact ⟨[_, _], [], _, ⟨⟨p4, 1, _, _, rfl, rfl, rfl⟩, rfl, trivial⟩, by decide, rfl, .inr (.inr ⟨he, rfl, rfl⟩)⟩
end Go.Proofs.Ytfogkbmbmaganaa
