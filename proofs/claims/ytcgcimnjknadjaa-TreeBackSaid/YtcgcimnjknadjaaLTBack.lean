
/- TreeBack: blocked again and again by trees, it comes to an end at the greatest value. -/
import Derived.Test.YtcgcimnjknadjaaSh11N
import Derived.Test.YtcgcimnjknadjaaSame5
import Derived.Test.YtcgcimnjknadjaaRoutedN11
import Derived.Test.YtcgcimnjknadjaaRiseP
set_option linter.unusedVariables false
set_option linter.unusedSimpArgs false
namespace Go.Proofs.Ytcgcimnjknadjaa
open Go.RowKit
/-- A row of the call's own, read alone from here on. -/
theorem Fit.read {X : Cx} {H : Heap} {A : Option Addr} {n c e g : Nat} {xs : List Value} (k : Nat) (hk : H[k]? = some (.own (.slice A n c) e 1 n xs)) (hA : xs ≠ [] → A = some ⟨g, 0, none⟩) : Fit X H (H.set k (.seg g 0 xs)) := by
  intro w hH
  have hc := hH.holds _ (List.mem_of_getElem? hk)
  refine hH.chunk k hk (fun i v hi => shows_ownS hA w hc i v hi) (fun _ h => by cases h) (fun b h => ?_)
  by_cases hx : xs = []
  · subst hx; simp [Chunk.at_] at h
  · rw [hA hx]
    simp only [Chunk.at_, if_neg hx] at h
    exact h
/-- A walk is led only where the sink is come to. -/
theorem BlkOf.deep {N : Net} (hR : N.Right) {least : Int} {f f' : List Int} {ws : List (List Nat × Int)} (h : BlkOf N least f ws f') (hne : ws.length ≠ 0) : ∃ lv, IsLev N (roomL (N.arcs.zip f)) least lv ∧ 0 ≤ lvZ lv N.snk.toNat := by
  obtain ⟨lv, h1, h2, h3⟩ := h
  refine ⟨lv, h1, ?_⟩
  have hG := graded_leads h1
  clear h2
  generalize roomL (N.arcs.zip f') = rm' at h3
  cases h3 with
  | stop _ => exact absurd rfl hne
  | walk k1 _ =>
    obtain ⟨g1, g2, _⟩ := k1.keeps hG PI.start
    have h4 := (Tr_lv hG g1.on g1.mem).1
    rw [g2 rfl] at h4
    have := h1.src
    omega
structure BkS where
  t : Nat
  f : List Int
  F : Option Addr
  cf : Nat
  bf : Nat
  of : Nat
def lastR (N : Net) (v : Value) (H' : Heap) : Prop := ∃ (f lv : List Int), IsFlow N f ∧ IsLev N (roomL (N.arcs.zip f)) 1 lv ∧ lvZ lv N.snk.toNat < 0 ∧ v = .tuple #[.int .i64 (exZ (N.arcs.zip f) N.snk), .bool true] ∧ H' = []
set_option maxHeartbeats 2000000 in
theorem lastB_fn (N : Net) (hR : N.Right) (A' : Option Addr) (c' b o : Nat) (hA : N.arcs ≠ [] → A' = some ⟨b, o, none⟩) (f : List Int) (hf : IsFlow N f) (F : Option Addr) (cf bf of : Nat) (hF : f ≠ [] → F = some ⟨bf, of, none⟩) :
    Fn 22 [netV N A' c', .slice F f.length cf] [] [.seg b o (arcs N.arcs), .seg bf of (ints f)] (lastR N) := by
  have hN := hR.fits2
  have hnn := hR.nodes
  have hsr := hR.src
  have hsk := hR.snk
  have hdf := hR.diff
  have hl2 := hR.len
  refine Fn_of Try.func22 rfl rfl fun w0 => ?_
  (repeat' (first | refine J_seq ?_ | refine J_skip ?_ | refine J_yes rfl ?_ | refine J_no rfl ?_))
  refine J_region ?_
  refine JL_box (cs := netC N A' c') rfl rfl rfl (fun _ => rfl) fun p => ?_
  refine JL_all [] rfl ?_
  (repeat' (first | refine J_seq ?_ | refine J_skip ?_ | refine J_yes rfl ?_ | refine J_no rfl ?_))
  refine J_region ?_
  refine JL_all [] rfl ?_
  (repeat' (first | refine J_seq ?_ | refine J_skip ?_ | refine J_yes rfl ?_ | refine J_no rfl ?_))
  refine J_block ?_
  refine J_loopF (σ := BkS) (fun t => [(6, .int .i64 (t.t : Int)), (1, .slice t.F t.f.length t.cf), (2, .pointer (some ⟨p, 0, none⟩))]) (fun t => [blk p 26 (netC N A' c'), .seg b o (arcs N.arcs), .seg t.bf t.of (ints t.f)])
    (fun t => (t.t : Int) + 1 ≤ N.nodes ∧ IsFlow N t.f ∧ (t.f ≠ [] → t.F = some ⟨t.bf, t.of, none⟩) ∧ ∀ lv, IsLev N (roomL (N.arcs.zip t.f)) 1 lv → 0 ≤ lvZ lv N.snk.toNat → (t.t : Int) + 1 ≤ lvZ lv N.snk.toNat) (fun t => N.nodes.toNat - t.t)
    ⟨0, f, F, cf, bf, of⟩ ⟨rfl, rfl, rfl, trivial⟩ Fit.refl ⟨by show ((0 : Nat) : Int) + 1 ≤ _; omega, hf, hF, fun lv h1 h2 => ?_⟩ ?_
  · show ((0 : Nat) : Int) + 1 ≤ _
    rcases Int.lt_or_eq_of_le h2 with h | h
    · omega
    · have := h1.zero _ h.symm
      omega
  rintro ⟨t, f1, F1, cf1, bf1, of1⟩ ⟨ht, hf1, hF1, hlv1⟩
  simp only at ht hf1 hF1 hlv1 ⊢
  have hf1in := IsFlow.inB hR hf1.toRanged
  have hf1l := hf1.len
  (repeat' (first | refine J_seq ?_ | refine J_skip ?_ | refine J_yes rfl ?_ | refine J_no rfl ?_))
  refine J_region ?_
  (repeat' (first
    | refine JL_evO (gs := [999]) rfl ?_
    | refine JL_val [999] (OpV_blk 0 rfl rfl rfl rfl) rfl ?_))
  refine JL_nil ?_
  (repeat' (first | refine J_seq ?_ | refine J_skip ?_ | refine J_yes rfl ?_ | refine J_no rfl ?_))
  refine J_dec rfl (fun _ => J_skip ?_) (fun h => absurd (by omega) h)
  refine J_seq (J_block ?_)
  (repeat' (first | refine J_seq ?_ | refine J_skip ?_ | refine J_yes rfl ?_ | refine J_no rfl ?_))
  refine J_region ?_
  refine JL_val [] (v := netV N A' c') (OpV_blk 0 rfl rfl rfl rfl) rfl ?_
  refine JL_run [] rfl ?_
  refine JL_callR [] (tblock_fn N hN hR A' c' b o hA f1 F1 cf1 bf1 of1 hF1 hf1in (by omega) 1 (by decide)) rfl rfl rfl rfl (by kernel_rfl) ⟨⟨1, _, by simp, rfl, shows_seg _ _ _, seen_seg⟩, ⟨2, _, by simp, rfl, shows_seg _ _ _, seen_seg⟩, trivial⟩ (fun _ => rfl) ?_
  rintro v H' (⟨_, _, f2, ws2, k2, Ao, co, hB, _, _, hw2, rfl, rfl⟩ | ⟨h, _, _⟩ | ⟨_, h, _, _⟩)
  case inr.inl => exact absurd hf1 h
  case inr.inr => exact absurd h (by decide)
  obtain ⟨hf2, _, _, hg⟩ := hB.gain hR (by decide) hf1
  have hf2l := hf2.len
  refine ⟨rfl, ?_⟩
  refine JL_know (own_is 0 rfl) fun ⟨_, _, hAo, hlo⟩ => ?_
  obtain ⟨go, hAo⟩ := own_at hAo hlo
  have hAo' : f2 ≠ [] → Ao = some ⟨go, 0, none⟩ := fun h => hAo (by simpa [ints] using h)
  refine JL_fit (Fit.read 0 rfl hAo) ?_
  refine JL_all [] rfl ?_
  (repeat' (first | refine J_seq ?_ | refine J_skip ?_ | refine J_yes rfl ?_ | refine J_no rfl ?_))
  refine J_region ?_
  refine JL_all [] rfl ?_
  (repeat' (first | refine J_seq ?_ | refine J_skip ?_ | refine J_yes rfl ?_ | refine J_no rfl ?_))
  refine J_dec rfl (fun h => absurd rfl h) (fun _ => J_skip ?_)
  (repeat' (first | refine J_seq ?_ | refine J_skip ?_ | refine J_yes rfl ?_ | refine J_no rfl ?_))
  refine J_region ?_
  refine JL_all [] rfl ?_
  (repeat' (first | refine J_seq ?_ | refine J_skip ?_ | refine J_yes rfl ?_ | refine J_no rfl ?_))
  refine J_dec rfl (fun hz => ?_) (fun hnz => J_skip ?_)
  · have hw0 : ws2.length = 0 := by omega
    obtain rfl := hg hw0
    have TV := fvalue_fn N hN hR A' c' b o hA f2 F1 cf1 bf1 of1 hF1 hf1in (by omega)
    (repeat' (first | refine J_seq ?_ | refine J_skip ?_ | refine J_yes rfl ?_ | refine J_no rfl ?_))
    refine J_region ?_
    refine JL_val [] (v := netV N A' c') (OpV_blk 1 rfl rfl rfl rfl) rfl ?_
    refine JL_run [] rfl ?_
    refine JL_callR [] TV rfl rfl rfl rfl (by kernel_rfl) ⟨⟨2, _, by simp, rfl, shows_seg _ _ _, seen_seg⟩, ⟨3, _, by simp, rfl, shows_seg _ _ _, seen_seg⟩, trivial⟩ (fun _ => rfl) ?_
    rintro v H' ⟨⟨rfl, _⟩ | ⟨_, h⟩, rfl⟩
    case inr => exact absurd hf1 h
    refine ⟨rfl, ?_⟩
    refine JL_all [] rfl ?_
    (repeat' (first | refine J_seq ?_ | refine J_skip ?_ | refine J_yes rfl ?_ | refine J_no rfl ?_))
    refine J_walk 16 [(0, true), (1, true), (2, true), (3, true), (4, true), (5, true), (6, false), (7, true), (8, true), (9, true), (10, true), (11, true), (12, true), (13, true), (14, true), (15, true)] [1] (by kernel_rfl) (by decide) rfl ?_
    refine JW_evO (gs := [999]) rfl rfl ?_
    refine JW_evO (gs := [999]) rfl rfl ?_
    refine JW_evO (gs := [999]) rfl rfl ?_
    refine JW_evO (gs := [999]) rfl rfl ?_
    refine JW_set 40 (v' := .bool true) rfl (congrArg Value.bool (cdec_yes rfl)) ?_
    refine JW_evO (gs := [3]) rfl rfl ?_
    refine JW_evO (gs := [3]) rfl rfl ?_
    refine JW_eff rfl ?_
    refine JL_callR [3] (same5_fn F1 cf1 bf1 of1 f2 hF1 (by omega) Ao co go 0 f2 hAo') rfl rfl rfl rfl (by kernel_rfl) ⟨⟨3, _, by simp, rfl, shows_seg _ _ _, seen_seg⟩, ⟨0, _, by simp, rfl, shows_seg _ _ _, seen_seg⟩, trivial⟩ (fun _ => rfl) ?_
    rintro v H' ⟨rfl, rfl⟩
    refine ⟨rfl, JL_nil ⟨⟨[1], by decide, rfl⟩, ?_⟩⟩
    refine JW_evO (gs := [3]) rfl rfl ?_
    refine JW_evO (gs := [3]) rfl rfl ?_
    refine JW_set 45 (v' := .bool true) rfl (congrArg Value.bool (cdec_yes rfl)) ?_
    refine JW_evO (gs := [3, 8]) rfl rfl ?_
    refine JW_evO (gs := [3, 8]) rfl rfl ?_
    refine JW_still [3, 8] rfl (OpV_blk 0 rfl rfl rfl rfl) rfl ?_
    (repeat' (refine JW_evO (gs := [3, 8]) rfl rfl ?_))
    refine JW_nil ?_
    refine JL_nil ?_
    (repeat' (first | refine J_seq ?_ | refine J_skip ?_ | refine J_yes rfl ?_ | refine J_no rfl ?_))
    obtain ⟨lv, l1, _, _⟩ := hB
    have l4 : lvZ lv N.snk.toNat < 0 := by
      rcases Int.lt_or_le (lvZ lv N.snk.toNat) 0 with h | h
      · exact h
      · exact absurd (List.length_eq_zero_iff.1 hw0) ((BlkOf.keeps hR (by decide) hf1 ⟨lv, l1, by assumption, by assumption⟩ l1).2.2 h)
    exact J_drop [] (by decide) rfl (J_ret ⟨_, rfl, f2, lv, hf1, l1, l4, by rw [cdec_yes (show (t : Int) < N.nodes by omega)]; rfl, rfl⟩)
  · obtain ⟨lv, l1, l2⟩ := hB.deep hR (by omega)
    have l3 := hlv1 lv l1 l2
    have l4 := l1.rng N.snk.toNat
    (repeat' (first | refine J_seq ?_ | refine J_skip ?_ | refine J_yes rfl ?_ | refine J_no rfl ?_))
    refine J_region ?_
    refine JL_all [] rfl ?_
    (repeat' (first | refine J_seq ?_ | refine J_skip ?_ | refine J_yes rfl ?_ | refine J_no rfl ?_))
    refine J_region ?_
    refine JL_all [] rfl ?_
    refine ⟨⟨t + 1, f2, Ao, co, go, 0⟩, ⟨?_, ?_, rfl, trivial⟩, ?_, ⟨by show ((t + 1 : Nat) : Int) + 1 ≤ N.nodes; omega, hf2, hAo', fun lv' j1 j2 => ?_⟩, by show N.nodes.toNat - (t + 1) < N.nodes.toNat - t; omega⟩
    · show some (Value.int .i64 (IntKind.i64.wrap ((t : Int) + 1))) = _
      rw [w64 (by omega)]; rfl
    · rw [hf2l, ← hf1l]; rfl
    · exact Fit.re (A := [.seg go 0 (ints f2), blk p 26 (netC N A' c'), .seg b o (arcs N.arcs), .seg bf1 of1 (ints f1)]) (R := []) [1, 2, 0] rfl (by decide)
    · have := hB.rise hR (by decide) hf1 l1 j1 j2
      show ((t + 1 : Nat) : Int) + 1 ≤ _
      omega
set_option maxHeartbeats 1000000 in
theorem treeBack_fn (nodes : Int) (hn : inB nodes) (ends : Int) (he : inB ends) (A : Option Addr) (c b o : Nat) (l : List Arc) (hA : l ≠ [] → A = some ⟨b, o, none⟩) (hl : ∀ x ∈ l, inB x.fr ∧ inB x.to ∧ inB x.cap) (hs : l.length * 24 ≤ 140737488351232)
    (K : Option Addr) (ck bk ok : Nat) (ks : List Int) (hK : ks ≠ [] → K = some ⟨bk, ok, none⟩) (hks : ∀ x ∈ ks, inB x) (hkz : ks.length * 8 ≤ 140737488351232) :
    Fn 5 [.int .i64 nodes, .int .i64 ends, .slice A l.length c, .slice K ks.length ck] [] [.seg b o (arcs l), .seg bk ok (ints ks)] fun v _ => v = .bool true := by
  refine Fn_of Try.func5 rfl rfl fun w0 => ?_
  (repeat' (first | refine J_seq ?_ | refine J_skip ?_ | refine J_yes rfl ?_ | refine J_no rfl ?_))
  refine J_region ?_
  refine JL_all [] rfl ?_
  (repeat' (first | refine J_seq ?_ | refine J_skip ?_ | refine J_yes rfl ?_ | refine J_no rfl ?_))
  refine J_region ?_
  refine JL_callR [] (shown11_fn) rfl rfl rfl rfl (by kernel_rfl) trivial (fun _ => rfl) ?_
  rintro v H' ⟨rfl, rfl⟩
  refine ⟨rfl, ?_⟩
  refine JL_all [] rfl ?_
  (repeat' (first | refine J_seq ?_ | refine J_skip ?_ | refine J_yes rfl ?_ | refine J_no rfl ?_))
  refine J_region ?_
  refine JL_all [] rfl ?_
  (repeat' (first | refine J_seq ?_ | refine J_skip ?_ | refine J_yes rfl ?_ | refine J_no rfl ?_))
  refine J_region ?_
  refine JL_run [] rfl ?_
  refine JL_callR [] (made11_fn nodes ends hn he A c b o l hA hl (by omega)) rfl rfl rfl rfl (by kernel_rfl) ⟨⟨0, _, by simp, rfl, shows_seg _ _ _, seen_seg⟩, trivial⟩ (fun _ => rfl) ?_
  rintro v H' ⟨N, A', c', hR, hn9, h24, _, rfl, rfl⟩
  refine ⟨rfl, ?_⟩
  refine JL_alloc rfl rfl rfl (fun _ => rfl) fun b12 => ?_
  refine JL_store 0 rfl rfl rfl rfl rfl [] rfl ?_
  refine JL_know (own_is 1 rfl) fun ⟨_, _, hA1, hl1⟩ => ?_
  obtain ⟨g1, hA1⟩ := own_at hA1 hl1
  have hA1' : N.arcs ≠ [] → A' = some ⟨g1, 0, none⟩ := fun h => hA1 (fun h0 => h (List.length_eq_zero_iff.1 (by have := arcs_length N.arcs; rw [h0] at this; simp at this; omega)))
  refine JL_nil ?_
  (repeat' (first | refine J_seq ?_ | refine J_skip ?_ | refine J_yes rfl ?_ | refine J_no rfl ?_))
  refine J_walk 10 [(0, true), (1, true), (2, true), (3, false), (4, false), (5, true), (6, true), (7, true), (8, true), (9, true)] [0] (by kernel_rfl) (by decide) rfl ?_
  refine JW_still [] rfl (OpV_blk (v := netV N A' c') 0 rfl rfl rfl rfl) rfl ?_
  refine JW_still [] rfl (OpV_blk (v := netV N A' c') 0 rfl rfl rfl rfl) rfl ?_
  refine JW_evO (gs := [999]) rfl rfl ?_
  refine JW_eff rfl ?_
  refine JL_callR [] (routed_fn N hR A' c' g1 0 hA1' K ck bk ok ks hK hks hkz) rfl rfl rfl rfl (by kernel_rfl) ⟨⟨1, _, by simp, rfl, shows_ownS hA1, seen_ownS hA1⟩, ⟨3, _, by simp, rfl, shows_seg _ _ _, seen_seg⟩, trivial⟩ (fun _ => rfl) ?_
  rintro v H' ⟨f, gf, rfl, rfl, hf⟩
  refine ⟨rfl, JL_nil ⟨⟨[1], by decide, rfl⟩, ?_⟩⟩
  have hfl := hf.len
  have TL := lastB_fn N hR A' c' g1 0 hA1' f hf (some ⟨gf, 0, none⟩) N.arcs.length gf 0 (fun _ => rfl)
  rw [hfl] at TL
  refine JW_eff rfl ?_
  refine JL_callR [] TL rfl rfl rfl rfl (by kernel_rfl) ⟨⟨2, _, by simp, rfl, shows_ownS hA1, seen_ownS hA1⟩, ⟨0, _, by simp, rfl, shows_own, .inr rfl⟩, trivial⟩ (fun _ => rfl) ?_
  rintro v H' ⟨f1, lv1, hf1, hv1, hs1, rfl, rfl⟩
  refine ⟨rfl, JL_nil ⟨⟨[1], by decide, rfl⟩, ?_⟩⟩
  (repeat' (refine JW_evO (gs := [999]) rfl rfl ?_))
  refine JW_nil ?_
  refine JL_nil ?_
  (repeat' (first | refine J_seq ?_ | refine J_skip ?_ | refine J_yes rfl ?_ | refine J_no rfl ?_))
  refine J_walk 11 [(0, true), (1, true), (2, true), (3, true), (4, false), (5, false), (6, true), (7, true), (8, true), (9, true), (10, true)] [1] (by kernel_rfl) (by decide) rfl ?_
  refine JW_still [] rfl (OpV_blk (v := netV N A' c') 0 rfl rfl rfl rfl) rfl ?_
  refine JW_evO (gs := [999]) rfl rfl ?_
  refine JW_still [] rfl (OpV_blk (v := .slice A' N.arcs.length c') 0 rfl rfl rfl rfl) rfl ?_
  refine JW_evO (gs := [999]) rfl rfl ?_
  refine JW_eff rfl ?_
  refine JL_make (n := N.arcs.length) (c := N.arcs.length) rfl rfl rfl rfl rfl rfl (by omega) (by omega) (by omega) (fun _ => rfl) fun gz => ?_
  rw [show made [Value.int .i64 0] (N.arcs.length * 1) = ints (List.replicate N.arcs.length 0) by rw [made_one, Nat.mul_one]; simp [ints]]
  refine JL_nil ⟨⟨[2], by decide, rfl⟩, ?_⟩
  have TZ := lastB_fn N hR A' c' g1 0 hA1' (List.replicate N.arcs.length 0) (zeroFlow N hR) (some ⟨gz, 0, none⟩) N.arcs.length gz 0 (fun _ => rfl)
  rw [List.length_replicate] at TZ
  refine JW_eff rfl ?_
  refine JL_callR [] TZ rfl rfl rfl rfl (by kernel_rfl) ⟨⟨3, _, by simp, rfl, shows_ownS hA1, seen_ownS hA1⟩, ⟨0, _, by simp, rfl, shows_own, .inr rfl⟩, trivial⟩ (fun _ => rfl) ?_
  rintro v H' ⟨f2, lv2, hf2, hv2, hs2, rfl, rfl⟩
  refine ⟨rfl, JL_nil ⟨⟨[2], by decide, rfl⟩, ?_⟩⟩
  (repeat' (refine JW_evO (gs := [999]) rfl rfl ?_))
  refine JW_nil ?_
  refine JL_nil ?_
  have e1 := great hR hf1 hf2 hv1 hs1
  have e2 := great hR hf2 hf1 hv2 hs2
  (repeat' (first | refine J_seq ?_ | refine J_skip ?_ | refine J_yes rfl ?_ | refine J_no rfl ?_))
  refine J_region ?_
  refine JL_all [1, 4] rfl ?_
  exact J_ret ⟨_, rfl, congrArg Value.bool (cdec_yes (by omega))⟩
end Go.Proofs.Ytcgcimnjknadjaa
