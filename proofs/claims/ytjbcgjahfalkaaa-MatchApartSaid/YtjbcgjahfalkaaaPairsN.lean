
/- The pairs of a graph, by walks, and whether edges are a matching. -/
import Derived.Test.YtjbcgjahfalkaaaMatchN
set_option linter.unusedVariables false
set_option linter.unusedSimpArgs false
namespace Go.Proofs.Ytjbcgjahfalkaaa
open Go.RowKit
section
variable {X : Cx} {E : Env} {H : Heap}
theorem OpV_part {o : Oper} {t e n c i j sz' by' : Nat} {x lo hi : Operand} {A : Option Addr} {z : Option Value} {et : TI} {k k' : IntKind} (ho : o.op = .slice t x (some lo) (some hi) none) (hx : val E x = some (.slice A n c)) (hlo : val E lo = some (.int k (i : Int))) (hhi : val E hi = some (.int k' (j : Int)))
    (ht : tab t = some ⟨.slice e, sz', by', z⟩) (he : tab e = some et) (hij : i ≤ j) (hj : j ≤ c) : OpV X o E H (.slice (cutA A c i et.size) (j - i) (c - i)) := by
  intro a w hA hH
  have h1 := und_elem ht
  have h2 := run_slice_lh (P := Try.prog) (w := w) t A n c h1 k k' (i : Int) (j : Int) (by omega) (by omega) (by omega)
  rw [und_elem' ht] at h2
  simp [execOp, ho, hA.val hx, hA.val hlo, hA.val hhi, run_sliceAt_slice w t _ _ _ _ h1, h2, sizeOf_tab he, sliced, cutA]
end
def pairsL (f : List Int) (nl k : Nat) : List Int := ((List.range k).filter fun (i : Nat) => decide (0 < f.getD (nl + i) 0)).map fun (i : Nat) => (i : Int)
theorem pairsL_succ (f : List Int) (nl k : Nat) : pairsL f nl (k + 1) = pairsL f nl k ++ (if 0 < f.getD (nl + k) 0 then [(k : Int)] else []) := by
  unfold pairsL
  rw [List.range_succ, List.filter_append, List.map_append]
  congr 1
  by_cases h : 0 < f.getD (nl + k) 0
  · rw [if_pos h, List.filter_cons, if_pos (decide_eq_true h)]; rfl
  · rw [if_neg h, List.filter_cons, if_neg (by simpa using h)]; rfl
theorem pairsL_length (f : List Int) (nl k : Nat) : (pairsL f nl k).length ≤ k := by
  unfold pairsL
  rw [List.length_map]
  exact Nat.le_trans (List.length_filter_le _ _) (by simp)
def MaxFlow (N : Net) (f : List Int) : Prop := IsFlow N f ∧ ¬ Rch N (roomL (N.arcs.zip f)) 1 N.snk
set_option maxHeartbeats 1000000 in
theorem pairs_fn (g : Gr) (hg : g.Right) (A : Option Addr) (c b o : Nat) (hA : g.edges ≠ [] → A = some ⟨b, o, none⟩) (nl : Nat) (hnl : g.left = nl) : Fn 40 [grV g A c, .int .u8 112] [] [.seg b o (edgs g.edges)] fun v H' => ∃ (f : List Int) (A' : Option Addr) (c' : Nat), MaxFlow (gnet g) f ∧
    v = .tuple #[.slice A' (pairsL f nl g.edges.length).length c', .int .i64 0] ∧ H' = [.own (.slice A' (pairsL f nl g.edges.length).length c') 3 1 (pairsL f nl g.edges.length).length (ints (pairsL f nl g.edges.length))] := by
  have h1 := hg.left
  have h2 := hg.right
  have h3 := hg.len
  have hR := gnet_right hg
  have hNl := gnet_len g
  refine Fn_of Try.func40 rfl rfl fun w0 => ?_
  (repeat' (first | refine J_seq ?_ | refine J_skip ?_ | refine J_yes rfl ?_ | refine J_no rfl ?_))
  refine J_region ?_
  refine JL_box (cs := grC g A c) rfl rfl rfl (fun _ => rfl) fun p2 => ?_
  refine JL_all [] rfl ?_
  (repeat' (first | refine J_seq ?_ | refine J_skip ?_ | refine J_yes rfl ?_ | refine J_no rfl ?_))
  refine J_region ?_
  refine JL_val [] (v := grV g A c) (OpV_blk 0 rfl rfl rfl rfl) rfl ?_
  refine JL_callR [] (gnet_fn g hg A c b o hA) rfl rfl rfl rfl (by kernel_rfl) ⟨⟨1, _, by simp, rfl, shows_seg _ _ _, seen_seg⟩, trivial⟩ (fun _ => rfl) ?_
  rintro v H' ⟨A1, c1, rfl, rfl⟩
  refine ⟨rfl, ?_⟩
  refine JL_know (own_is 0 rfl) fun ⟨_, _, hA1, hl1⟩ => ?_
  obtain ⟨g1, hA1⟩ := own_at hA1 hl1
  have hA1' : (gnet g).arcs ≠ [] → A1 = some ⟨g1, 0, none⟩ := fun h => hA1 (fun h0 => h (List.length_eq_zero_iff.1 (by have := arcs_length (gnet g).arcs; rw [h0] at this; simp at this; omega)))
  refine JL_run [] rfl ?_
  refine JL_alloc rfl rfl rfl (fun _ => rfl) fun p6 => ?_
  refine JL_store 0 rfl rfl rfl rfl rfl [] rfl ?_
  refine JL_all [] rfl ?_
  (repeat' (first | refine J_seq ?_ | refine J_skip ?_ | refine J_yes rfl ?_ | refine J_no rfl ?_))
  refine J_region ?_
  refine JL_all [] rfl ?_
  refine J_dec rfl (fun h => absurd rfl h) (fun _ => J_skip ?_)
  (repeat' (first | refine J_seq ?_ | refine J_skip ?_ | refine J_yes rfl ?_ | refine J_no rfl ?_))
  refine J_region ?_
  refine JL_val [] (v := netV (gnet g) A1 c1) (OpV_blk 0 rfl rfl rfl rfl) rfl ?_
  refine JL_run [] rfl ?_
  refine JL_callR [] (max_fn (gnet g) hR.fits' hR A1 c1 g1 0 hA1') rfl rfl rfl rfl (by kernel_rfl) ⟨⟨1, _, by simp, rfl, shows_ownS hA1, seen_ownS hA1⟩, trivial⟩ (fun _ => rfl) ?_
  rintro v H' ⟨f, ph, wk, Af, cf, hdn, _, rfl, rfl⟩
  obtain ⟨hf, _, _, lv, hlv, hlt⟩ := hdn.keeps hR (by decide) (zeroFlow _ hR)
  have hno := no_reach hf.toRanged hlv hlt
  have hfl := hf.len
  refine ⟨rfl, ?_⟩
  refine JL_run [] rfl ?_
  refine JL_alloc rfl rfl rfl (fun _ => rfl) fun p8 => ?_
  refine JL_store 0 rfl rfl rfl rfl rfl [] rfl ?_
  refine JL_all [] rfl ?_
  (repeat' (first | refine J_seq ?_ | refine J_skip ?_ | refine J_yes rfl ?_ | refine J_no rfl ?_))
  refine J_region ?_
  refine JL_all [] rfl ?_
  refine J_dec rfl (fun h => absurd rfl h) (fun _ => J_skip ?_)
  refine J_know (own_is 1 rfl) fun ⟨_, hcf, hAf, hlf⟩ => ?_
  obtain ⟨gf, hAf⟩ := own_at hAf hlf
  (repeat' (first | refine J_seq ?_ | refine J_skip ?_ | refine J_yes rfl ?_ | refine J_no rfl ?_))
  refine J_region ?_
  refine JL_all [] rfl ?_
  (repeat' (first | refine J_seq ?_ | refine J_skip ?_ | refine J_yes rfl ?_ | refine J_no rfl ?_))
  refine J_region ?_
  refine JL_run [] rfl ?_
  refine JL_val [] (OpV_blk (v := .slice Af f.length cf) 0 rfl rfl rfl rfl) rfl ?_
  refine JL_run [] rfl ?_
  refine JL_val [] (OpV_blk (v := .int .i64 g.left) 4 rfl rfl rfl rfl) rfl ?_
  refine JL_run [] rfl ?_
  refine JL_val [] (OpV_blk (v := .int .i64 g.left) 4 rfl rfl rfl rfl) rfl ?_
  refine JL_run [] rfl ?_
  refine JL_val [] (OpV_blk (v := .slice A g.edges.length c) 4 rfl rfl rfl rfl) rfl ?_
  refine JL_run [] rfl ?_
  refine JL_set 32 (v' := .int .i64 (nl : Int)) rfl (congrArg (Value.int .i64) hnl) ?_
  refine JL_set 38 (v' := .int .i64 ((nl + g.edges.length : Nat) : Int)) rfl (congrArg (Value.int .i64) ((w64 (by omega)).trans (by omega))) ?_
  refine JL_val [] (OpV_part rfl rfl rfl rfl rfl rfl (by omega) (by omega)) rfl ?_
  refine JL_set 39 (v' := .slice (cutA Af cf nl 1) g.edges.length (cf - nl)) rfl (by show Value.slice _ _ _ = _; congr 1; omega) ?_
  refine JL_all [] rfl ?_
  refine J_set 40 (v' := .int .i64 g.edges.length) rfl (congrArg (Value.int .i64) (by omega)) ?_
  refine J_addnil 3 1 ?_
  refine J_block ?_
  refine J_loop (σ := Nat × Option Addr × Nat) (fun s => [(41, .int .i64 s.1), (40, .int .i64 g.edges.length), (39, .slice (cutA Af cf nl 1) g.edges.length (cf - nl)), (9, .slice s.2.1 (pairsL f nl s.1).length s.2.2)])
    (fun s => [.own (.slice s.2.1 (pairsL f nl s.1).length s.2.2) 3 1 (pairsL f nl s.1).length (ints (pairsL f nl s.1)), .own (.slice Af f.length cf) 2 1 f.length (ints f)]) (fun s => s.1 ≤ g.edges.length) (fun s => g.edges.length - s.1)
    (0, none, 0) [0, 2] ⟨rfl, rfl, rfl, rfl, trivial⟩ (by decide) rfl (Nat.zero_le _) ?_
  rintro ⟨k, A2, c2⟩ hk
  simp only at hk ⊢
  have hpl := pairsL_length f nl k
  have hps := pairsL_succ f nl k
  (repeat' (first | refine J_seq ?_ | refine J_skip ?_ | refine J_yes rfl ?_ | refine J_no rfl ?_))
  refine J_region ?_
  refine JL_all [] rfl ?_
  refine J_seq (J_dec rfl (fun hlt => J_skip ?_) (fun hge => J_exit ?_))
  · have hlt : k < g.edges.length := by omega
    obtain ⟨x, hx⟩ : ∃ x, f[nl + k]? = some x := ⟨f[nl + k]'(by omega), List.getElem?_eq_getElem (by omega)⟩
    have hxd : f.getD (nl + k) 0 = x := by rw [List.getD_eq_getElem?_getD, hx]; rfl
    have hfne : ints f ≠ [] := by
      intro h0
      have : f.length = 0 := by rw [← ints_length, h0]; rfl
      omega
    obtain rfl := hAf hfne
    have hcut : cutA (some ⟨gf, 0, none⟩) cf nl 1 = some ⟨gf, nl, none⟩ := by
      have := cutA_at (A := some ⟨gf, 0, none⟩) (c := cf) (l := nl) (n := f.length) (sz := 1) (fun _ => rfl) hcf (by omega)
      rw [this]; simp
    rw [hcut]
    have hq : IntKind.i64.wrap ((k : Int) + 1) = ((k + 1 : Nat) : Int) := w64 (by omega)
    refine J_seq (J_block ?_)
    (repeat' (first | refine J_seq ?_ | refine J_skip ?_ | refine J_yes rfl ?_ | refine J_no rfl ?_))
    refine J_region ?_
    refine JL_run [] rfl ?_
    refine JL_val [] (idx1 rfl rfl rfl rfl rfl hlt) rfl ?_
    refine JL_val [] (OpV_load_of (b := gf) (off := nl) (i := k) (cs := (ints f).drop nl) (v := .int .i64 x) (c := .own (.slice (some ⟨gf, 0, none⟩) f.length cf) 2 1 f.length (ints f)) 1 rfl rfl rfl
      (by have := shows_drop (shows_own (g := gf) (e := 2) (sz := 1) (n := f.length) (cap := cf) (xs := ints f)) nl; rw [Nat.zero_add] at this; exact this)
      (by show ((ints f).drop nl)[k]? = _; rw [List.getElem?_drop]; exact ints_get hx)) rfl ?_
    refine JL_all [] rfl ?_
    (repeat' (first | refine J_seq ?_ | refine J_skip ?_ | refine J_yes rfl ?_ | refine J_no rfl ?_))
    refine J_region ?_
    refine JL_all [] rfl ?_
    refine J_dec rfl (fun hgo => ?_) (fun hno2 => J_skip ?_)
    · rw [if_pos (by omega)] at hps
      refine J_region (JL_run [] rfl ?_)
      refine JL_lit rfl rfl rfl rfl rfl rfl rfl (fun _ => rfl) fun g2 => ?_
      refine JL_appendS (n := (pairsL f nl k).length) (m := 1) (off := 0) (news := ints [(k : Int)]) 1 0 rfl rfl rfl rfl rfl rfl (by decide) rfl rfl (shows_blk g2 _ _ (0, 0)) (fun _ => rfl) rfl rfl (by omega) (by omega) (fun _ _ => rfl) fun A3 c3 => ?_
      rw [show (pairsL f nl k).length + 1 = (pairsL f nl (k + 1)).length by rw [hps]; simp, show ints (pairsL f nl k) ++ ints [(k : Int)] = ints (pairsL f nl (k + 1)) by rw [hps]; simp [ints]]
      refine JL_all [] rfl ?_
      (repeat' (first | refine J_seq ?_ | refine J_skip ?_ | refine J_yes rfl ?_ | refine J_no rfl ?_))
      refine J_region ?_
      refine JL_all [] rfl ?_
      exact ⟨(k + 1, A3, c3), [1, 2], ⟨congrArg some (congrArg (Value.int .i64) hq), rfl, rfl, rfl, trivial⟩, by decide, rfl, by simp only; omega, by simp only; omega⟩
    · rw [if_neg (by omega), List.append_nil] at hps
      (repeat' (first | refine J_seq ?_ | refine J_skip ?_ | refine J_yes rfl ?_ | refine J_no rfl ?_))
      refine J_region ?_
      refine JL_all [] rfl ?_
      exact ⟨(k + 1, A2, c2), [0, 1], ⟨congrArg some (congrArg (Value.int .i64) hq), rfl, rfl, by simp only [hps]; rfl, trivial⟩, by decide, by simp only [hps]; rfl, by simp only; omega, by simp only; omega⟩
  · obtain rfl : k = g.edges.length := by omega
    (repeat' (first | refine J_seq ?_ | refine J_skip ?_ | refine J_yes rfl ?_ | refine J_no rfl ?_))
    refine J_region ?_
    refine JL_all [] rfl ?_
    exact J_drop [0] (by decide) rfl (J_ret ⟨_, rfl, f, A2, c2, ⟨hf, hno⟩, rfl, rfl⟩)
end Go.Proofs.Ytjbcgjahfalkaaa
