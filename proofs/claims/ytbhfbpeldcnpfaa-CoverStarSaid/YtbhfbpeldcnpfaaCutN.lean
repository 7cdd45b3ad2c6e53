
/- Cuts. -/
import Derived.Test.YtbhfbpeldcnpfaaQC
namespace Go.Proofs.Ytbhfbpeldcnpfaa
open Go.RowKit
/-- The numbers from 1 on, up to k, that are marked so. -/
def whereK (l : List Bool) (is : Bool) (k : Nat) : List Int := ((List.range k).filter fun (v : Nat) => decide (0 < v ∧ l[v]? = some is)).map fun (v : Nat) => (v : Int)
theorem whereK_succ (l : List Bool) (is : Bool) (k : Nat) : whereK l is (k + 1) = whereK l is k ++ (if 0 < k ∧ l[k]? = some is then [(k : Int)] else []) := by
  unfold whereK
  rw [List.range_succ, List.filter_append, List.map_append]
  congr 1
  by_cases h : 0 < k ∧ l[k]? = some is <;> simp [h]
theorem whereK_length (l : List Bool) (is : Bool) (k : Nat) : (whereK l is k).length ≤ k := by
  unfold whereK
  rw [List.length_map]
  exact Nat.le_trans (List.length_filter_le _ _) (by simp)
theorem mem_whereK {l : List Bool} {is : Bool} {k : Nat} {x : Int} : x ∈ whereK l is k ↔ ∃ v : Nat, v < k ∧ 0 < v ∧ l[v]? = some is ∧ x = v := by
  unfold whereK
  simp only [List.mem_map, List.mem_filter, List.mem_range, decide_eq_true_eq]
  constructor
  · rintro ⟨v, ⟨h1, h2, h3⟩, rfl⟩; exact ⟨v, h1, h2, h3, rfl⟩
  · rintro ⟨v, h1, h2, h3, rfl⟩; exact ⟨v, ⟨h1, h2, h3⟩, rfl⟩
theorem where_fn (A : Option Addr) (c b o : Nat) (l : List Bool) (hA : l ≠ [] → A = some ⟨b, o, none⟩) (hl : l.length ≤ 100000) (is : Bool) :
    Fn 56 [.slice A l.length c, .bool is] [] [.seg b o (bools l)] fun v H' => ∃ A' c', v = .slice A' (whereK l is l.length).length c' ∧ H' = [.own v 3 1 (whereK l is l.length).length (ints (whereK l is l.length))] := by
  refine Fn_of Try.func56 rfl rfl fun w0 => ?_
  (repeat' (first | refine J_seq ?_ | refine J_skip ?_ | refine J_yes rfl ?_ | refine J_no rfl ?_))
  refine J_region ?_
  refine JL_all [] rfl ?_
  (repeat' (first | refine J_seq ?_ | refine J_skip ?_ | refine J_yes rfl ?_ | refine J_no rfl ?_))
  refine J_region ?_
  refine JL_all [] rfl ?_
  (repeat' (first | refine J_seq ?_ | refine J_skip ?_ | refine J_yes rfl ?_ | refine J_no rfl ?_))
  refine J_region ?_
  refine JL_all [] rfl ?_
  refine J_block ?_
  refine J_addnil 3 1 ?_
  refine J_loop (σ := Nat × Option Addr × Nat) (fun s => [(10, .int .i64 s.1), (9, .int .i64 l.length), (8, .slice A l.length c), (5, .slice s.2.1 (whereK l is s.1).length s.2.2), (1, .bool is)])
    (fun s => [.own (.slice s.2.1 (whereK l is s.1).length s.2.2) 3 1 (whereK l is s.1).length (ints (whereK l is s.1)), .seg b o (bools l)]) (fun s => s.1 ≤ l.length) (fun s => l.length - s.1)
    (0, none, 0) [0, 1] ⟨rfl, rfl, rfl, rfl, rfl, trivial⟩ (by decide) rfl (Nat.zero_le _) ?_
  rintro ⟨k, A1, c1⟩ hk
  simp only at hk ⊢
  have hwl := whereK_length l is k
  (repeat' (first | refine J_seq ?_ | refine J_skip ?_ | refine J_yes rfl ?_ | refine J_no rfl ?_))
  refine J_region ?_
  refine JL_all [] rfl ?_
  refine J_seq (J_dec rfl (fun hlt => J_skip ?_) (fun hge => J_exit ?_))
  · have hlt : k < l.length := by omega
    obtain rfl := hA (by rintro rfl; simp at hlt)
    obtain ⟨m, hm⟩ : ∃ m, l[k]? = some m := ⟨l[k], List.getElem?_eq_getElem hlt⟩
    have hws := whereK_succ l is k
    refine J_seq (J_block ?_)
    (repeat' (first | refine J_seq ?_ | refine J_skip ?_ | refine J_yes rfl ?_ | refine J_no rfl ?_))
    refine J_region ?_
    refine JL_run [] rfl ?_
    refine JL_val [] (idx1 rfl rfl rfl rfl rfl hlt) rfl ?_
    refine JL_val [] (ldseg 1 rfl rfl rfl rfl (show (bools l)[k]? = some (.bool m) from bools_get hm)) rfl ?_
    refine JL_all [] rfl ?_
    by_cases hgo : 0 < k ∧ m = is
    · rw [if_pos ⟨hgo.1, by rw [hm, hgo.2]⟩] at hws
      (repeat' (first | refine J_seq ?_ | refine J_skip ?_ | refine J_yes rfl ?_ | refine J_no rfl ?_))
      refine J_region ?_
      refine JL_run [] rfl ?_
      refine JL_set 17 (v' := .bool true) rfl (congrArg Value.bool (cdec_yes (by omega))) ?_
      refine JL_run [2] rfl ?_
      refine JL_set 21 (v' := .bool true) rfl (congrArg Value.bool (by rw [hgo.2]; simp)) ?_
      refine JL_nil ?_
      refine J_yes rfl ?_
      refine J_region (JL_run [] rfl ?_)
      refine JL_lit rfl rfl rfl rfl rfl rfl rfl (fun _ => rfl) fun g2 => ?_
      refine JL_appendS (n := (whereK l is k).length) (m := 1) (off := 0) (news := ints [(k : Int)]) 1 0 rfl rfl rfl rfl rfl rfl (by decide) rfl rfl (shows_blk g2 _ _ (0, 0)) (fun _ => rfl) rfl rfl (by omega) (by omega) (fun _ _ => rfl) fun A2 c2 => ?_
      rw [show (whereK l is k).length + 1 = (whereK l is (k + 1)).length by rw [hws]; simp, show ints (whereK l is k) ++ ints [(k : Int)] = ints (whereK l is (k + 1)) by rw [hws]; simp [ints]]
      refine JL_all [] rfl ?_
      (repeat' (first | refine J_seq ?_ | refine J_skip ?_ | refine J_yes rfl ?_ | refine J_no rfl ?_))
      refine J_region ?_
      refine JL_all [] rfl ?_
      refine ⟨(k + 1, A2, c2), [1, 2], ⟨?_, rfl, rfl, rfl, rfl, trivial⟩, by decide, rfl, by simp only; omega, by simp only; omega⟩
      show some (Value.int .i64 (IntKind.i64.wrap ((k : Int) + 1))) = _
      rw [w64 (by omega)]; rfl
    · rw [if_neg (fun h => hgo ⟨h.1, by rw [hm] at h; simpa using h.2⟩), List.append_nil] at hws
      refine J_cut [(21, .bool false), (10, .int .i64 k), (9, .int .i64 l.length), (8, .slice (some ⟨b, o, none⟩) l.length c), (5, .slice A1 (whereK l is k).length c1), (1, .bool is)]
        [.own (.slice A1 (whereK l is k).length c1) 3 1 (whereK l is k).length (ints (whereK l is k)), .seg b o (bools l)] ?_ ?_
      · (repeat' (first | refine J_seq ?_ | refine J_skip ?_ | refine J_yes rfl ?_ | refine J_no rfl ?_))
        refine J_region ?_
        refine JL_run [] rfl ?_
        by_cases h0 : 0 < k
        · refine JL_set 17 (v' := .bool true) rfl (congrArg Value.bool (cdec_yes (by omega))) ?_
          refine JL_run [2] rfl ?_
          refine JL_set 21 (v' := .bool false) rfl (congrArg Value.bool (by have : m ≠ is := fun e => hgo ⟨h0, e⟩; simpa using this)) ?_
          refine JL_nil ?_
          exact ⟨[0, 1], ⟨rfl, rfl, rfl, rfl, rfl, rfl, trivial⟩, by decide, rfl⟩
        · refine JL_set 17 (v' := .bool false) rfl (congrArg Value.bool (cdec_no (by omega))) ?_
          refine JL_all [2] rfl ?_
          exact ⟨[0, 1], ⟨rfl, rfl, rfl, rfl, rfl, rfl, trivial⟩, by decide, rfl⟩
      · refine J_no rfl (J_skip ?_)
        (repeat' (first | refine J_seq ?_ | refine J_skip ?_ | refine J_yes rfl ?_ | refine J_no rfl ?_))
        refine J_region ?_
        refine JL_all [] rfl ?_
        refine ⟨(k + 1, A1, c1), [0, 1], ⟨?_, rfl, rfl, by simp only [hws]; rfl, rfl, trivial⟩, by decide, by simp only [hws]; rfl, by simp only; omega, by simp only; omega⟩
        show some (Value.int .i64 (IntKind.i64.wrap ((k : Int) + 1))) = _
        rw [w64 (by omega)]; rfl
  · have hk' : k = l.length := by omega
    subst hk'
    (repeat' (first | refine J_seq ?_ | refine J_skip ?_ | refine J_yes rfl ?_ | refine J_no rfl ?_))
    refine J_region ?_
    refine JL_all [] rfl ?_
    refine J_drop [0] (by decide) rfl (J_ret ⟨_, rfl, A1, c1, rfl, rfl⟩)
/-- What 'First' tells. -/
def firstR (N : Net) (f : List Int) (n : Nat) (v : Value) (H' : Heap) : Prop :=
  (IsFlow N f ∧ ¬ Rch N (roomL (N.arcs.zip f)) 1 N.snk ∧ ∃ (l : List Bool) (A' : Option Addr) (c' : Nat), l.length = n + 1 ∧ (∀ v : Nat, l[v]? = some true ↔ v ≤ n ∧ Rch N (roomL (N.arcs.zip f)) 1 v) ∧ v = .tuple #[.slice A' (whereK l true (n + 1)).length c', .int .i64 0] ∧
    H' = [.own (.slice A' (whereK l true (n + 1)).length c') 3 1 (whereK l true (n + 1)).length (ints (whereK l true (n + 1)))]) ∨
  (¬ IsFlow N f ∧ v = .tuple #[.slice none 0 0, .int .i64 (flowZ N f)] ∧ H' = []) ∨ (IsFlow N f ∧ Rch N (roomL (N.arcs.zip f)) 1 N.snk ∧ v = .tuple #[.slice none 0 0, .int .i64 8] ∧ H' = [])
theorem first_fn (N : Net) (hN : N.Fits) (hR : N.Right) (A : Option Addr) (c b o : Nat) (hA : N.arcs ≠ [] → A = some ⟨b, o, none⟩) (f : List Int) (F : Option Addr) (cf bf of : Nat) (hF : f ≠ [] → F = some ⟨bf, of, none⟩) (hf : ∀ x ∈ f, inB x) (hfl : f.length * 8 ≤ 140737488351232)
    (n : Nat) (hn : N.nodes = n) : Fn 19 [netV N A c, .slice F f.length cf] [] [.seg b o (arcs N.arcs), .seg bf of (ints f)] (firstR N f n) := by
  have hnn := hR.nodes
  have hsk := hR.snk
  obtain ⟨s, hs⟩ : ∃ s : Nat, N.snk = s := ⟨N.snk.toNat, by omega⟩
  refine Fn_of Try.func19 rfl rfl fun w0 => ?_
  (repeat' (first | refine J_seq ?_ | refine J_skip ?_ | refine J_yes rfl ?_ | refine J_no rfl ?_))
  refine J_region ?_
  refine JL_box (cs := netC N A c) rfl rfl rfl (fun _ => rfl) fun p => ?_
  refine JL_all [] rfl ?_
  (repeat' (first | refine J_seq ?_ | refine J_skip ?_ | refine J_yes rfl ?_ | refine J_no rfl ?_))
  refine J_region ?_
  refine JL_val [] (v := netV N A c) (OpV_blk 0 rfl rfl rfl rfl) rfl ?_
  refine JL_run [] rfl ?_
  refine JL_callR [] (reach_fn N hN hR A c b o hA f F cf bf of hF hf hfl 1 (by decide) n hn) rfl rfl rfl rfl (by kernel_rfl) ⟨⟨1, _, by simp, rfl, shows_seg _ _ _, seen_seg⟩, ⟨2, _, by simp, rfl, shows_seg _ _ _, seen_seg⟩, trivial⟩ (fun _ => rfl) ?_
  rintro v H' (⟨hW, _, l, g, hl, hlr, rfl, rfl⟩ | ⟨hW, rfl, rfl⟩ | ⟨_, h1, _, _⟩)
  · refine ⟨rfl, ?_⟩
    refine JL_all [] rfl ?_
    (repeat' (first | refine J_seq ?_ | refine J_skip ?_ | refine J_yes rfl ?_ | refine J_no rfl ?_))
    refine J_block ?_
    (repeat' (first | refine J_seq ?_ | refine J_skip ?_ | refine J_yes rfl ?_ | refine J_no rfl ?_))
    refine J_region ?_
    refine JL_all [] rfl ?_
    refine J_dec rfl (fun h => absurd rfl h) (fun _ => ?_)
    obtain ⟨bt, hbt⟩ : ∃ bt, l[s]? = some bt := ⟨l[s]'(by omega), List.getElem?_eq_getElem (by omega)⟩
    have hls := hlr s
    (repeat' (first | refine J_seq ?_ | refine J_skip ?_ | refine J_yes rfl ?_ | refine J_no rfl ?_))
    refine J_region ?_
    refine JL_run [] rfl ?_
    refine JL_val [] (OpV_blk 1 rfl rfl rfl rfl) rfl ?_
    refine JL_set 21 (v' := .int .i64 (s : Int)) rfl (congrArg (Value.int .i64) hs) ?_
    refine JL_val [] (idx1z rfl rfl rfl rfl rfl (by omega)) rfl ?_
    refine JL_val [] (OpV_own 0 rfl rfl rfl (show (bools l)[s]? = some (.bool bt) from bools_get hbt)) rfl ?_
    refine JL_all [] rfl ?_
    cases bt with
    | true =>
      refine J_yes rfl ?_
      (repeat' (first | refine J_seq ?_ | refine J_skip ?_ | refine J_yes rfl ?_ | refine J_no rfl ?_))
      refine J_region ?_
      refine JL_all [] rfl ?_
      refine J_drop [] (by decide) rfl (J_ret ⟨_, rfl, .inr (.inr ⟨hW, by rw [hs]; exact (hls.1 hbt).2, rfl, rfl⟩)⟩)
    | false =>
      refine J_no rfl (J_skip ?_)
      have hno : ¬ Rch N (roomL (N.arcs.zip f)) 1 N.snk := fun hr => by
        have := hls.2 ⟨by omega, hs ▸ hr⟩
        rw [hbt] at this; simp at this
      (repeat' (first | refine J_seq ?_ | refine J_skip ?_ | refine J_yes rfl ?_ | refine J_no rfl ?_))
      refine J_region ?_
      refine JL_run [] rfl ?_
      have T := where_fn (some ⟨g, 0, none⟩) (n + 1) g 0 l (fun _ => rfl) (by omega) true
      rw [hl] at T
      refine JL_callR [] T rfl rfl rfl rfl (by kernel_rfl) ⟨⟨0, _, by simp, rfl, shows_own, .inr rfl⟩, trivial⟩ (fun _ => rfl) ?_
      rintro v H' ⟨A', c', rfl, rfl⟩
      refine ⟨rfl, ?_⟩
      refine JL_all [] rfl ?_
      refine J_drop [0] (by decide) rfl (J_ret ⟨_, rfl, .inl ⟨hW, hno, l, A', c', hl, hlr, rfl, rfl⟩⟩)
  · refine ⟨rfl, ?_⟩
    refine JL_all [] rfl ?_
    (repeat' (first | refine J_seq ?_ | refine J_skip ?_ | refine J_yes rfl ?_ | refine J_no rfl ?_))
    refine J_block ?_
    (repeat' (first | refine J_seq ?_ | refine J_skip ?_ | refine J_yes rfl ?_ | refine J_no rfl ?_))
    refine J_region ?_
    refine JL_all [] rfl ?_
    refine J_dec rfl (fun h => ?_) (fun h => absurd (flowZ_zero.1 (Classical.not_not.1 h)) hW)
    (repeat' (first | refine J_seq ?_ | refine J_skip ?_ | refine J_yes rfl ?_ | refine J_no rfl ?_))
    refine J_region ?_
    refine JL_all [] rfl ?_
    refine J_drop [] (by decide) rfl (J_ret ⟨_, rfl, .inr (.inl ⟨hW, rfl, rfl⟩)⟩)
  · exact absurd h1 (by decide)
end Go.Proofs.Ytbhfbpeldcnpfaa
