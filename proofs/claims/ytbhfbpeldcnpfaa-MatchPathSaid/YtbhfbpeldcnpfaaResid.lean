
/- What room a flow leaves. -/
import Derived.Test.YtbhfbpeldcnpfaaFlowN
import Derived.Test.YtbhfbpeldcnpfaaEngJ
namespace Go.Proofs.Ytbhfbpeldcnpfaa
open Go.RowKit
theorem and_one (n : Int) : IntKind.i64.wrap ((BitVec.ofInt IntKind.i64.bits n &&& BitVec.ofInt IntKind.i64.bits 1).toNat : Int) = n % 2 := by
  have h : (BitVec.ofInt IntKind.i64.bits n &&& BitVec.ofInt IntKind.i64.bits 1).toNat = (n % 2).toNat := by
    rw [BitVec.toNat_and, BitVec.toNat_ofInt, BitVec.toNat_ofInt]
    have e1 : ((1 : Int) % ((2 ^ IntKind.i64.bits : Nat) : Int)).toNat = 1 := by decide
    rw [e1, Nat.and_one_is_mod]
    have e2 : ((2 ^ IntKind.i64.bits : Nat) : Int) = 18446744073709551616 := by decide
    rw [e2]
    omega
  rw [h, w64 (by omega)]
  omega
/-- Where a track begins and ends. -/
def endsOf (a : Arc) (r : Nat) : Int × Int := if r % 2 = 1 then (a.to, a.fr) else (a.fr, a.to)
def endsZ (N : Net) (r : Nat) : Int × Int := match N.arcs[r / 2]? with
  | some a => endsOf a r
  | none => (0, 0)
theorem ends_fn (N : Net) (A : Option Addr) (c b o : Nat) (hA : N.arcs ≠ [] → A = some ⟨b, o, none⟩) (hl : N.arcs.length ≤ 2000) (r : Nat) (hr : r < 2 * N.arcs.length) :
    Fn 70 [netV N A c, .int .i64 r] [] [.seg b o (arcs N.arcs)] fun v H' => v = two (endsZ N r) ∧ H' = [] := by
  obtain rfl := hA (by intro h; rw [h] at hr; simp at hr)
  obtain ⟨a, ha⟩ : ∃ a, N.arcs[r / 2]? = some a := ⟨N.arcs[r / 2]'(by omega), List.getElem?_eq_getElem (by omega)⟩
  have he : endsZ N r = endsOf a r := by unfold endsZ; rw [ha]
  have hq : IntKind.i64.wrap ((r : Int).tdiv 2) = ((r / 2 : Nat) : Int) := by rw [w64 (by rw [Int.tdiv_eq_ediv_of_nonneg (by omega)]; omega), Int.tdiv_eq_ediv_of_nonneg (by omega)]; omega
  rw [he]
  refine Fn_of Try.func70 rfl rfl fun w0 => ?_
  (repeat' (first | refine J_seq ?_ | refine J_skip ?_ | refine J_yes rfl ?_ | refine J_no rfl ?_))
  refine J_region ?_
  refine JL_box (cs := netC N (some ⟨b, o, none⟩) c) rfl rfl rfl (fun _ => rfl) fun p => ?_
  refine JL_all [] rfl ?_
  (repeat' (first | refine J_seq ?_ | refine J_skip ?_ | refine J_yes rfl ?_ | refine J_no rfl ?_))
  refine J_region ?_
  refine JL_run [] rfl ?_
  refine JL_set 9 (v' := .bool false) rfl (congrArg Value.bool (cdec_no (by omega))) ?_
  refine JL_run [2] rfl ?_
  refine JL_set 11 (v' := .int .i64 ((r / 2 : Nat) : Int)) rfl (congrArg (Value.int .i64) hq) ?_
  refine JL_val [2] (OpV_blk 0 rfl rfl rfl rfl) rfl ?_
  refine JL_all [2] rfl ?_
  refine J_dec rfl (fun h => absurd h (by omega)) (fun _ => J_skip ?_)
  (repeat' (first | refine J_seq ?_ | refine J_skip ?_ | refine J_yes rfl ?_ | refine J_no rfl ?_))
  refine J_region ?_
  refine JL_run [] rfl ?_
  refine JL_val [] (OpV_blk 0 rfl rfl rfl rfl) rfl ?_
  refine JL_run [] rfl ?_
  refine JL_set 20 (v' := .int .i64 ((r / 2 : Nat) : Int)) rfl (congrArg (Value.int .i64) hq) ?_
  refine JL_val [] (idxN rfl rfl rfl rfl rfl (by omega)) rfl ?_
  refine JL_val [] (ldseg 1 rfl rfl rfl rfl (readT_arc ha)) rfl ?_
  refine JL_alloc rfl rfl rfl (fun _ => rfl) fun q => ?_
  refine JL_store 0 rfl rfl rfl rfl rfl [] rfl ?_
  refine JL_nil ?_
  refine J_cut [(6, .pointer (some ⟨q, 0, none⟩))] [blk q 51 [.int .i64 (endsOf a r).1, .int .i64 (endsOf a r).2, .int .i64 a.cap]] ?_ ?_
  · (repeat' (first | refine J_seq ?_ | refine J_skip ?_ | refine J_yes rfl ?_ | refine J_no rfl ?_))
    refine J_region ?_
    refine JL_all [] rfl ?_
    have hand : IntKind.i64.wrap ((BitVec.ofInt IntKind.i64.bits (r : Int) &&& BitVec.ofInt IntKind.i64.bits 1).toNat : Int) = (r : Int) % 2 := and_one r
    refine J_dec rfl (fun h => ?_) (fun h => J_skip ?_)
    · rw [hand] at h
      have e : endsOf a r = (a.to, a.fr) := by unfold endsOf; rw [if_pos (by omega)]
      rw [e]
      refine J_region (JL_run [] rfl ?_)
      refine JL_val [] (OpV_blk 0 rfl rfl rfl rfl) rfl ?_
      refine JL_run [] rfl ?_
      refine JL_val [] (OpV_blk 0 rfl rfl rfl rfl) rfl ?_
      refine JL_run [] rfl ?_
      refine JL_store 0 rfl rfl rfl rfl rfl [] rfl ?_
      refine JL_run [] rfl ?_
      refine JL_store 0 rfl rfl rfl rfl rfl [] rfl ?_
      refine JL_nil ?_
      exact ⟨[0], ⟨rfl, trivial⟩, by decide, rfl⟩
    · rw [hand] at h
      have e : endsOf a r = (a.fr, a.to) := by unfold endsOf; rw [if_neg (by omega)]
      rw [e]
      exact ⟨[0], ⟨rfl, trivial⟩, by decide, rfl⟩
  · (repeat' (first | refine J_seq ?_ | refine J_skip ?_ | refine J_yes rfl ?_ | refine J_no rfl ?_))
    refine J_walk 6 [(0, true), (1, true), (2, true), (3, true), (4, true), (5, true)] [0] (by kernel_rfl) (by decide) rfl ?_
    refine JW_run [] rfl ?_
    refine JW_still [] rfl (OpV_blk 0 rfl rfl rfl rfl) rfl ?_
    refine JW_run [] rfl ?_
    refine JW_still [] rfl (OpV_blk 0 rfl rfl rfl rfl) rfl ?_
    refine JW_all [] rfl ?_
    refine JL_nil ?_
    exact J_drop [] (by decide) rfl (J_ret ⟨_, rfl, rfl, rfl⟩)
/-- The room on each track. -/
def roomL (ps : List (Arc × Int)) : List Int := ps.flatMap fun p => [p.1.cap - p.2, p.2]
theorem roomL_length (ps : List (Arc × Int)) : (roomL ps).length = 2 * ps.length := by
  induction ps with
  | nil => rfl
  | cons p ps ih =>
    have e : roomL (p :: ps) = [p.1.cap - p.2, p.2] ++ roomL ps := by simp [roomL]
    rw [e, List.length_append, ih]; simp; omega
theorem roomL_succ {ps : List (Arc × Int)} {k : Nat} {p : Arc × Int} (h : ps[k]? = some p) : roomL (ps.take (k + 1)) = roomL (ps.take k) ++ [p.1.cap - p.2, p.2] := by
  rw [List.take_add_one, h]
  simp [roomL]
theorem room_fn (N : Net) (hN : N.Fits) (hR : N.Right) (A : Option Addr) (c b o : Nat) (hA : N.arcs ≠ [] → A = some ⟨b, o, none⟩) (f : List Int) (F : Option Addr) (cf bf of : Nat) (hF : f ≠ [] → F = some ⟨bf, of, none⟩) (hf : ∀ x ∈ f, inB x) (hfl : f.length * 8 ≤ 140737488351232) :
    Fn 69 [netV N A c, .slice F f.length cf] [] [.seg b o (arcs N.arcs), .seg bf of (ints f)] fun v H' =>
      (IsFlow N f ∧ ∃ A' c', v = .tuple #[.slice A' (2 * N.arcs.length) c', .int .i64 0] ∧ H' = [.own (.slice A' (2 * N.arcs.length) c') 2 1 (2 * N.arcs.length) (ints (roomL (N.arcs.zip f)))]) ∨
      (¬ IsFlow N f ∧ v = .tuple #[.slice none 0 0, .int .i64 (flowZ N f)] ∧ H' = []) := by
  refine Fn_of Try.func69 rfl rfl fun w0 => ?_
  (repeat' (first | refine J_seq ?_ | refine J_skip ?_ | refine J_yes rfl ?_ | refine J_no rfl ?_))
  refine J_region ?_
  refine JL_box (cs := netC N A c) rfl rfl rfl (fun _ => rfl) fun p => ?_
  refine JL_all [] rfl ?_
  (repeat' (first | refine J_seq ?_ | refine J_skip ?_ | refine J_yes rfl ?_ | refine J_no rfl ?_))
  refine J_region ?_
  refine JL_val [] (v := netV N A c) (OpV_blk 0 rfl rfl rfl rfl) rfl ?_
  refine JL_run [] rfl ?_
  refine JL_callR [] (fcheck_fn N hN hR A c b o hA f F cf bf of hF hf hfl) rfl rfl rfl rfl (by kernel_rfl) ⟨⟨1, _, by simp, rfl, shows_seg _ _ _, seen_seg⟩, ⟨2, _, by simp, rfl, shows_seg _ _ _, seen_seg⟩, trivial⟩ (fun _ => rfl) ?_
  rintro v H' ⟨rfl, rfl⟩
  refine ⟨rfl, ?_⟩
  refine JL_all [] rfl ?_
  (repeat' (first | refine J_seq ?_ | refine J_skip ?_ | refine J_yes rfl ?_ | refine J_no rfl ?_))
  refine J_region ?_
  refine JL_all [] rfl ?_
  refine J_dec rfl (fun h => ?_) (fun h => J_skip ?_)
  · (repeat' (first | refine J_seq ?_ | refine J_skip ?_ | refine J_yes rfl ?_ | refine J_no rfl ?_))
    refine J_region ?_
    refine JL_all [] rfl ?_
    refine J_drop [] (by decide) rfl (J_ret ⟨_, rfl, .inr ⟨fun hf => h (flowZ_zero.2 hf), rfl, rfl⟩⟩)
  have hW : IsFlow N f := flowZ_zero.1 (Classical.not_not.1 h)
  have hlen := hW.len
  have hl2 := hR.len
  (repeat' (first | refine J_seq ?_ | refine J_skip ?_ | refine J_yes rfl ?_ | refine J_no rfl ?_))
  refine J_region ?_
  refine JL_run [] rfl ?_
  refine JL_set 18 (v' := .int .i64 ((2 * f.length : Nat) : Int)) rfl (congrArg (Value.int .i64) ((w64 (n := 2 * (f.length : Int)) (by omega)).trans (by omega))) ?_
  refine JL_make (n := 0) (c := 2 * f.length) rfl rfl rfl rfl rfl rfl (by omega) (by omega) (by omega) (fun _ => rfl) fun g => ?_
  refine JL_all [] rfl ?_
  (repeat' (first | refine J_seq ?_ | refine J_skip ?_ | refine J_yes rfl ?_ | refine J_no rfl ?_))
  refine J_region ?_
  refine JL_all [] rfl ?_
  refine J_block ?_
  refine J_loop (σ := Nat × Option Addr × Nat) (fun s => [(22, .int .i64 s.1), (21, .int .i64 f.length), (20, .slice F f.length cf), (7, .slice s.2.1 (2 * s.1) s.2.2), (2, .pointer (some ⟨p, 0, none⟩))])
    (fun s => [.own (.slice s.2.1 (2 * s.1) s.2.2) 2 1 (2 * s.1) (ints (roomL ((N.arcs.zip f).take s.1))), blk p 27 (netC N A c), .seg b o (arcs N.arcs), .seg bf of (ints f)]) (fun s => s.1 ≤ f.length) (fun s => f.length - s.1)
    (0, some ⟨g, 0, none⟩, 2 * f.length) [0, 1, 2, 3] ⟨rfl, rfl, rfl, rfl, rfl, trivial⟩ (by decide) ?_ (Nat.zero_le _) ?_
  · rw [show made [Value.int .i64 0] (0 * 1) = [] from List.length_eq_zero_iff.1 (made_length _ _)]
    show picks _ _ = some [.own (.slice (some ⟨g, 0, none⟩) 0 (2 * f.length)) 2 1 0 (ints (roomL ((N.arcs.zip f).take 0))), blk p 27 (netC N A c), .seg b o (arcs N.arcs), .seg bf of (ints f)]
    rw [List.take_zero]
    rfl
  rintro ⟨k, A1, c1⟩ hk
  simp only at hk ⊢
  (repeat' (first | refine J_seq ?_ | refine J_skip ?_ | refine J_yes rfl ?_ | refine J_no rfl ?_))
  refine J_region ?_
  refine JL_all [] rfl ?_
  refine J_seq (J_dec rfl (fun hlt => J_skip ?_) (fun hge => J_exit ?_))
  · have hlt : k < f.length := by omega
    obtain rfl := hF (by rintro rfl; simp at hlt)
    obtain rfl := hA (by intro h; have h0 : N.arcs.length = 0 := by rw [h]; rfl
                         omega)
    obtain ⟨x, hx⟩ : ∃ x, f[k]? = some x := ⟨f[k], List.getElem?_eq_getElem hlt⟩
    obtain ⟨a, ha⟩ : ∃ a, N.arcs[k]? = some a := ⟨N.arcs[k], List.getElem?_eq_getElem (by omega)⟩
    obtain ⟨_, _, hcap⟩ := arcs_get ha
    have hz : (N.arcs.zip f)[k]? = some (a, x) := by simp [List.getElem?_zip_eq_some, ha, hx]
    have hb := hW.all _ (List.mem_of_getElem? hz)
    have hB := (hN.arc a (List.mem_of_getElem? ha)).2.2
    simp only at hb
    unfold inB at hB
    refine J_seq (J_block ?_)
    (repeat' (first | refine J_seq ?_ | refine J_skip ?_ | refine J_yes rfl ?_ | refine J_no rfl ?_))
    refine J_region ?_
    refine JL_run [] rfl ?_
    refine JL_val [] (idx1 rfl rfl rfl rfl rfl hlt) rfl ?_
    refine JL_val [] (ldseg 3 rfl rfl rfl rfl (readT_int hx)) rfl ?_
    refine JL_all [] rfl ?_
    (repeat' (first | refine J_seq ?_ | refine J_skip ?_ | refine J_yes rfl ?_ | refine J_no rfl ?_))
    refine J_region ?_
    refine JL_run [] rfl ?_
    refine JL_val [] (OpV_blk 1 rfl rfl rfl rfl) rfl ?_
    refine JL_run [] rfl ?_
    refine JL_val [] (idxN rfl rfl rfl rfl rfl (by omega)) rfl ?_
    refine JL_run [] rfl ?_
    refine JL_val [] (ldseg 2 rfl rfl rfl rfl hcap) rfl ?_
    refine JL_run [] rfl ?_
    refine JL_set 35 (v' := .int .i64 (a.cap - x)) rfl (congrArg (Value.int .i64) (w64 (by omega))) ?_
    refine JL_lit rfl rfl rfl rfl rfl rfl rfl (fun _ => rfl) fun g2 => ?_
    refine JL_appendS (n := 2 * k) (m := 2) (off := 0) (news := [.int .i64 (a.cap - x), .int .i64 x]) 1 0 rfl rfl rfl rfl rfl rfl (by decide) rfl rfl (shows_blk g2 _ _ (0, 0)) (fun _ => rfl) rfl rfl (by omega) (by omega) (fun _ _ => rfl) fun A2 c2 => ?_
    refine JL_all [] rfl ?_
    (repeat' (first | refine J_seq ?_ | refine J_skip ?_ | refine J_yes rfl ?_ | refine J_no rfl ?_))
    refine J_region ?_
    refine JL_all [] rfl ?_
    refine ⟨(k + 1, A2, c2), [1, 2, 3, 4], ⟨?_, rfl, rfl, rfl, rfl, trivial⟩, by decide, ?_, by simp only; omega, by simp only; omega⟩
    · show some (Value.int .i64 (IntKind.i64.wrap ((k : Int) + 1))) = _
      rw [w64 (by omega)]; rfl
    · simp only [roomL_succ hz]
      rw [show ints (roomL ((N.arcs.zip f).take k) ++ [a.cap - x, x]) = ints (roomL ((N.arcs.zip f).take k)) ++ [.int .i64 (a.cap - x), .int .i64 x] by simp [ints]]
      rfl
  · have hk' : k = N.arcs.length := by omega
    subst hk'
    rw [List.take_of_length_le (by simp; omega)]
    (repeat' (first | refine J_seq ?_ | refine J_skip ?_ | refine J_yes rfl ?_ | refine J_no rfl ?_))
    refine J_region ?_
    refine JL_all [] rfl ?_
    refine J_drop [0] (by decide) rfl (J_ret ⟨_, rfl, .inl ⟨hW, A1, c1, rfl, rfl⟩⟩)
end Go.Proofs.Ytbhfbpeldcnpfaa
