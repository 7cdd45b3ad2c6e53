
/- Flows: whether amounts are one, and what it is worth. -/
import Derived.Test.YtbhfbpeldcnpfaaNetC
import Derived.Test.YtbhfbpeldcnpfaaFlow1
namespace Go.Proofs.Ytbhfbpeldcnpfaa
open Go.RowKit
open Classical in
/-- Whether amounts are within the capacities. -/
noncomputable def withinZ (N : Net) (f : List Int) : Int := if f.length ≠ N.arcs.length then 6 else if ∀ p ∈ N.arcs.zip f, 0 ≤ p.2 ∧ p.2 ≤ p.1.cap then 0 else 3
theorem within_fn (N : Net) (hN : N.Fits) (hR : N.Right) (A : Option Addr) (c b o : Nat) (hA : N.arcs ≠ [] → A = some ⟨b, o, none⟩) (f : List Int) (F : Option Addr) (cf bf of : Nat) (hF : f ≠ [] → F = some ⟨bf, of, none⟩) (hf : ∀ x ∈ f, inB x) (hfl : f.length * 8 ≤ 140737488351232) :
    Fn 75 [netV N A c, .slice F f.length cf] [] [.seg b o (arcs N.arcs), .seg bf of (ints f)] fun v H' => v = .int .i64 (withinZ N f) ∧ H' = [] := by
  have hln := hN.len
  refine Fn_of Try.func75 rfl rfl fun w0 => ?_
  (repeat' (first | refine J_seq ?_ | refine J_skip ?_ | refine J_yes rfl ?_ | refine J_no rfl ?_))
  refine J_region ?_
  refine JL_box (cs := netC N A c) rfl rfl rfl (fun _ => rfl) fun p => ?_
  refine JL_all [] rfl ?_
  (repeat' (first | refine J_seq ?_ | refine J_skip ?_ | refine J_yes rfl ?_ | refine J_no rfl ?_))
  refine J_region ?_
  refine JL_val [] (v := netV N A c) (OpV_blk 0 rfl rfl rfl rfl) rfl ?_
  refine JL_callR [] (check_fn N hN A c b o hA) rfl rfl rfl rfl (by kernel_rfl) ⟨⟨1, _, by simp, rfl, shows_seg _ _ _, seen_seg⟩, trivial⟩ (fun _ => rfl) ?_
  rintro v H' ⟨rfl, rfl⟩
  refine ⟨rfl, ?_⟩
  rw [hR.check]
  refine JL_all [] rfl ?_
  (repeat' (first | refine J_seq ?_ | refine J_skip ?_ | refine J_yes rfl ?_ | refine J_no rfl ?_))
  refine J_region ?_
  refine JL_all [] rfl ?_
  refine J_dec rfl (fun h => absurd rfl h) (fun _ => J_skip ?_)
  (repeat' (first | refine J_seq ?_ | refine J_skip ?_ | refine J_yes rfl ?_ | refine J_no rfl ?_))
  refine J_region ?_
  refine JL_run [] rfl ?_
  refine JL_val [] (OpV_blk 0 rfl rfl rfl rfl) rfl ?_
  refine JL_all [] rfl ?_
  refine J_dec rfl (fun h => ?_) (fun h => J_skip ?_)
  · (repeat' (first | refine J_seq ?_ | refine J_skip ?_ | refine J_yes rfl ?_ | refine J_no rfl ?_))
    refine J_region ?_
    refine JL_all [] rfl ?_
    refine J_drop [] (by decide) rfl (J_ret ⟨_, rfl, ?_, rfl⟩)
    unfold withinZ; rw [if_pos (by omega)]; rfl
  have hlen : f.length = N.arcs.length := by omega
  (repeat' (first | refine J_seq ?_ | refine J_skip ?_ | refine J_yes rfl ?_ | refine J_no rfl ?_))
  refine J_region ?_
  refine JL_all [] rfl ?_
  refine J_block ?_
  refine J_loop (σ := Nat) (fun k => [(21, .int .i64 k), (20, .int .i64 f.length), (19, .slice F f.length cf), (2, .pointer (some ⟨p, 0, none⟩))])
    (fun k => [blk p 27 (netC N A c), .seg b o (arcs N.arcs), .seg bf of (ints f)]) (fun k => k ≤ f.length ∧ ∀ q ∈ (N.arcs.zip f).take k, 0 ≤ q.2 ∧ q.2 ≤ q.1.cap) (fun k => f.length - k)
    0 [0, 1, 2] ⟨rfl, rfl, rfl, rfl, trivial⟩ (by decide) rfl ⟨Nat.zero_le _, fun q hq => by simp at hq⟩ ?_
  rintro k ⟨hk, hall⟩
  (repeat' (first | refine J_seq ?_ | refine J_skip ?_ | refine J_yes rfl ?_ | refine J_no rfl ?_))
  refine J_region ?_
  refine JL_all [] rfl ?_
  refine J_seq (J_dec rfl (fun hlt => J_skip ?_) (fun hge => J_exit ?_))
  · have hlt : k < f.length := by omega
    obtain rfl := hF (by rintro rfl; simp at hlt)
    obtain rfl := hA (by intro h; have h0 : N.arcs.length = 0 := by rw [h]; rfl
                         omega)
    obtain ⟨x, hx⟩ : ∃ x, f[k]? = some x := ⟨f[k], List.getElem?_eq_getElem hlt⟩
    obtain ⟨a, ha⟩ : ∃ a, N.arcs[k]? = some a := ⟨N.arcs[k], List.getElem?_eq_getElem (by omega)⟩
    obtain ⟨_, _, hcap⟩ := arcs_get ha
    have hz : (N.arcs.zip f)[k]? = some (a, x) := by simp [List.getElem?_zip_eq_some, ha, hx]
    have hbad : ¬ (0 ≤ x ∧ x ≤ a.cap) → withinZ N f = 3 := by
      intro hb
      unfold withinZ
      rw [if_neg (by omega), if_neg (fun hall => hb (hall _ (List.mem_of_getElem? hz)))]
    refine J_seq (J_block ?_)
    (repeat' (first | refine J_seq ?_ | refine J_skip ?_ | refine J_yes rfl ?_ | refine J_no rfl ?_))
    refine J_region ?_
    refine JL_run [] rfl ?_
    refine JL_val [] (idx1 rfl rfl rfl rfl rfl hlt) rfl ?_
    refine JL_val [] (ldseg 2 rfl rfl rfl rfl (readT_int hx)) rfl ?_
    refine JL_all [] rfl ?_
    (repeat' (first | refine J_seq ?_ | refine J_skip ?_ | refine J_yes rfl ?_ | refine J_no rfl ?_))
    refine J_region ?_
    refine JL_run [] rfl ?_
    by_cases h0 : x < 0
    · refine JL_set 28 (v' := .bool true) rfl (congrArg Value.bool (cdec_yes h0)) ?_
      refine JL_all [2] rfl ?_
      refine J_yes rfl ?_
      (repeat' (first | refine J_seq ?_ | refine J_skip ?_ | refine J_yes rfl ?_ | refine J_no rfl ?_))
      refine J_region ?_
      refine JL_all [] rfl ?_
      refine J_drop [] (by decide) rfl (J_ret ⟨_, rfl, by rw [hbad (by omega)]; rfl, rfl⟩)
    refine JL_set 28 (v' := .bool false) rfl (congrArg Value.bool (cdec_no h0)) ?_
    refine JL_run [2] rfl ?_
    refine JL_val [2] (OpV_blk 0 rfl rfl rfl rfl) rfl ?_
    refine JL_run [2] rfl ?_
    refine JL_val [2] (idxN rfl rfl rfl rfl rfl (by omega)) rfl ?_
    refine JL_run [2] rfl ?_
    refine JL_val [2] (ldseg 1 rfl rfl rfl rfl hcap) rfl ?_
    refine JL_all [2] rfl ?_
    refine J_dec rfl (fun h1 => ?_) (fun h1 => J_skip ?_)
    · (repeat' (first | refine J_seq ?_ | refine J_skip ?_ | refine J_yes rfl ?_ | refine J_no rfl ?_))
      refine J_region ?_
      refine JL_all [] rfl ?_
      refine J_drop [] (by decide) rfl (J_ret ⟨_, rfl, by rw [hbad (by omega)]; rfl, rfl⟩)
    (repeat' (first | refine J_seq ?_ | refine J_skip ?_ | refine J_yes rfl ?_ | refine J_no rfl ?_))
    refine J_region ?_
    refine JL_all [] rfl ?_
    refine ⟨k + 1, [0, 1, 2], ⟨?_, rfl, rfl, rfl, trivial⟩, by decide, rfl, ⟨by omega, fun q hq => ?_⟩, by omega⟩
    · show some (Value.int .i64 (IntKind.i64.wrap ((k : Int) + 1))) = _
      rw [w64 (by omega)]; rfl
    · rw [List.take_add_one, hz] at hq
      rcases List.mem_append.1 hq with hq | hq
      · exact hall q hq
      · simp only [Option.toList_some, List.mem_singleton] at hq
        subst hq
        simp only; omega
  · have hk' : k = f.length := by omega
    subst hk'
    (repeat' (first | refine J_seq ?_ | refine J_skip ?_ | refine J_yes rfl ?_ | refine J_no rfl ?_))
    refine J_region ?_
    refine JL_all [] rfl ?_
    refine J_drop [] (by decide) rfl (J_ret ⟨_, rfl, ?_, rfl⟩)
    unfold withinZ
    rw [if_neg (by omega), if_pos (fun q hq => hall q (by rw [List.take_of_length_le (by simp; omega)]; exact hq))]
    rfl
/-- What is left in a node. -/
def exZ (ps : List (Arc × Int)) (v : Int) : Int := (ps.map fun p => (if p.1.to = v then p.2 else 0) - (if p.1.fr = v then p.2 else 0)).sum
theorem exStep_get {l : List Int} {a : Arc} {f : Int} {B : Int} (hB : ∀ v : Nat, -B ≤ l.getD v 0 ∧ l.getD v 0 ≤ B) (hf : 0 ≤ f) (hb : B + f ≤ 9000000000000000000) (h1 : 0 ≤ a.fr ∧ a.fr < l.length) (h2 : 0 ≤ a.to ∧ a.to < l.length) (v : Nat) :
    (exStep l a f).getD v 0 = l.getD v 0 + ((if a.to = v then f else 0) - (if a.fr = v then f else 0)) := by
  obtain ⟨fr, to, cap⟩ := a
  obtain ⟨fr, rfl⟩ := Int.eq_ofNat_of_zero_le h1.1
  obtain ⟨to, rfl⟩ := Int.eq_ofNat_of_zero_le h2.1
  simp only [exStep, Int.toNat_natCast]
  have h1' : fr < l.length := by have := h1.2; simp only at this; omega
  have h2' : to < l.length := by have := h2.2; simp only at this; omega
  have hs1 : ∀ v, (l.set fr (IntKind.i64.wrap (l.getD fr 0 - f))).getD v 0 = l.getD v 0 - (if fr = v then f else 0) := by
    intro v
    by_cases h : fr = v
    · subst h
      have := hB fr
      rw [if_pos rfl, List.getD_eq_getElem?_getD, List.getElem?_set_self h1', Option.getD_some, w64 (by omega)]
    · rw [if_neg h, List.getD_eq_getElem?_getD, List.getElem?_set_ne h, List.getD_eq_getElem?_getD]; omega
  by_cases h : to = v
  · subst h
    have e1 := hs1 to
    have := hB to
    rw [List.getD_eq_getElem?_getD, List.getElem?_set_self (by simpa using h2'), Option.getD_some, e1, w64 (by split <;> omega)]
    simp only [Int.natCast_inj, if_true]
    omega
  · rw [List.getD_eq_getElem?_getD, List.getElem?_set_ne h, ← List.getD_eq_getElem?_getD, hs1 v]
    simp only [Int.natCast_inj]
    rw [if_neg h]
    omega
theorem fold_ex (n : Nat) : ∀ (ps : List (Arc × Int)) (l : List Int) (B : Int), l.length = n + 1 → (∀ v : Nat, -B ≤ l.getD v 0 ∧ l.getD v 0 ≤ B) → (∀ p ∈ ps, 0 ≤ p.2 ∧ (0 ≤ p.1.fr ∧ p.1.fr ≤ n) ∧ (0 ≤ p.1.to ∧ p.1.to ≤ n)) → B + (ps.map (·.2)).sum ≤ 9000000000000000000 →
    ∀ v : Nat, (ps.foldl (fun l p => exStep l p.1 p.2) l).getD v 0 = l.getD v 0 + exZ ps v
  | [], l, B, _, _, _, _, v => by simp [exZ]
  | p :: ps, l, B, hl, hB, hp, hs, v => by
    obtain ⟨p1, p2, p3⟩ := hp p (by simp)
    have hnn : 0 ≤ (ps.map (·.2)).sum := by
      have : ∀ (ps : List (Arc × Int)), (∀ p ∈ ps, 0 ≤ p.2) → 0 ≤ (ps.map (·.2)).sum := by
        intro ps
        induction ps with
        | nil => intro _; simp
        | cons q ps ih => intro h; have := ih fun a ha => h a (by simp [ha]); have := h q (by simp); simp only [List.map_cons, List.sum_cons]; omega
      exact this ps fun q hq => (hp q (by simp [hq])).1
    simp only [List.map_cons, List.sum_cons] at hs
    have hst := exStep_get (l := l) (a := p.1) (f := p.2) hB p1 (by omega) (by omega) (by omega)
    rw [List.foldl_cons, fold_ex n ps (exStep l p.1 p.2) (B + p.2) (by rw [exStep_length]; exact hl) (fun v => ?_) (fun q hq => hp q (by simp [hq])) (by omega) v, hst v]
    · simp only [exZ, List.map_cons, List.sum_cons]; omega
    · rw [hst v]
      have := hB v
      split <;> split <;> omega
theorem exc_val (n : Nat) (al : List Arc) (fs : List Int) (hp : ∀ p ∈ al.zip fs, 0 ≤ p.2 ∧ (0 ≤ p.1.fr ∧ p.1.fr ≤ n) ∧ (0 ≤ p.1.to ∧ p.1.to ≤ n)) (hs : ((al.zip fs).map (·.2)).sum ≤ 9000000000000000000) (v : Nat) : (exc n al fs).getD v 0 = exZ (al.zip fs) v := by
  unfold exc
  have h0 : ∀ v, (List.replicate (n + 1) (0 : Int)).getD v 0 = 0 := by
    intro v; rw [List.getD_eq_getElem?_getD, List.getElem?_replicate]; split <;> rfl
  rw [fold_ex n (al.zip fs) _ 0 (by simp) (fun v => by rw [h0]; omega) hp (by omega) v, h0]
  omega
/-- Amounts within the capacities of a right network. -/
structure Ranged (N : Net) (f : List Int) : Prop where
  len : f.length = N.arcs.length
  all : ∀ p ∈ N.arcs.zip f, 0 ≤ p.2 ∧ p.2 ≤ p.1.cap
theorem withinZ_zero {N : Net} {f : List Int} : withinZ N f = 0 ↔ Ranged N f := by
  unfold withinZ
  constructor
  · intro h
    split at h
    · simp at h
    · rename_i h1
      split at h
      · rename_i h2; exact ⟨by omega, h2⟩
      · simp at h
  · rintro ⟨h1, h2⟩
    rw [if_neg (by omega), if_pos h2]
theorem sum_zip_le : ∀ (al : List Arc) (fs : List Int), (∀ p ∈ al.zip fs, 0 ≤ p.2 ∧ p.2 ≤ p.1.cap) → (∀ a ∈ al, 0 ≤ a.cap) → ((al.zip fs).map (·.2)).sum ≤ (al.map (·.cap)).sum
  | [], _, _, _ => by simp
  | a :: al, [], _, h => by
    have := sum_zip_le al [] (by simp) fun a ha => h a (by simp [ha])
    have := h a (by simp)
    simp at *; omega
  | a :: al, f :: fs, hp, h => by
    have := sum_zip_le al fs (fun p hp' => hp p (by simp [hp'])) fun a ha => h a (by simp [ha])
    have := hp (a, f) (by simp)
    simp only [List.zip_cons_cons, List.map_cons, List.sum_cons] at *; omega
theorem Ranged.exc {N : Net} {f : List Int} (h : Ranged N f) (hR : N.Right) (n : Nat) (hn : N.nodes = n) (v : Nat) : (exc n N.arcs f).getD v 0 = exZ (N.arcs.zip f) v := by
  refine exc_val n N.arcs f (fun p hp => ?_) ?_ v
  · have h1 := h.all p hp
    have h2 := hR.arc p.1 (List.of_mem_zip hp).1
    exact ⟨h1.1, by omega, by omega⟩
  · have h1 := sum_zip_le N.arcs f h.all fun a ha => (hR.arc a ha).2.2
    have h2 := hR.sum
    omega
open Classical in
/-- Whether amounts are a flow. -/
noncomputable def flowZ (N : Net) (f : List Int) : Int := if withinZ N f ≠ 0 then withinZ N f else if ∀ v : Int, 1 ≤ v ∧ v ≤ N.nodes → v ≠ N.src → v ≠ N.snk → exZ (N.arcs.zip f) v = 0 then 0 else 9
theorem flowZ_yes {N : Net} {f : List Int} (h : Ranged N f) (hz : ∀ v : Int, 1 ≤ v ∧ v ≤ N.nodes → v ≠ N.src → v ≠ N.snk → exZ (N.arcs.zip f) v = 0) : flowZ N f = 0 := by
  unfold flowZ; rw [if_neg (fun hc => hc (withinZ_zero.2 h)), if_pos hz]
theorem flowZ_no {N : Net} {f : List Int} (h : Ranged N f) (hz : ¬ ∀ v : Int, 1 ≤ v ∧ v ≤ N.nodes → v ≠ N.src → v ≠ N.snk → exZ (N.arcs.zip f) v = 0) : flowZ N f = 9 := by
  unfold flowZ; rw [if_neg (fun hc => hc (withinZ_zero.2 h)), if_neg hz]
/-- A flow of a right network. -/
structure IsFlow (N : Net) (f : List Int) : Prop extends Ranged N f where
  kept : ∀ v : Int, 1 ≤ v ∧ v ≤ N.nodes → v ≠ N.src → v ≠ N.snk → exZ (N.arcs.zip f) v = 0
theorem flowZ_zero {N : Net} {f : List Int} : flowZ N f = 0 ↔ IsFlow N f := by
  constructor
  · intro h
    by_cases hw : Ranged N f
    · refine ⟨hw, ?_⟩
      by_cases hz : ∀ v : Int, 1 ≤ v ∧ v ≤ N.nodes → v ≠ N.src → v ≠ N.snk → exZ (N.arcs.zip f) v = 0
      · exact hz
      · rw [flowZ_no hw hz] at h; simp at h
    · exfalso
      have h1 : withinZ N f ≠ 0 := fun h => hw (withinZ_zero.1 h)
      unfold flowZ at h; rw [if_pos h1] at h; exact h1 h
  · exact fun h => flowZ_yes h.toRanged h.kept
theorem fcheck_fn (N : Net) (hN : N.Fits) (hR : N.Right) (A : Option Addr) (c b o : Nat) (hA : N.arcs ≠ [] → A = some ⟨b, o, none⟩) (f : List Int) (F : Option Addr) (cf bf of : Nat) (hF : f ≠ [] → F = some ⟨bf, of, none⟩) (hf : ∀ x ∈ f, inB x) (hfl : f.length * 8 ≤ 140737488351232) :
    Fn 54 [netV N A c, .slice F f.length cf] [] [.seg b o (arcs N.arcs), .seg bf of (ints f)] fun v H' => v = .int .i64 (flowZ N f) ∧ H' = [] := by
  refine Fn_of Try.func54 rfl rfl fun w0 => ?_
  (repeat' (first | refine J_seq ?_ | refine J_skip ?_ | refine J_yes rfl ?_ | refine J_no rfl ?_))
  refine J_region ?_
  refine JL_box (cs := netC N A c) rfl rfl rfl (fun _ => rfl) fun p => ?_
  refine JL_all [] rfl ?_
  (repeat' (first | refine J_seq ?_ | refine J_skip ?_ | refine J_yes rfl ?_ | refine J_no rfl ?_))
  refine J_region ?_
  refine JL_val [] (v := netV N A c) (OpV_blk 0 rfl rfl rfl rfl) rfl ?_
  refine JL_run [] rfl ?_
  refine JL_callR [] (within_fn N hN hR A c b o hA f F cf bf of hF hf hfl) rfl rfl rfl rfl (by kernel_rfl) ⟨⟨1, _, by simp, rfl, shows_seg _ _ _, seen_seg⟩, ⟨2, _, by simp, rfl, shows_seg _ _ _, seen_seg⟩, trivial⟩ (fun _ => rfl) ?_
  rintro v H' ⟨rfl, rfl⟩
  refine ⟨rfl, ?_⟩
  refine JL_all [] rfl ?_
  (repeat' (first | refine J_seq ?_ | refine J_skip ?_ | refine J_yes rfl ?_ | refine J_no rfl ?_))
  refine J_region ?_
  refine JL_all [] rfl ?_
  refine J_dec rfl (fun h => ?_) (fun h => J_skip ?_)
  · (repeat' (first | refine J_seq ?_ | refine J_skip ?_ | refine J_yes rfl ?_ | refine J_no rfl ?_))
    refine J_region ?_
    refine JL_all [] rfl ?_
    refine J_drop [] (by decide) rfl (J_ret ⟨_, rfl, ?_, rfl⟩)
    unfold flowZ; rw [if_pos h]; rfl
  have hW : Ranged N f := withinZ_zero.1 (Classical.not_not.1 h)
  have hnn := hR.nodes
  obtain ⟨n, hn⟩ : ∃ n : Nat, N.nodes = n := ⟨N.nodes.toNat, by omega⟩
  have hX := hW.exc hR n hn
  have hXl := exc_length n N.arcs f
  have T := excesses_fn n N.src N.snk A F c cf b o bf of N.arcs f (by omega) hA (fun hne => hF (fun h0 => hne (by have := hW.len; rw [h0] at this; exact List.length_eq_zero_iff.1 this.symm))) hW.len hR.len (fun a ha => by have := hR.arc a ha; omega)
  rw [← hn] at T
  (repeat' (first | refine J_seq ?_ | refine J_skip ?_ | refine J_yes rfl ?_ | refine J_no rfl ?_))
  refine J_region ?_
  refine JL_val [] (v := netV N A c) (OpV_blk 0 rfl rfl rfl rfl) rfl ?_
  refine JL_run [] rfl ?_
  refine JL_callR [] T rfl rfl rfl (by rw [hW.len]; rfl) (by kernel_rfl) ⟨⟨1, _, by simp, rfl, shows_seg _ _ _, seen_seg⟩, ⟨2, _, by simp, rfl, shows_seg _ _ _, seen_seg⟩, trivial⟩ (fun _ => rfl) ?_
  rintro v H' ⟨g, rfl, rfl⟩
  refine ⟨rfl, ?_⟩
  refine JL_all [] rfl ?_
  obtain ⟨X, hXd⟩ : ∃ X, X = exc n N.arcs f := ⟨_, rfl⟩
  rw [← hXd] at hX hXl ⊢
  (repeat' (first | refine J_seq ?_ | refine J_skip ?_ | refine J_yes rfl ?_ | refine J_no rfl ?_))
  refine J_region ?_
  refine JL_run [] rfl ?_
  refine JL_val [] (OpV_blk 1 rfl rfl rfl rfl) rfl ?_
  refine JL_run [] rfl ?_
  refine JL_nil ?_
  rw [hn]
  refine J_block ?_
  refine J_loop (σ := Nat) (fun k => [(20, .int .i64 k), (19, .int .i64 n), (6, .slice (some ⟨g, 0, none⟩) (n + 1) (n + 1)), (2, .pointer (some ⟨p, 0, none⟩))])
    (fun k => [.own (.slice (some ⟨g, 0, none⟩) (n + 1) (n + 1)) 2 1 (n + 1) (ints X), blk p 27 (netC N A c)]) (fun k => k ≤ n ∧ ∀ v : Int, 1 ≤ v ∧ v ≤ k → v ≠ N.src → v ≠ N.snk → exZ (N.arcs.zip f) v = 0) (fun k => n - k)
    0 [0, 1] ⟨rfl, rfl, rfl, rfl, trivial⟩ (by decide) rfl ⟨Nat.zero_le _, fun v hv => by omega⟩ ?_
  rintro k ⟨hk, hall⟩
  (repeat' (first | refine J_seq ?_ | refine J_skip ?_ | refine J_yes rfl ?_ | refine J_no rfl ?_))
  refine J_region ?_
  refine JL_all [] rfl ?_
  refine J_seq (J_dec rfl (fun hlt => J_skip ?_) (fun hge => J_exit ?_))
  · have hlt : k < n := by omega
    refine J_seq (J_block ?_)
    (repeat' (first | refine J_seq ?_ | refine J_skip ?_ | refine J_yes rfl ?_ | refine J_no rfl ?_))
    refine J_region ?_
    refine JL_all [] rfl ?_
    (repeat' (first | refine J_seq ?_ | refine J_skip ?_ | refine J_yes rfl ?_ | refine J_no rfl ?_))
    refine J_region ?_
    refine JL_all [] rfl ?_
    refine J_set 8 (v' := .int .i64 ((k + 1 : Nat) : Int)) rfl (congrArg (Value.int .i64) (w64 (by omega))) ?_
    have hnext : (((k + 1 : Nat) : Int) ≠ N.src → ((k + 1 : Nat) : Int) ≠ N.snk → exZ (N.arcs.zip f) ((k + 1 : Nat) : Int) = 0) → ∀ v : Int, 1 ≤ v ∧ v ≤ ((k + 1 : Nat) : Int) → v ≠ N.src → v ≠ N.snk → exZ (N.arcs.zip f) v = 0 := by
      intro hz v hv h1 h2
      by_cases hvk : v ≤ k
      · exact hall v ⟨hv.1, hvk⟩ h1 h2
      · obtain rfl : v = ((k + 1 : Nat) : Int) := by omega
        exact hz h1 h2
    have hxk : ∃ x, X[k + 1]? = some x := ⟨X[k + 1]'(by omega), List.getElem?_eq_getElem (by omega)⟩
    obtain ⟨x, hx⟩ := hxk
    have hxv : x = exZ (N.arcs.zip f) ((k + 1 : Nat) : Int) := by
      have := hX (k + 1)
      rw [List.getD_eq_getElem?_getD, hx] at this
      exact this
    by_cases hz : ((k + 1 : Nat) : Int) ≠ N.src → ((k + 1 : Nat) : Int) ≠ N.snk → exZ (N.arcs.zip f) ((k + 1 : Nat) : Int) = 0
    · refine J_cut [(41, .bool false), (20, .int .i64 k), (19, .int .i64 n), (6, .slice (some ⟨g, 0, none⟩) (n + 1) (n + 1)), (2, .pointer (some ⟨p, 0, none⟩))]
        [.own (.slice (some ⟨g, 0, none⟩) (n + 1) (n + 1)) 2 1 (n + 1) (ints X), blk p 27 (netC N A c)] ?_ ?_
      · (repeat' (first | refine J_seq ?_ | refine J_skip ?_ | refine J_yes rfl ?_ | refine J_no rfl ?_))
        refine J_region ?_
        refine JL_run [] rfl ?_
        refine JL_val [] (OpV_blk 1 rfl rfl rfl rfl) rfl ?_
        refine JL_run [] rfl ?_
        by_cases h1 : ((k + 1 : Nat) : Int) = N.src
        · refine JL_set 29 (v' := .bool false) rfl (congrArg Value.bool (cdec_no (fun h => h h1))) ?_
          refine JL_all [4, 10] rfl ?_
          exact ⟨[0, 1], ⟨rfl, rfl, rfl, rfl, rfl, trivial⟩, by decide, rfl⟩
        refine JL_set 29 (v' := .bool true) rfl (congrArg Value.bool (cdec_yes h1)) ?_
        refine JL_run [4] rfl ?_
        refine JL_val [4] (OpV_blk 1 rfl rfl rfl rfl) rfl ?_
        refine JL_run [4] rfl ?_
        by_cases h2 : ((k + 1 : Nat) : Int) = N.snk
        · refine JL_set 35 (v' := .bool false) rfl (congrArg Value.bool (cdec_no (fun h => h h2))) ?_
          refine JL_all [4, 10] rfl ?_
          exact ⟨[0, 1], ⟨rfl, rfl, rfl, rfl, rfl, trivial⟩, by decide, rfl⟩
        refine JL_set 35 (v' := .bool true) rfl (congrArg Value.bool (cdec_yes h2)) ?_
        refine JL_run [4, 10] rfl ?_
        refine JL_val [4, 10] (idx1z rfl rfl rfl rfl rfl (by omega)) rfl ?_
        refine JL_val [4, 10] (OpV_own 0 rfl rfl rfl (readT_int hx)) rfl ?_
        refine JL_all [4, 10] rfl ?_
        exact ⟨[0, 1], ⟨congrArg some (congrArg Value.bool (cdec_no (fun h3 => h3 (hxv.trans (hz h1 h2))))), rfl, rfl, rfl, rfl, trivial⟩, by decide, rfl⟩
      · refine J_no rfl (J_skip ?_)
        (repeat' (first | refine J_seq ?_ | refine J_skip ?_ | refine J_yes rfl ?_ | refine J_no rfl ?_))
        refine J_region ?_
        refine JL_all [] rfl ?_
        refine ⟨k + 1, [0, 1], ⟨?_, rfl, rfl, rfl, trivial⟩, by decide, rfl, ⟨by omega, hnext hz⟩, by omega⟩
        show some (Value.int .i64 (IntKind.i64.wrap ((k : Int) + 1))) = _
        rw [w64 (by omega)]; rfl
    · have h1 : ((k + 1 : Nat) : Int) ≠ N.src := fun e => hz (fun h => absurd e h)
      have h2 : ((k + 1 : Nat) : Int) ≠ N.snk := fun e => hz (fun _ h => absurd e h)
      have h3 : x ≠ 0 := fun e => hz (fun _ _ => hxv.symm.trans e)
      (repeat' (first | refine J_seq ?_ | refine J_skip ?_ | refine J_yes rfl ?_ | refine J_no rfl ?_))
      refine J_region ?_
      refine JL_run [] rfl ?_
      refine JL_val [] (OpV_blk 1 rfl rfl rfl rfl) rfl ?_
      refine JL_run [] rfl ?_
      refine JL_set 29 (v' := .bool true) rfl (congrArg Value.bool (cdec_yes h1)) ?_
      refine JL_run [4] rfl ?_
      refine JL_val [4] (OpV_blk 1 rfl rfl rfl rfl) rfl ?_
      refine JL_run [4] rfl ?_
      refine JL_set 35 (v' := .bool true) rfl (congrArg Value.bool (cdec_yes h2)) ?_
      refine JL_run [4, 10] rfl ?_
      refine JL_val [4, 10] (idx1z rfl rfl rfl rfl rfl (by omega)) rfl ?_
      refine JL_val [4, 10] (OpV_own 0 rfl rfl rfl (readT_int hx)) rfl ?_
      refine JL_all [4, 10] rfl ?_
      refine J_dec rfl (fun _ => ?_) (fun h => absurd h3 h)
      (repeat' (first | refine J_seq ?_ | refine J_skip ?_ | refine J_yes rfl ?_ | refine J_no rfl ?_))
      refine J_region ?_
      refine JL_all [] rfl ?_
      refine J_drop [] (by decide) rfl (J_ret ⟨_, rfl, ?_, rfl⟩)
      rw [flowZ_no hW (fun hall => hz (hall _ (by omega)))]; rfl
  · (repeat' (first | refine J_seq ?_ | refine J_skip ?_ | refine J_yes rfl ?_ | refine J_no rfl ?_))
    refine J_region ?_
    refine JL_all [] rfl ?_
    refine J_drop [] (by decide) rfl (J_ret ⟨_, rfl, ?_, rfl⟩)
    rw [flowZ_yes hW (fun v hv => hall v (by omega))]; rfl
theorem fvalue_fn (N : Net) (hN : N.Fits) (hR : N.Right) (A : Option Addr) (c b o : Nat) (hA : N.arcs ≠ [] → A = some ⟨b, o, none⟩) (f : List Int) (F : Option Addr) (cf bf of : Nat) (hF : f ≠ [] → F = some ⟨bf, of, none⟩) (hf : ∀ x ∈ f, inB x) (hfl : f.length * 8 ≤ 140737488351232) :
    Fn 18 [netV N A c, .slice F f.length cf] [] [.seg b o (arcs N.arcs), .seg bf of (ints f)] fun v H' => (v = two (exZ (N.arcs.zip f) N.snk, 0) ∧ IsFlow N f ∨ v = two (0, flowZ N f) ∧ ¬ IsFlow N f) ∧ H' = [] := by
  refine Fn_of Try.func18 rfl rfl fun w0 => ?_
  (repeat' (first | refine J_seq ?_ | refine J_skip ?_ | refine J_yes rfl ?_ | refine J_no rfl ?_))
  refine J_region ?_
  refine JL_box (cs := netC N A c) rfl rfl rfl (fun _ => rfl) fun p => ?_
  refine JL_all [] rfl ?_
  (repeat' (first | refine J_seq ?_ | refine J_skip ?_ | refine J_yes rfl ?_ | refine J_no rfl ?_))
  refine J_region ?_
  refine JL_val [] (v := netV N A c) (OpV_blk 0 rfl rfl rfl rfl) rfl ?_
  refine JL_run [] rfl ?_
  refine JL_callR [] (fcheck_fn N hN hR A c b o hA f F cf bf of hF hf hfl) rfl rfl rfl rfl (by kernel_rfl) ⟨⟨1, _, by simp, rfl, shows_seg _ _ _, seen_seg⟩, ⟨2, _, by simp, rfl, shows_seg _ _ _, seen_seg⟩, trivial⟩ (fun _ => rfl) ?_
  rintro v H' ⟨rfl, rfl⟩
  refine ⟨rfl, ?_⟩
  refine JL_all [] rfl ?_
  (repeat' (first | refine J_seq ?_ | refine J_skip ?_ | refine J_yes rfl ?_ | refine J_no rfl ?_))
  refine J_region ?_
  refine JL_all [] rfl ?_
  refine J_dec rfl (fun h => ?_) (fun h => J_skip ?_)
  · (repeat' (first | refine J_seq ?_ | refine J_skip ?_ | refine J_yes rfl ?_ | refine J_no rfl ?_))
    refine J_region ?_
    refine JL_all [] rfl ?_
    refine J_drop [] (by decide) rfl (J_ret ⟨_, rfl, .inr ⟨rfl, fun hf => h (flowZ_zero.2 hf)⟩, rfl⟩)
  have hW : IsFlow N f := flowZ_zero.1 (Classical.not_not.1 h)
  have hnn := hR.nodes
  have hsk := hR.snk
  obtain ⟨n, hn⟩ : ∃ n : Nat, N.nodes = n := ⟨N.nodes.toNat, by omega⟩
  obtain ⟨s, hs⟩ : ∃ s : Nat, N.snk = s := ⟨N.snk.toNat, by omega⟩
  have hX := hW.toRanged.exc hR n hn s
  have hXl := exc_length n N.arcs f
  have T := excesses_fn n N.src N.snk A F c cf b o bf of N.arcs f (by omega) hA (fun hne => hF (fun h0 => hne (by have := hW.len; rw [h0] at this; exact List.length_eq_zero_iff.1 this.symm))) hW.len hR.len (fun a ha => by have := hR.arc a ha; omega)
  rw [← hn] at T
  obtain ⟨x, hx⟩ : ∃ x, (exc n N.arcs f)[s]? = some x := ⟨(exc n N.arcs f)[s]'(by omega), List.getElem?_eq_getElem (by omega)⟩
  have hxv : x = exZ (N.arcs.zip f) N.snk := by
    rw [List.getD_eq_getElem?_getD, hx] at hX
    rw [hs]; exact hX
  (repeat' (first | refine J_seq ?_ | refine J_skip ?_ | refine J_yes rfl ?_ | refine J_no rfl ?_))
  refine J_walk 9 [(0, true), (1, true), (3, true), (4, true), (2, false), (5, true), (6, false), (7, true), (8, true)] [0] (by kernel_rfl) (by decide) rfl ?_
  refine JW_still [] rfl (v := netV N A c) (OpV_blk 0 rfl rfl rfl rfl) rfl ?_
  refine JW_run [] rfl ?_
  refine JW_still [] rfl (OpV_blk 0 rfl rfl rfl rfl) rfl ?_
  refine JW_eff rfl ?_
  refine JL_callR [] T rfl rfl rfl (by rw [hW.len]; rfl) (by kernel_rfl) ⟨⟨1, _, by simp, rfl, shows_seg _ _ _, seen_seg⟩, ⟨2, _, by simp, rfl, shows_seg _ _ _, seen_seg⟩, trivial⟩ (fun _ => rfl) ?_
  rintro v H' ⟨g, rfl, rfl⟩
  refine ⟨rfl, JL_nil ⟨⟨[1], by decide, rfl⟩, ?_⟩⟩
  refine JW_set 17 (v' := .int .i64 s) rfl (congrArg (Value.int .i64) hs) ?_
  refine JW_still [] rfl (idx1z rfl rfl rfl rfl rfl (by omega)) rfl ?_
  refine JW_eff rfl ?_
  refine JL_val [] (OpV_own 0 rfl rfl rfl (readT_int hx)) rfl ?_
  refine JL_nil ⟨⟨[1], by decide, rfl⟩, ?_⟩
  refine JW_all [] rfl ?_
  refine JL_nil ?_
  exact J_drop [] (by decide) rfl (J_ret ⟨_, rfl, .inl ⟨by rw [hxv]; rfl, hW⟩, rfl⟩)
end Go.Proofs.Ytbhfbpeldcnpfaa
