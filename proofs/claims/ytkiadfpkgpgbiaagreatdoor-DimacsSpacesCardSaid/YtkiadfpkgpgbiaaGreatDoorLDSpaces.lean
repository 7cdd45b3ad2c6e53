
/- DimacsSpaces: other blanks, zeros ahead of numbers, and remarks change nothing of what is read. No condition but what the row lists. -/
import Derived.Test.YtkiadfpkgpgbiaaGreatDoorDimaE
import Derived.Test.YtkiadfpkgpgbiaaGreatDoorMade4
import Derived.Test.YtkiadfpkgpgbiaaGreatDoorRefV
import Derived.Test.YtkiadfpkgpgbiaaGreatDoorNSame
set_option linter.unusedVariables false
set_option linter.unusedSimpArgs false
namespace Go.Proofs.YtkiadfpkgpgbiaaGreatDoor
open Go.RowKit
open Lib
def kindsL : List (List UInt8) := [[32], [9], [32, 32], [32, 13, 32], [9, 9, 32, 48], [32, 48, 48]]
def SpI (a : List UInt8) (i : Nat) (m : List UInt8) : Prop := (∀ m', Gen (a.drop i) m' → Gen a (m ++ m')) ∧ m.length ≤ 16 * i
theorem drop_at {a : List UInt8} {i : Nat} {x : UInt8} (h : a[i]? = some x) : a.drop i = x :: a.drop (i + 1) := by
  obtain ⟨hl, e⟩ := List.getElem?_eq_some_iff.1 h
  rw [List.drop_eq_getElem_cons hl, e]
theorem SpI.step {a m k : List UInt8} {i : Nat} (h : SpI a i m) (hk : k.length ≤ 16) (hg : ∀ m', Gen (a.drop (i + 1)) m' → Gen (a.drop i) (k ++ m')) : SpI a (i + 1) (m ++ k) :=
  ⟨fun m' hm => by rw [List.append_assoc]; exact h.1 _ (hg m' hm), by rw [List.length_append]; have := h.2; omega⟩
theorem kind_four {a : List UInt8} {i : Nat} (h : a[i]? = some 32) {j : Nat} {k : List UInt8} (hj : j < 4) (hk : kindsL[j]? = some k) (m' : List UInt8) (hg : Gen (a.drop (i + 1)) m') : Gen (a.drop i) (k ++ m') := by
  rw [drop_at h]
  match j, hj with
  | 0, _ => obtain rfl := Option.some.inj hk; exact .one _ _ hg
  | 1, _ => obtain rfl := Option.some.inj hk; exact .tab _ _ hg
  | 2, _ => obtain rfl := Option.some.inj hk; exact .two _ _ hg
  | 3, _ => obtain rfl := Option.some.inj hk; exact .ret _ _ hg
theorem kind_six {a : List UInt8} {i : Nat} (h : a[i]? = some 32) {d : UInt8} (hd : a[i + 1]? = some d) (hdd : digB d = true) {j : Nat} {k : List UInt8} (hj : j < 6) (hk : kindsL[j]? = some k) (m' : List UInt8) (hg : Gen (a.drop (i + 1)) m') : Gen (a.drop i) (k ++ m') := by
  by_cases h4 : j < 4
  · exact kind_four h h4 hk m' hg
  · rw [drop_at h]
    rw [drop_at hd] at hg ⊢
    rcases (by omega : j = 4 ∨ j = 5) with rfl | rfl
    · obtain rfl := Option.some.inj hk; exact .zero _ _ _ hdd hg
    · obtain rfl := Option.some.inj hk; exact .zeros _ _ _ hdd hg
theorem kind_len {j : Nat} {k : List UInt8} (hk : kindsL[j]? = some k) : k.length ≤ 4 := by
  have h0 : ∀ k ∈ kindsL, k.length ≤ 4 := by decide
  exact h0 k (List.mem_of_getElem? hk)
theorem print_last (N : Net) : (printL N).getLast? = some 10 := by
  have : ∀ (ls : List (List UInt8)) (x : List UInt8), ((x :: ls).map fun x => x ++ [10]).flatten.getLast? = some 10 := by
    intro ls
    induction ls with
    | nil => intro x; simp
    | cons y ls ih =>
      intro x
      have h1 := ih y
      rw [List.map_cons, List.flatten_cons, List.getLast?_append, h1]
      rfl
  rw [printL_eq]
  exact this _ _
theorem not_last {N : Net} {i : Nat} (h : (printL N)[i]? = some 32) : i + 1 < (printL N).length := by
  have h1 := print_last N
  obtain ⟨hl, _⟩ := List.getElem?_eq_some_iff.1 h
  rw [List.getLast?_eq_getElem?] at h1
  by_cases e : i = (printL N).length - 1
  · rw [← e, h] at h1; cases h1
  · omega
set_option maxHeartbeats 1000000 in
theorem dimacsSpaces_fn (V : LibV) (nodes : Int) (hn : inB nodes) (ends : Int) (he : inB ends) (A : Option Addr) (c b o : Nat) (l : List Arc) (hA : l ≠ [] → A = some ⟨b, o, none⟩) (hl : ∀ x ∈ l, inB x.fr ∧ inB x.to ∧ inB x.cap) (hs : l.length * 24 ≤ 140737488351232)
    (B : Option Addr) (cb bb ob : Nat) (bl : List Int) (hB : bl ≠ [] → B = some ⟨bb, ob, none⟩) (hbl : ∀ x ∈ bl, inB x) (hbs : bl.length * 8 ≤ 140737488351232) :
    Fn 6 [.int .i64 nodes, .int .i64 ends, .slice A l.length c, .slice B bl.length cb] [] ([.seg b o (arcs l), .seg bb ob (ints bl)] ++ V.heap) fun v _ => v = .bool true := by
  refine Fn_of Tryz.func6 rfl rfl fun w0 => ?_
  (repeat' (first | refine J_seq ?_ | refine J_skip ?_ | refine J_yes rfl ?_ | refine J_no rfl ?_))
  refine J_region ?_
  refine JL_all [] rfl ?_
  (repeat' (first | refine J_seq ?_ | refine J_skip ?_ | refine J_yes rfl ?_ | refine J_no rfl ?_))
  refine J_region ?_
  refine JL_callR [] (shown4_fn V) rfl rfl rfl rfl (by kernel_rfl) ⟨⟨2, by simp, rfl⟩, ⟨3, by simp, rfl⟩, ⟨4, by simp, rfl⟩, trivial⟩ (fun _ => rfl) ?_
  rintro v H' ⟨rfl, rfl⟩
  refine ⟨rfl, ?_⟩
  refine JL_all [] rfl ?_
  refine J_seq ?_
  (repeat' (first | refine J_seq ?_ | refine J_skip ?_ | refine J_yes rfl ?_ | refine J_no rfl ?_))
  refine J_region ?_
  refine JL_run [] rfl ?_
  refine JL_set 24 (v' := .bool false) rfl rfl ?_
  refine JL_all [2] rfl ?_
  refine J_dec rfl (fun _ => ?_) (fun h200 => J_skip ?_)
  · (repeat' (first | refine J_seq ?_ | refine J_skip ?_ | refine J_yes rfl ?_ | refine J_no rfl ?_))
    refine J_region ?_
    refine JL_all [] rfl ?_
    exact J_ret ⟨_, rfl, rfl⟩
  have h200' : bl.length ≤ 200 := by
    have h' : ¬ (200 : Int) < bl.length := h200
    omega
  (repeat' (first | refine J_seq ?_ | refine J_skip ?_ | refine J_yes rfl ?_ | refine J_no rfl ?_))
  refine J_region ?_
  refine JL_run [] rfl ?_
  refine JL_callR [] (made4_fn nodes ends hn he A c b o l hA hl (by omega)) rfl rfl rfl rfl (by kernel_rfl) ⟨⟨0, _, by simp, rfl, shows_seg _ _ _, seen_seg⟩, trivial⟩ (fun _ => rfl) ?_
  rintro v H' ⟨N, A1, c1, hR, hN9, hN24, _, rfl, rfl⟩
  refine ⟨rfl, ?_⟩
  refine JL_alloc rfl rfl rfl (fun _ => rfl) fun p10 => ?_
  refine JL_store 0 rfl rfl rfl rfl rfl [] rfl ?_
  refine JL_all [] rfl ?_
  have hF := hR.fits4
  have hGz := hR.check
  refine J_know (own_is 1 rfl) (fun ho1 => ?_)
  obtain ⟨g1, hg1⟩ : ∃ g, N.arcs ≠ [] → A1 = some ⟨g, 0, none⟩ := by
    by_cases h0 : N.arcs = []
    · exact ⟨0, fun k => absurd h0 k⟩
    · obtain ⟨g, e⟩ := ho1.2.2.1 (List.length_pos_iff.2 h0)
      exact ⟨g, fun _ => e⟩
  have hg1' : arcs N.arcs ≠ [] → A1 = some ⟨g1, 0, none⟩ := fun h => hg1 (by rintro e; rw [e] at h; exact h rfl)
  have P1 := print_fn V N hF A1 c1 g1 0 hg1
  unfold printV at P1
  rw [if_pos hGz, if_pos hGz] at P1
  have hHl := head_len N hF
  have hAl := arcs_len N hF N.arcs fun a h => h
  have hPl : (printL N).length ≤ 2080 := by unfold printL; rw [List.length_append]; omega
  (repeat' (first | refine J_seq ?_ | refine J_skip ?_ | refine J_yes rfl ?_ | refine J_no rfl ?_))
  refine J_region ?_
  refine JL_val [] (v := netV N A1 c1) (OpV_blk (i := 0) 0 rfl rfl rfl rfl) rfl ?_
  refine JL_callR [] P1 rfl rfl rfl rfl (by kernel_rfl) ⟨⟨1, _, by simp, rfl, shows_ownS hg1', seen_ownS hg1'⟩, ⟨4, by simp, rfl⟩, ⟨5, by simp, rfl⟩, ⟨6, by simp, rfl⟩, trivial⟩ (fun _ => rfl) ?_
  rintro v H' ⟨rfl, rfl⟩
  refine ⟨rfl, ?_⟩
  refine JL_all [] rfl ?_
  refine J_seq ?_
  (repeat' (first | refine J_seq ?_ | refine J_skip ?_ | refine J_yes rfl ?_ | refine J_no rfl ?_))
  refine J_region ?_
  refine JL_all [] rfl ?_
  refine J_dec rfl (fun h => absurd rfl h) (fun _ => J_skip ?_)
  (repeat' (first | refine J_seq ?_ | refine J_skip ?_ | refine J_yes rfl ?_ | refine J_no rfl ?_))
  refine J_region ?_
  refine JL_run [] rfl ?_
  refine JL_lit rfl rfl rfl rfl rfl rfl rfl (fun _ => rfl) fun gk => ?_
  refine JL_all [] rfl ?_
  (repeat' (first | refine J_seq ?_ | refine J_skip ?_ | refine J_yes rfl ?_ | refine J_no rfl ?_))
  refine J_region ?_
  refine JL_all [] rfl ?_
  (repeat' (first | refine J_seq ?_ | refine J_skip ?_ | refine J_yes rfl ?_ | refine J_no rfl ?_))
  refine J_region ?_
  refine JL_all [] rfl ?_
  (repeat' (first | refine J_seq ?_ | refine J_skip ?_ | refine J_yes rfl ?_ | refine J_no rfl ?_))
  refine J_region ?_
  refine JL_all [] rfl ?_
  (repeat' (first | refine J_seq ?_ | refine J_skip ?_ | refine J_yes rfl ?_ | refine J_no rfl ?_))
  refine J_block ?_
  refine J_loop (σ := Nat × Nat × List UInt8) (fun t => [(16, .int .i64 t.1), (15, .int .i64 t.2.1), (14, str t.2.2), (13, .slice (some ⟨gk, 0, none⟩) 6 6), (11, str (printL N)), (3, .slice B bl.length cb), (10, .pointer (some ⟨p10, 0, none⟩))])
    (fun _ => [blk gk 9 (strs kindsL), blk p10 24 (netC N A1 c1), .own (.slice A1 N.arcs.length c1) 44 3 N.arcs.length (arcs N.arcs), .seg bb ob (ints bl)] ++ V.heap) (fun t => t.1 ≤ (printL N).length ∧ t.2.1 ≤ bl.length ∧ SpI (printL N) t.1 t.2.2) (fun t => (printL N).length - t.1)
    (0, 0, []) [0, 1, 2, 4, 5, 6, 7] ⟨rfl, rfl, rfl, rfl, rfl, rfl, rfl, trivial⟩ (by decide) rfl ⟨Nat.zero_le _, Nat.zero_le _, fun m' h => h, by simp⟩ ?_
  rintro ⟨i, bn, m⟩ ⟨hi, hb, hI⟩
  simp only at hi hb hI
  have hml := hI.2
  refine J_seq ?_
  (repeat' (first | refine J_seq ?_ | refine J_skip ?_ | refine J_yes rfl ?_ | refine J_no rfl ?_))
  refine J_region ?_
  refine JL_all [] rfl ?_
  refine J_dec rfl (fun hlt => J_skip ?_) (fun hge => J_exit ?_)
  · have hlt' : i < (printL N).length := by
      have h' : (i : Int) < (printL N).length := hlt
      omega
    obtain ⟨x, hx⟩ : ∃ x, (printL N)[i]? = some x := ⟨(printL N)[i], List.getElem?_eq_getElem hlt'⟩
    refine J_seq (J_block ?_)
    have hI1 : IntKind.i64.wrap ((i : Int) + 1) = ((i + 1 : Nat) : Int) := by rw [w64 (by omega)]; rfl
    refine J_seq ?_
    (repeat' (first | refine J_seq ?_ | refine J_skip ?_ | refine J_yes rfl ?_ | refine J_no rfl ?_))
    refine J_region ?_
    refine JL_run [] rfl ?_
    refine JL_val [] (OpV_chr rfl rfl rfl rfl hx) rfl ?_
    refine JL_run [] rfl ?_
    have rest : ∀ (E : Env) , True := fun _ => trivial
    by_cases hsp : x = 32 ∧ bn < bl.length
    · obtain ⟨rfl, hbl'⟩ := hsp
      obtain ⟨y, hy⟩ : ∃ y, bl[bn]? = some y := ⟨bl[bn], List.getElem?_eq_getElem hbl'⟩
      obtain rfl := hB (by rintro rfl; simp at hbl')
      have hyB := hbl y (List.mem_of_getElem? hy)
      have p6 := pickZ_in (c := y) (n := 6) (by decide)
      have p4 := pickZ_in (c := y) (n := 4) (by decide)
      obtain ⟨k6, hk6, hk6'⟩ : ∃ k : Nat, pickZ y 6 = k ∧ k < 6 := ⟨(pickZ y 6).toNat, by omega, by omega⟩
      obtain ⟨k4, hk4, hk4'⟩ : ∃ k : Nat, pickZ y 4 = k ∧ k < 4 := ⟨(pickZ y 4).toNat, by omega, by omega⟩
      obtain ⟨K6, hK6⟩ : ∃ k, kindsL[k6]? = some k := ⟨kindsL[k6]'(by simpa [kindsL] using hk6'), List.getElem?_eq_getElem _⟩
      obtain ⟨K4, hK4⟩ : ∃ k, kindsL[k4]? = some k := ⟨kindsL[k4]'(by simp [kindsL]; omega), List.getElem?_eq_getElem _⟩
      have hnl := not_last hx
      obtain ⟨d, hd⟩ : ∃ d, (printL N)[i + 1]? = some d := ⟨(printL N)[i + 1], List.getElem?_eq_getElem hnl⟩
      refine JL_set 52 (v' := .bool true) rfl (congrArg Value.bool (cdec_yes rfl)) ?_
      refine JL_all [4] rfl ?_
      refine J_dec rfl (fun _ => ?_) (fun h => absurd (show (bn : Int) < bl.length by omega) h)
      refine J_seq ?_
      (repeat' (first | refine J_seq ?_ | refine J_skip ?_ | refine J_yes rfl ?_ | refine J_no rfl ?_))
      refine J_region ?_
      refine JL_run [] rfl ?_
      refine JL_val [] (idx1 rfl rfl rfl rfl rfl hbl') rfl ?_
      refine JL_val [] (ldseg 3 rfl rfl rfl rfl (readT_int' hy)) rfl ?_
      refine JL_callR [] (pick4_fn hyB (by decide)) rfl rfl rfl rfl (by kernel_rfl) trivial (fun _ => rfl) ?_
      rintro v H' ⟨rfl, rfl⟩
      refine ⟨rfl, ?_⟩
      refine JL_set 63 (v' := .int .i64 (k6 : Int)) rfl (by rw [hk6]) ?_
      refine JL_val [] (idx1z rfl rfl rfl rfl rfl hk6') rfl ?_
      refine JL_val [] (OpV_blk 0 rfl rfl rfl (readT_str hK6)) rfl ?_
      refine JL_all [] rfl ?_
      refine J_cutE (σ := { K : List UInt8 // K.length ≤ 4 ∧ ∀ m', Gen ((printL N).drop (i + 1)) m' → Gen ((printL N).drop i) (K ++ m') }) (fun K => [(17, str K.1), (16, .int .i64 i), (15, .int .i64 bn), (14, str m), (13, .slice (some ⟨gk, 0, none⟩) 6 6), (11, str (printL N)), (3, .slice (some ⟨bb, ob, none⟩) bl.length cb), (10, .pointer (some ⟨p10, 0, none⟩))])
        (fun _ => [blk gk 9 (strs kindsL), blk p10 24 (netC N A1 c1), .own (.slice A1 N.arcs.length c1) 44 3 N.arcs.length (arcs N.arcs), .seg bb ob (ints bl)] ++ V.heap) ?_ ?_
      · refine J_seq ?_
        (repeat' (first | refine J_seq ?_ | refine J_skip ?_ | refine J_yes rfl ?_ | refine J_no rfl ?_))
        refine J_region ?_
        refine JL_run [] rfl ?_
        refine JL_set 71 (v' := .bool true) rfl (congrArg Value.bool (cdec_yes (by rw [hI1]; show ((i + 1 : Nat) : Int) < (printL N).length; omega))) ?_
        refine JL_run [5] rfl ?_
        refine JL_set 74 (v' := .int .i64 ((i + 1 : Nat) : Int)) rfl (by rw [hI1]) ?_
        refine JL_val [5] (OpV_chr rfl rfl rfl rfl hd) rfl ?_
        refine JL_run [5] rfl ?_
        by_cases hd1 : (d.toNat : Int) < 48
        · refine JL_set 77 (v' := .bool true) rfl (congrArg Value.bool (cdec_yes hd1)) ?_
          refine JL_all [5, 11] rfl ?_
          refine J_yes rfl ?_
          (repeat' (first | refine J_seq ?_ | refine J_skip ?_ | refine J_yes rfl ?_ | refine J_no rfl ?_))
          refine J_region ?_
          refine JL_run [] rfl ?_
          refine JL_val [] (idx1 rfl rfl rfl rfl rfl hbl') rfl ?_
          refine JL_val [] (ldseg 3 rfl rfl rfl rfl (readT_int' hy)) rfl ?_
          refine JL_callR [] (pick4_fn hyB (by decide)) rfl rfl rfl rfl (by kernel_rfl) trivial (fun _ => rfl) ?_
          rintro v H' ⟨rfl, rfl⟩
          refine ⟨rfl, ?_⟩
          refine JL_set 90 (v' := .int .i64 (k4 : Int)) rfl (by rw [hk4]) ?_
          refine JL_val [] (idx1z rfl rfl rfl rfl rfl (show k4 < 6 by omega)) rfl ?_
          refine JL_val [] (OpV_blk 0 rfl rfl rfl (readT_str hK4)) rfl ?_
          refine JL_all [] rfl ?_
          exact ⟨⟨K4, kind_len hK4, fun m' hm => kind_four hx hk4' hK4 m' hm⟩, ⟨rfl, rfl, rfl, rfl, rfl, rfl, rfl, rfl, trivial⟩, Fit.refl⟩
        · refine JL_set 77 (v' := .bool false) rfl (congrArg Value.bool (cdec_no hd1)) ?_
          refine JL_run [5, 11] rfl ?_
          refine JL_set 80 (v' := .int .i64 ((i + 1 : Nat) : Int)) rfl (by rw [hI1]) ?_
          refine JL_val [5, 11] (OpV_chr rfl rfl rfl rfl hd) rfl ?_
          refine JL_all [5, 11] rfl ?_
          refine J_dec rfl (fun hd2 => ?_) (fun hd2 => J_skip ?_)
          · (repeat' (first | refine J_seq ?_ | refine J_skip ?_ | refine J_yes rfl ?_ | refine J_no rfl ?_))
            refine J_region ?_
            refine JL_run [] rfl ?_
            refine JL_val [] (idx1 rfl rfl rfl rfl rfl hbl') rfl ?_
            refine JL_val [] (ldseg 3 rfl rfl rfl rfl (readT_int' hy)) rfl ?_
            refine JL_callR [] (pick4_fn hyB (by decide)) rfl rfl rfl rfl (by kernel_rfl) trivial (fun _ => rfl) ?_
            rintro v H' ⟨rfl, rfl⟩
            refine ⟨rfl, ?_⟩
            refine JL_set 90 (v' := .int .i64 (k4 : Int)) rfl (by rw [hk4]) ?_
            refine JL_val [] (idx1z rfl rfl rfl rfl rfl (show k4 < 6 by omega)) rfl ?_
            refine JL_val [] (OpV_blk 0 rfl rfl rfl (readT_str hK4)) rfl ?_
            refine JL_all [] rfl ?_
            exact ⟨⟨K4, kind_len hK4, fun m' hm => kind_four hx hk4' hK4 m' hm⟩, ⟨rfl, rfl, rfl, rfl, rfl, rfl, rfl, rfl, trivial⟩, Fit.refl⟩
          · have hd2' : ¬ (57 : Int) < d.toNat := hd2
            exact ⟨⟨K6, kind_len hK6, fun m' hm => kind_six hx hd (by unfold digB; exact decide_eq_true (by omega)) hk6' hK6 m' hm⟩, ⟨rfl, rfl, rfl, rfl, rfl, rfl, rfl, rfl, trivial⟩, Fit.refl⟩
      rintro ⟨K, hKl, hKg⟩
      refine J_seq ?_
      (repeat' (first | refine J_seq ?_ | refine J_skip ?_ | refine J_yes rfl ?_ | refine J_no rfl ?_))
      refine J_region ?_
      refine JL_run [] rfl ?_
      refine JL_val [] (OpV_cat rfl rfl rfl (by simp only; omega)) rfl ?_
      refine JL_all [] rfl ?_
      (repeat' (first | refine J_seq ?_ | refine J_skip ?_ | refine J_yes rfl ?_ | refine J_no rfl ?_))
      refine J_region ?_
      refine JL_all [] rfl ?_
      refine J_exit ?_
      (repeat' (first | refine J_seq ?_ | refine J_skip ?_ | refine J_yes rfl ?_ | refine J_no rfl ?_))
      refine J_region ?_
      refine JL_all [] rfl ?_
      refine ⟨(i + 1, bn + 1, m ++ K), [0, 1, 2, 3, 4, 5, 6], ⟨?_, ?_, rfl, rfl, rfl, rfl, rfl, trivial⟩, by decide, rfl, ⟨by simp only; omega, by simp only; omega, hI.step (by omega) hKg⟩, by simp only; omega⟩
      · exact congrArg (fun z => some (Value.int .i64 z)) hI1
      · exact congrArg (fun z => some (Value.int .i64 z)) ((w64 (n := (bn : Int) + 1) (by omega)).trans rfl)
    have hone : ((printL N).drop i).take (i + 1 - i) = [x] := by rw [drop_at hx, show i + 1 - i = 1 by omega]; rfl
    by_cases h32 : x = 32
    · have hnb : ¬ bn < bl.length := fun h => hsp ⟨h32, h⟩
      refine JL_set 52 (v' := .bool true) rfl (congrArg Value.bool (cdec_yes (by rw [h32]; rfl))) ?_
      refine JL_all [4] rfl ?_
      refine J_dec rfl (fun h => absurd (show (bn : Int) < bl.length from h) (by omega)) (fun _ => J_skip ?_)
      (repeat' (first | refine J_seq ?_ | refine J_skip ?_ | refine J_yes rfl ?_ | refine J_no rfl ?_))
      refine J_region ?_
      refine JL_run [] rfl ?_
      refine JL_set 102 (v' := .int .i64 ((i + 1 : Nat) : Int)) rfl (by rw [hI1]) ?_
      refine JL_val [] (OpV_sub rfl rfl rfl rfl rfl (by omega) (by omega)) rfl ?_
      rw [hone]
      refine JL_val [] (OpV_cat rfl rfl rfl (by simp; omega)) rfl ?_
      refine JL_all [] rfl ?_
      refine J_seq ?_
      (repeat' (first | refine J_seq ?_ | refine J_skip ?_ | refine J_yes rfl ?_ | refine J_no rfl ?_))
      refine J_region ?_
      refine JL_run [] rfl ?_
      refine JL_val [] (OpV_chr rfl rfl rfl rfl hx) rfl ?_
      refine JL_run [] rfl ?_
      refine JL_set 109 (v' := .bool false) rfl (congrArg Value.bool (cdec_no (by rw [h32]; decide))) ?_
      refine JL_all [4, 10] rfl ?_
      refine J_no rfl (J_skip ?_)
      (repeat' (first | refine J_seq ?_ | refine J_skip ?_ | refine J_yes rfl ?_ | refine J_no rfl ?_))
      refine J_region ?_
      refine JL_all [] rfl ?_
      refine ⟨(i + 1, bn, m ++ ([x])), [0, 1, 2, 3, 4, 5, 6], ⟨?_, rfl, rfl, rfl, rfl, rfl, rfl, trivial⟩, by decide, rfl, ⟨by simp only; omega, hb, hI.step (by simp [remk]) (fun m' hm => by rw [drop_at hx, h32]; exact .one _ _ hm)⟩, by simp only; omega⟩
      exact congrArg (fun z => some (Value.int .i64 z)) hI1
    refine JL_set 52 (v' := .bool false) rfl (congrArg Value.bool (cdec_no (fun h => h32 (UInt8.toNat.inj (by have h' : (x.toNat : Int) = 32 := h; show x.toNat = 32; omega))))) ?_
    refine JL_all [4] rfl ?_
    refine J_no rfl (J_skip ?_)
    (repeat' (first | refine J_seq ?_ | refine J_skip ?_ | refine J_yes rfl ?_ | refine J_no rfl ?_))
    refine J_region ?_
    refine JL_run [] rfl ?_
    refine JL_set 102 (v' := .int .i64 ((i + 1 : Nat) : Int)) rfl (by rw [hI1]) ?_
    refine JL_val [] (OpV_sub rfl rfl rfl rfl rfl (by omega) (by omega)) rfl ?_
    rw [hone]
    refine JL_val [] (OpV_cat rfl rfl rfl (by simp; omega)) rfl ?_
    refine JL_all [] rfl ?_
    refine J_seq ?_
    (repeat' (first | refine J_seq ?_ | refine J_skip ?_ | refine J_yes rfl ?_ | refine J_no rfl ?_))
    refine J_region ?_
    refine JL_run [] rfl ?_
    refine JL_val [] (OpV_chr rfl rfl rfl rfl hx) rfl ?_
    refine JL_run [] rfl ?_
    by_cases h10 : x = 10
    · refine JL_set 109 (v' := .bool true) rfl (congrArg Value.bool (cdec_yes (by rw [h10]; rfl))) ?_
      refine JL_run [4] rfl ?_
      by_cases hbl' : bn < bl.length
      · obtain ⟨y, hy⟩ : ∃ y, bl[bn]? = some y := ⟨bl[bn], List.getElem?_eq_getElem hbl'⟩
        obtain rfl := hB (by rintro rfl; simp at hbl')
        have hyB := hbl y (List.mem_of_getElem? hy)
        refine JL_set 115 (v' := .bool true) rfl (congrArg Value.bool (cdec_yes (show (bn : Int) < bl.length by omega))) ?_
        refine JL_run [4, 10] rfl ?_
        refine JL_val [4, 10] (idx1 rfl rfl rfl rfl rfl hbl') rfl ?_
        refine JL_val [4, 10] (ldseg 3 rfl rfl rfl rfl (readT_int' hy)) rfl ?_
        refine JL_callR [4, 10] (pick4_fn hyB (by decide)) rfl rfl rfl rfl (by kernel_rfl) trivial (fun _ => rfl) ?_
        rintro v H' ⟨rfl, rfl⟩
        refine ⟨rfl, ?_⟩
        refine JL_all [4, 10] rfl ?_
        refine J_dec rfl (fun _ => ?_) (fun _ => J_skip ?_)
        · (repeat' (first | refine J_seq ?_ | refine J_skip ?_ | refine J_yes rfl ?_ | refine J_no rfl ?_))
          refine J_region ?_
          refine JL_run [] rfl ?_
          refine JL_val [] (OpV_cat (m := remk) rfl rfl rfl (by simp [remk]; omega)) rfl ?_
          refine JL_all [] rfl ?_
          refine J_set 14 (v' := str (m ++ ([x] ++ remk))) rfl (congrArg str (by simp)) ?_
          (repeat' (first | refine J_seq ?_ | refine J_skip ?_ | refine J_yes rfl ?_ | refine J_no rfl ?_))
          refine J_region ?_
          refine JL_all [] rfl ?_
          refine ⟨(i + 1, bn, m ++ ([x] ++ remk)), [0, 1, 2, 3, 4, 5, 6], ⟨?_, rfl, rfl, rfl, rfl, rfl, rfl, trivial⟩, by decide, rfl, ⟨by simp only; omega, hb, hI.step (by simp [remk]) (fun m' hm => by rw [drop_at hx, h10]; exact .rem _ _ hm)⟩, by simp only; omega⟩
          exact congrArg (fun z => some (Value.int .i64 z)) hI1
        · (repeat' (first | refine J_seq ?_ | refine J_skip ?_ | refine J_yes rfl ?_ | refine J_no rfl ?_))
          refine J_region ?_
          refine JL_all [] rfl ?_
          refine ⟨(i + 1, bn, m ++ ([x])), [0, 1, 2, 3, 4, 5, 6], ⟨?_, rfl, rfl, rfl, rfl, rfl, rfl, trivial⟩, by decide, rfl, ⟨by simp only; omega, hb, hI.step (by simp [remk]) (fun m' hm => by rw [drop_at hx, h10]; exact .nl _ _ hm)⟩, by simp only; omega⟩
          exact congrArg (fun z => some (Value.int .i64 z)) hI1
      · refine JL_set 115 (v' := .bool false) rfl (congrArg Value.bool (cdec_no (fun h => hbl' (by have h' : (bn : Int) < bl.length := h; omega)))) ?_
        refine JL_all [4, 10] rfl ?_
        refine J_no rfl (J_skip ?_)
        (repeat' (first | refine J_seq ?_ | refine J_skip ?_ | refine J_yes rfl ?_ | refine J_no rfl ?_))
        refine J_region ?_
        refine JL_all [] rfl ?_
        refine ⟨(i + 1, bn, m ++ ([x])), [0, 1, 2, 3, 4, 5, 6], ⟨?_, rfl, rfl, rfl, rfl, rfl, rfl, trivial⟩, by decide, rfl, ⟨by simp only; omega, hb, hI.step (by simp [remk]) (fun m' hm => by rw [drop_at hx, h10]; exact .nl _ _ hm)⟩, by simp only; omega⟩
        exact congrArg (fun z => some (Value.int .i64 z)) hI1
    · refine JL_set 109 (v' := .bool false) rfl (congrArg Value.bool (cdec_no (fun h => h10 (UInt8.toNat.inj (by have h' : (x.toNat : Int) = 10 := h; show x.toNat = 10; omega))))) ?_
      refine JL_all [4, 10] rfl ?_
      refine J_no rfl (J_skip ?_)
      (repeat' (first | refine J_seq ?_ | refine J_skip ?_ | refine J_yes rfl ?_ | refine J_no rfl ?_))
      refine J_region ?_
      refine JL_all [] rfl ?_
      refine ⟨(i + 1, bn, m ++ ([x])), [0, 1, 2, 3, 4, 5, 6], ⟨?_, rfl, rfl, rfl, rfl, rfl, rfl, trivial⟩, by decide, rfl, ⟨by simp only; omega, hb, hI.step (by simp [remk]) (fun m' hm => by rw [drop_at hx]; exact .chr _ _ _ h32 h10 hm)⟩, by simp only; omega⟩
      exact congrArg (fun z => some (Value.int .i64 z)) hI1
  have hil : i = (printL N).length := by
    have h' : ¬ (i : Int) < (printL N).length := hge
    omega
  have hgen : Gen (printL N) m := by
    have := hI.1 [] (by rw [hil, List.drop_length]; exact .nil)
    rwa [List.append_nil] at this
  have T := parse_fn V m (by omega)
  rw [parse_gen hR hgen] at T
  (repeat' (first | refine J_seq ?_ | refine J_skip ?_ | refine J_yes rfl ?_ | refine J_no rfl ?_))
  refine J_region ?_
  refine JL_run [] rfl ?_
  refine JL_callR [] T rfl rfl rfl rfl (by kernel_rfl) ⟨⟨4, by simp, rfl⟩, ⟨5, by simp, rfl⟩, ⟨6, by simp, rfl⟩, trivial⟩ (fun _ => rfl) ?_
  rintro v H' ⟨A2, c2, rfl, rfl⟩
  refine ⟨rfl, ?_⟩
  refine JL_run [] rfl ?_
  refine JL_alloc rfl rfl rfl (fun _ => rfl) fun p18 => ?_
  refine JL_store 0 rfl rfl rfl rfl rfl [] rfl ?_
  refine JL_all [] rfl ?_
  refine J_know (own_is 1 rfl) (fun ho2 => ?_)
  obtain ⟨g2, hg2⟩ : ∃ g, N.arcs ≠ [] → A2 = some ⟨g, 0, none⟩ := by
    by_cases h0 : N.arcs = []
    · exact ⟨0, fun k => absurd h0 k⟩
    · obtain ⟨g, e⟩ := ho2.2.2.1 (List.length_pos_iff.2 h0)
      exact ⟨g, fun _ => e⟩
  have hg2' : arcs N.arcs ≠ [] → A2 = some ⟨g2, 0, none⟩ := fun h => hg2 (by rintro e; rw [e] at h; exact h rfl)
  (repeat' (first | refine J_seq ?_ | refine J_skip ?_ | refine J_yes rfl ?_ | refine J_no rfl ?_))
  refine J_region ?_
  refine JL_run [] rfl ?_
  refine JL_set 133 (v' := .bool true) rfl (congrArg Value.bool (cdec_yes rfl)) ?_
  refine JL_run [2] rfl ?_
  refine JL_set 137 (v' := .bool true) rfl (congrArg Value.bool (cdec_yes rfl)) ?_
  refine JL_run [2, 6] rfl ?_
  refine JL_val [2, 6] (v := netV N A2 c2) (OpV_blk (i := 0) 0 rfl rfl rfl rfl) rfl ?_
  refine JL_val [2, 6] (v := netV N A1 c1) (OpV_blk (i := 0) 3 rfl rfl rfl rfl) rfl ?_
  refine JL_callR [2, 6] (nsame_fn N (by omega) A2 c2 g2 0 hg2 A1 c1 g1 0 hg1) rfl rfl rfl rfl (by kernel_rfl) ⟨⟨1, _, by simp, rfl, shows_ownS hg2', seen_ownS hg2'⟩, ⟨4, _, by simp, rfl, shows_ownS hg1', seen_ownS hg1'⟩, trivial⟩ (fun _ => rfl) ?_
  rintro v H' ⟨rfl, rfl⟩
  refine ⟨rfl, ?_⟩
  refine JL_all [2, 6] rfl ?_
  exact J_drop [] (by decide) rfl (J_ret ⟨_, rfl, rfl⟩)
end Go.Proofs.YtkiadfpkgpgbiaaGreatDoor
