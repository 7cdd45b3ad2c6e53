
/- A network's text: written. -/
import Derived.Test.YtkiadfpkgpgbiaaGreatDoorDimaW
import Derived.Test.YtkiadfpkgpgbiaaGreatDoorEngW
import Derived.Test.YtkiadfpkgpgbiaaGreatDoorQC
set_option linter.unusedVariables false
set_option linter.unusedSimpArgs false
namespace Go.Proofs.YtkiadfpkgpgbiaaGreatDoor
open Go.RowKit
open Lib
def arcT (a : Arc) : List UInt8 := wrL [97] [a.fr, a.to, a.cap] ++ [10]
def printH (N : Net) : List UInt8 := (wrL [112, 32, 109, 97, 120] [N.nodes, N.arcs.length] ++ [10]) ++ (((wrL [110] [N.src] ++ [32, 115, 10]) ++ wrL [110] [N.snk]) ++ [32, 116, 10])
def printL (N : Net) : List UInt8 := printH N ++ (N.arcs.map arcT).flatten
noncomputable def printV (N : Net) : Value := .tuple #[str (if checkZ N = 0 then printL N else []), .int .i64 (if checkZ N = 0 then 0 else 1)]
theorem print_fn (V : LibV) (N : Net) (hF : N.Fits) (A : Option Addr) (c b o : Nat) (hA : N.arcs ≠ [] → A = some ⟨b, o, none⟩) : Fn 8 [netV N A c] [] ([.seg b o (arcs N.arcs)] ++ V.heap) fun v H' => v = printV N ∧ H' = [] := by
  refine Fn_of Tryz.func8 rfl rfl fun w0 => ?_
  (repeat' (first | refine J_seq ?_ | refine J_skip ?_ | refine J_yes rfl ?_ | refine J_no rfl ?_))
  refine J_region ?_
  refine JL_box (cs := netC N A c) rfl rfl rfl (fun _ => rfl) fun p1 => ?_
  refine JL_all [] rfl ?_
  refine J_seq ?_
  (repeat' (first | refine J_seq ?_ | refine J_skip ?_ | refine J_yes rfl ?_ | refine J_no rfl ?_))
  refine J_region ?_
  refine JL_val [] (v := netV N A c) (OpV_blk 0 rfl rfl rfl rfl) rfl ?_
  refine JL_callR [] (check_fn N hF A c b o hA) rfl rfl rfl rfl (by kernel_rfl) ⟨⟨1, _, by simp, rfl, shows_seg _ _ _, seen_seg⟩, trivial⟩ (fun _ => rfl) ?_
  rintro v H' ⟨rfl, rfl⟩
  refine ⟨rfl, ?_⟩
  refine JL_all [] rfl ?_
  refine J_dec rfl (fun hz => ?_) (fun hz => J_skip ?_)
  · (repeat' (first | refine J_seq ?_ | refine J_skip ?_ | refine J_yes rfl ?_ | refine J_no rfl ?_))
    refine J_region ?_
    refine JL_all [] rfl ?_
    refine J_drop [] (by decide) rfl (J_ret ⟨_, rfl, ?_, rfl⟩)
    unfold printV
    rw [if_neg hz, if_neg hz]; rfl
  have hz0 : checkZ N = 0 := Classical.not_not.1 hz
  have hR := checkZ_zero hz0
  have hnn := hR.nodes
  have hln := hR.len
  have hall : ∀ n : Int, (n = N.nodes ∨ n = N.arcs.length ∨ n = N.src ∨ n = N.snk) → inB n := by
    rintro n (rfl | rfl | rfl | rfl)
    · exact hF.nodes
    · unfold inB; omega
    · exact hF.src
    · exact hF.snk
  (repeat' (first | refine J_seq ?_ | refine J_skip ?_ | refine J_yes rfl ?_ | refine J_no rfl ?_))
  refine J_region ?_
  refine JL_alloc rfl rfl rfl (fun _ => rfl) fun p4 => ?_
  refine JL_addnil 5 1 ?_
  refine JL_fit (K := bldC p4 (.pointer none) none 0 [] ++ [blk p1 24 (netC N A c), .seg b o (arcs N.arcs)] ++ V.heap) (Fit.picks [1, 0, 2, 3, 4, 5, 6] (by decide) rfl) ?_
  refine JL_all [] rfl ?_
  (repeat' (first | refine J_seq ?_ | refine J_skip ?_ | refine J_yes rfl ?_ | refine J_no rfl ?_))
  refine J_region ?_
  refine JL_run [] rfl ?_
  refine JL_val [] (OpV_blk (i := 0) (v := .int .i64 N.nodes) 2 rfl rfl rfl rfl) rfl ?_
  refine JL_run [] rfl ?_
  refine JL_val [] (OpV_blk (i := 3) (v := .slice A N.arcs.length c) 2 rfl rfl rfl rfl) rfl ?_
  refine JL_run [] rfl ?_
  refine JL_lit rfl rfl rfl rfl rfl rfl rfl (fun _ => rfl) fun g => ?_
  refine JL_callR [] (dwrite_fn V [112, 32, 109, 97, 120] (by decide) [N.nodes, N.arcs.length] (fun n hn => hall n (by simp at hn; omega)) (by simp) _ 2 _ g 0 (fun _ => rfl) rfl) rfl rfl rfl rfl (by kernel_rfl) ⟨⟨0, _, by simp, rfl, shows_blk _ _ _ (0, 0), .inr rfl⟩, ⟨5, by simp, rfl⟩, ⟨6, by simp, rfl⟩, ⟨7, by simp, rfl⟩, trivial⟩ (fun _ => rfl) ?_
  rintro v H' ⟨rfl, rfl⟩
  refine ⟨rfl, ?_⟩
  have hw1 := wrL_len [112, 32, 109, 97, 120] [N.nodes, N.arcs.length] (fun n hn => hall n (by simp at hn; omega))
  simp only [List.length_cons, List.length_nil] at hw1
  refine JL_val [] (OpV_cat (m := [10]) rfl rfl rfl (by simp; omega)) rfl ?_
  refine JL_callK (fst := []) (cap := []) [] (wstr_fn p4 (.pointer none) (.inl rfl) none 0 [] (wrL [112, 32, 109, 97, 120] [N.nodes, N.arcs.length] ++ [10]) (by simp; omega)) rfl rfl rfl rfl (by kernel_rfl) (K := [blk p1 24 (netC N A c), .seg b o (arcs N.arcs)] ++ V.heap) (Fit.picks [1, 2, 3, 4, 5, 6, 7] (by decide) rfl) trivial (fun _ => rfl) ?_
  rintro v H' ⟨A1, c1, rfl⟩
  refine ⟨rfl, ?_⟩
  refine JL_all [] rfl ?_
  refine J_cutE (σ := Option Addr × Nat) (fun s => [(1, .pointer (some ⟨p1, 0, none⟩)), (4, .pointer (some ⟨p4, 0, none⟩))]) (fun s => bldC p4 (.pointer (some ⟨p4, 0, none⟩)) s.1 s.2 (printH N) ++ [blk p1 24 (netC N A c), .seg b o (arcs N.arcs)] ++ V.heap) ?_ ?_
  · refine J_draw (Sf := [blk p1 24 (netC N A c)]) ?_
    refine JA_pre [0, 1, 5, 6] (by decide +kernel) [2] (by decide) rfl ?_
    (repeat' (first
      | refine JW_evO (gs := [999]) rfl rfl ?_
      | refine JW_still [999] rfl (OpV_blk 0 rfl rfl rfl rfl) rfl ?_))
    refine JW_nil ?_
    have hws := wrL_len [110] [N.src] (fun n hn => hall n (by simp at hn; omega))
    have hwt := wrL_len [110] [N.snk] (fun n hn => hall n (by simp at hn; omega))
    simp only [List.length_cons, List.length_nil] at hws hwt
    (repeat' (first
      | exact trivial
      | refine JA_step 2 [7] (by decide +kernel) (by decide) ?_
      | refine JA_step 2 [] (by decide +kernel) (by decide) ?_
      | refine JA_step 3 [7] (by decide +kernel) (by decide) ?_
      | refine JA_step 3 [] (by decide +kernel) (by decide) ?_
      | refine JA_step 4 [7] (by decide +kernel) (by decide) ?_
      | refine JA_step 4 [8] (by decide +kernel) (by decide) ?_
      | refine JA_step 4 [] (by decide +kernel) (by decide) ?_
      | refine JA_step 7 [] (by decide +kernel) (by decide) ?_
      | refine JA_step 8 [] (by decide +kernel) (by decide) ?_
      | refine JA_step 9 [] (by decide +kernel) (by decide) ?_
      | refine JA_step 10 [] (by decide +kernel) (by decide) ?_
      | refine JA_step 11 [] (by decide +kernel) (by decide) ?_
      | refine ⟨⟨_, rfl, ?_⟩, ?_⟩
      | (refine JL_lit rfl rfl rfl rfl rfl rfl rfl (fun _ => rfl) fun g3 => ?_; refine JL_fit (Fit.picks [1, 2, 3, 4, 5, 6, 7, 8, 0] (by decide) rfl) ?_; refine JL_nil ⟨⟨[2], by decide, rfl⟩, ?_⟩)
      | (refine JL_lit rfl rfl rfl rfl rfl rfl rfl (fun _ => rfl) fun g2 => ?_; refine JL_fit (Fit.picks [1, 2, 3, 4, 5, 6, 7, 0] (by decide) rfl) ?_; refine JL_nil ⟨⟨[2], by decide, rfl⟩, ?_⟩)
      | (refine JL_callR [] (dwrite_fn V [110] (by decide) [N.src] (fun n hn => hall n (by simp at hn; omega)) (by simp) _ 1 _ _ 0 (fun _ => rfl) rfl) rfl rfl rfl rfl (by kernel_rfl) ⟨⟨7, _, by simp, rfl, shows_blk _ _ _ (0, 0), .inr rfl⟩, ⟨4, by simp, rfl⟩, ⟨5, by simp, rfl⟩, ⟨6, by simp, rfl⟩, trivial⟩ (fun _ => rfl) ?_; rintro v H' ⟨rfl, rfl⟩; refine ⟨rfl, JL_nil ⟨⟨[2], by decide, rfl⟩, ?_⟩⟩)
      | (refine JL_callR [] (dwrite_fn V [110] (by decide) [N.src] (fun n hn => hall n (by simp at hn; omega)) (by simp) _ 1 _ _ 0 (fun _ => rfl) rfl) rfl rfl rfl rfl (by kernel_rfl) ⟨⟨8, _, by simp, rfl, shows_blk _ _ _ (0, 0), .inr rfl⟩, ⟨4, by simp, rfl⟩, ⟨5, by simp, rfl⟩, ⟨6, by simp, rfl⟩, trivial⟩ (fun _ => rfl) ?_; rintro v H' ⟨rfl, rfl⟩; refine ⟨rfl, JL_nil ⟨⟨[2], by decide, rfl⟩, ?_⟩⟩)
      | (refine JL_callR [] (dwrite_fn V [110] (by decide) [N.snk] (fun n hn => hall n (by simp at hn; omega)) (by simp) _ 1 _ _ 0 (fun _ => rfl) rfl) rfl rfl rfl rfl (by kernel_rfl) ⟨⟨7, _, by simp, rfl, shows_blk _ _ _ (0, 0), .inr rfl⟩, ⟨4, by simp, rfl⟩, ⟨5, by simp, rfl⟩, ⟨6, by simp, rfl⟩, trivial⟩ (fun _ => rfl) ?_; rintro v H' ⟨rfl, rfl⟩; refine ⟨rfl, JL_nil ⟨⟨[2], by decide, rfl⟩, ?_⟩⟩)
      | (refine JL_callR [] (dwrite_fn V [110] (by decide) [N.snk] (fun n hn => hall n (by simp at hn; omega)) (by simp) _ 1 _ _ 0 (fun _ => rfl) rfl) rfl rfl rfl rfl (by kernel_rfl) ⟨⟨8, _, by simp, rfl, shows_blk _ _ _ (0, 0), .inr rfl⟩, ⟨4, by simp, rfl⟩, ⟨5, by simp, rfl⟩, ⟨6, by simp, rfl⟩, trivial⟩ (fun _ => rfl) ?_; rintro v H' ⟨rfl, rfl⟩; refine ⟨rfl, JL_nil ⟨⟨[2], by decide, rfl⟩, ?_⟩⟩)
      | (refine JL_val [] (OpV_cat (m := [32, 115, 10]) rfl rfl rfl (by simp; omega)) rfl ?_; refine JL_nil ⟨⟨[2], by decide, rfl⟩, ?_⟩)
      | (refine JL_val [] (OpV_cat (m := [32, 116, 10]) rfl rfl rfl (by simp; omega)) rfl ?_; refine JL_nil ⟨⟨[2], by decide, rfl⟩, ?_⟩)
      | (refine JL_val [] (OpV_cat rfl rfl rfl (by simp; omega)) rfl ?_; refine JL_nil ⟨⟨[2], by decide, rfl⟩, ?_⟩)
      | (refine JL_callK (fst := []) (cap := []) [] (wstr_fn p4 (.pointer (some ⟨p4, 0, none⟩)) (.inr rfl) A1 c1 ([] ++ (wrL [112, 32, 109, 97, 120] [N.nodes, N.arcs.length] ++ [10])) (((wrL [110] [N.src] ++ [32, 115, 10]) ++ wrL [110] [N.snk]) ++ [32, 116, 10]) (by simp; omega)) rfl rfl rfl rfl (by kernel_rfl) Fit.refl trivial (fun _ => rfl) ?_; rintro v H' ⟨A2, c2, rfl⟩; refine ⟨rfl, JL_nil ⟨⟨[2], by decide, rfl⟩, ?_⟩⟩; exact JA_done (by decide +kernel) ⟨(_, _), ⟨rfl, rfl, trivial⟩, Fit.picks [0, 1, 2, 3, 4, 5, 6] (by decide) rfl⟩)))
  rintro ⟨A2, c2⟩
  have hHl : (printH N).length ≤ 400 := by
    have hws := wrL_len [110] [N.src] (fun n hn => hall n (by simp at hn; omega))
    have hwt := wrL_len [110] [N.snk] (fun n hn => hall n (by simp at hn; omega))
    unfold printH
    simp only [List.length_append, List.length_cons, List.length_nil] at *
    omega
  have harc : ∀ a ∈ N.arcs, (arcT a).length ≤ 70 := fun a ha => by
    have h1 := hF.arc a ha
    have := wrL_len [97] [a.fr, a.to, a.cap] (fun n hn => by simp at hn; rcases hn with rfl | rfl | rfl; exact h1.1; exact h1.2.1; exact h1.2.2)
    unfold arcT
    simp only [List.length_append, List.length_cons, List.length_nil] at *
    omega
  have htl : ∀ l : List Arc, (∀ a ∈ l, a ∈ N.arcs) → ((l.map arcT).flatten).length ≤ l.length * 70 := by
    intro l
    induction l with
    | nil => intro _; simp
    | cons a l ih =>
      intro h
      have h1 := harc a (h a (by simp))
      have h2 := ih fun x hx => h x (by simp [hx])
      simp only [List.map_cons, List.flatten_cons, List.length_append, List.length_cons]
      omega
  simp only
  (repeat' (first | refine J_seq ?_ | refine J_skip ?_ | refine J_yes rfl ?_ | refine J_no rfl ?_))
  refine J_region ?_
  refine JL_run [] rfl ?_
  refine JL_val [] (OpV_blk (i := 3) (v := .slice A N.arcs.length c) 2 rfl rfl rfl rfl) rfl ?_
  refine JL_all [] rfl ?_
  (repeat' (first | refine J_seq ?_ | refine J_skip ?_ | refine J_yes rfl ?_ | refine J_no rfl ?_))
  refine J_block ?_
  refine J_loop (σ := Nat × Option Addr × Nat) (fun s => [(34, .int .i64 s.1), (33, .int .i64 N.arcs.length), (32, .slice A N.arcs.length c), (4, .pointer (some ⟨p4, 0, none⟩))])
    (fun s => bldC p4 (.pointer (some ⟨p4, 0, none⟩)) s.2.1 s.2.2 (printH N ++ ((N.arcs.take s.1).map arcT).flatten) ++ [.seg b o (arcs N.arcs)] ++ V.heap)
    (fun s => s.1 ≤ N.arcs.length) (fun s => N.arcs.length - s.1) (0, A2, c2) [0, 1, 3, 4, 5, 6] ⟨rfl, rfl, rfl, rfl, trivial⟩ (by decide) (by simp; rfl) (Nat.zero_le _) ?_
  rintro ⟨k, A3, c3⟩ hk
  simp only at hk ⊢
  (repeat' (first | refine J_seq ?_ | refine J_skip ?_ | refine J_yes rfl ?_ | refine J_no rfl ?_))
  refine J_region ?_
  refine JL_all [] rfl ?_
  refine J_seq (J_dec rfl (fun hlt => J_skip ?_) (fun hge => J_exit ?_))
  · have hlt' : k < N.arcs.length := by omega
    obtain ⟨a, ha⟩ : ∃ a, N.arcs[k]? = some a := ⟨N.arcs[k], List.getElem?_eq_getElem hlt'⟩
    obtain rfl := hA (by intro h; rw [h] at hlt'; simp at hlt')
    have haB := hF.arc a (List.mem_of_getElem? ha)
    have hal := harc a (List.mem_of_getElem? ha)
    have hul := htl (N.arcs.take k) (fun x hx => List.mem_of_mem_take hx)
    rw [List.length_take] at hul
    refine J_seq (J_block ?_)
    refine J_seq ?_
    (repeat' (first | refine J_seq ?_ | refine J_skip ?_ | refine J_yes rfl ?_ | refine J_no rfl ?_))
    refine J_region ?_
    refine JL_run [] rfl ?_
    refine JL_val [] (idxN rfl rfl rfl rfl rfl hlt') rfl ?_
    refine JL_val [] (ldseg 2 rfl rfl rfl rfl (readT_arc ha)) rfl ?_
    refine JL_alloc rfl rfl rfl (fun _ => rfl) fun p6 => ?_
    refine JL_store 0 rfl rfl rfl rfl rfl [] rfl ?_
    refine JL_all [] rfl ?_
    (repeat' (first | refine J_seq ?_ | refine J_skip ?_ | refine J_yes rfl ?_ | refine J_no rfl ?_))
    refine J_region ?_
    refine JL_run [] rfl ?_
    refine JL_val [] (OpV_blk (i := 0) (v := .int .i64 a.fr) 0 rfl rfl rfl rfl) rfl ?_
    refine JL_run [] rfl ?_
    refine JL_val [] (OpV_blk (i := 1) (v := .int .i64 a.to) 0 rfl rfl rfl rfl) rfl ?_
    refine JL_run [] rfl ?_
    refine JL_val [] (OpV_blk (i := 2) (v := .int .i64 a.cap) 0 rfl rfl rfl rfl) rfl ?_
    refine JL_lit rfl rfl rfl rfl rfl rfl rfl (fun _ => rfl) fun g => ?_
    refine JL_callR [] (dwrite_fn V [97] (by decide) [a.fr, a.to, a.cap] (fun n hn => by simp at hn; rcases hn with rfl | rfl | rfl; exact haB.1; exact haB.2.1; exact haB.2.2) (by simp) _ 3 _ g 0 (fun _ => rfl) rfl) rfl rfl rfl rfl (by kernel_rfl) ⟨⟨0, _, by simp, rfl, shows_blk _ _ _ (0, 0), .inr rfl⟩, ⟨5, by simp, rfl⟩, ⟨6, by simp, rfl⟩, ⟨7, by simp, rfl⟩, trivial⟩ (fun _ => rfl) ?_
    rintro v H' ⟨rfl, rfl⟩
    refine ⟨rfl, ?_⟩
    have hal' : (wrL [97] [a.fr, a.to, a.cap]).length ≤ 69 := by unfold arcT at hal; simp at hal; omega
    refine JL_val [] (OpV_cat (m := [10]) rfl rfl rfl (by simp; omega)) rfl ?_
    refine JL_callK (fst := []) (cap := []) [] (wstr_fn p4 _ (.inr rfl) A3 c3 (printH N ++ ((N.arcs.take k).map arcT).flatten) (arcT a) (by rw [List.length_append]; omega)) rfl rfl rfl rfl (by kernel_rfl) (K := [.seg b o (arcs N.arcs)] ++ V.heap) (Fit.picks [2, 3, 4, 5, 6, 7] (by decide) rfl) trivial (fun _ => rfl) ?_
    rintro v H' ⟨A4, c4, rfl⟩
    refine ⟨rfl, ?_⟩
    refine JL_all [] rfl ?_
    (repeat' (first | refine J_seq ?_ | refine J_skip ?_ | refine J_yes rfl ?_ | refine J_no rfl ?_))
    refine J_region ?_
    refine JL_all [] rfl ?_
    have htk : printH N ++ ((N.arcs.take (k + 1)).map arcT).flatten = printH N ++ ((N.arcs.take k).map arcT).flatten ++ arcT a := by rw [List.take_add_one, ha]; simp
    refine ⟨(k + 1, A4, c4), [0, 1, 2, 3, 4, 5], ⟨?_, rfl, rfl, rfl, trivial⟩, by decide, ?_, by simp only; omega, by simp only; omega⟩
    · show some (Value.int .i64 (IntKind.i64.wrap ((k : Int) + 1))) = _
      rw [w64 (by omega)]; rfl
    · simp only [htk]; rfl
  obtain rfl : k = N.arcs.length := by omega
  rw [List.take_length]
  (repeat' (first | refine J_seq ?_ | refine J_skip ?_ | refine J_yes rfl ?_ | refine J_no rfl ?_))
  refine J_region ?_
  refine JL_run [] rfl ?_
  refine JL_last (X := ⟨w0, [], _⟩) [] rfl (fun w hw => bstr_T rfl p4 _ (.inr rfl) A3 c3 (printL N) hw) rfl rfl rfl rfl (by kernel_rfl) rfl ?_
  refine JL_all [] rfl ?_
  refine J_ret ⟨_, rfl, ?_, rfl⟩
  unfold printV
  rw [if_pos hz0, if_pos hz0]; rfl
end Go.Proofs.YtkiadfpkgpgbiaaGreatDoor
