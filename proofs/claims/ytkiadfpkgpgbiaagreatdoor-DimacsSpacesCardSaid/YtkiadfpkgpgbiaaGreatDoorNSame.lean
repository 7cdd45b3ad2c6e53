
/- Two networks that are the same. -/
import Derived.Test.YtkiadfpkgpgbiaaGreatDoorDimaS
set_option linter.unusedVariables false
set_option linter.unusedSimpArgs false
namespace Go.Proofs.YtkiadfpkgpgbiaaGreatDoor
open Go.RowKit
def arcV (a : Arc) : Value := .agg #[.int .i64 a.fr, .int .i64 a.to, .int .i64 a.cap]
theorem alike_fn (a : Arc) : Fn 27 [arcV a, arcV a] [] [] fun v H' => v = .bool true ∧ H' = [] := by
  refine Fn_of Tryz.func27 rfl rfl fun w0 => ?_
  (repeat' (first | refine J_seq ?_ | refine J_skip ?_ | refine J_yes rfl ?_ | refine J_no rfl ?_))
  refine J_region ?_
  refine JL_box (cs := [.int .i64 a.fr, .int .i64 a.to, .int .i64 a.cap]) rfl rfl rfl (fun _ => rfl) fun p1 => ?_
  refine JL_box (cs := [.int .i64 a.fr, .int .i64 a.to, .int .i64 a.cap]) rfl rfl rfl (fun _ => rfl) fun p2 => ?_
  refine JL_all [] rfl ?_
  (repeat' (first | refine J_seq ?_ | refine J_skip ?_ | refine J_yes rfl ?_ | refine J_no rfl ?_))
  refine J_region ?_
  refine JL_run [] rfl ?_
  refine JL_val [] (v := arcV a) (OpV_blk (i := 0) 1 rfl rfl rfl rfl) rfl ?_
  refine JL_val [] (v := arcV a) (OpV_blk (i := 0) 0 rfl rfl rfl rfl) rfl ?_
  refine JL_val [] (OpV_arc_same rfl rfl rfl) rfl ?_
  refine JL_all [] rfl ?_
  exact J_drop [] (by decide) rfl (J_ret ⟨_, rfl, rfl, rfl⟩)
theorem equal_fn (l : List Arc) (hl : l.length ≤ 100000) (A : Option Addr) (c b o : Nat) (hA : l ≠ [] → A = some ⟨b, o, none⟩) (A2 : Option Addr) (c2 b2 o2 : Nat) (hA2 : l ≠ [] → A2 = some ⟨b2, o2, none⟩) :
    Fn 28 [.slice A l.length c, .slice A2 l.length c2, .func (.func 27) #[] #[]] [] [.seg b o (arcs l), .seg b2 o2 (arcs l)] fun v H' => v = .bool true ∧ H' = [] := by
  refine Fn_of Tryz.func28 rfl rfl fun w0 => ?_
  (repeat' (first | refine J_seq ?_ | refine J_skip ?_ | refine J_yes rfl ?_ | refine J_no rfl ?_))
  refine J_region ?_
  refine JL_all [] rfl ?_
  (repeat' (first | refine J_seq ?_ | refine J_skip ?_ | refine J_yes rfl ?_ | refine J_no rfl ?_))
  refine J_region ?_
  refine JL_all [] rfl ?_
  refine J_dec rfl (fun h => absurd rfl h) (fun h => J_skip ?_)
  (repeat' (first | refine J_seq ?_ | refine J_skip ?_ | refine J_yes rfl ?_ | refine J_no rfl ?_))
  refine J_region ?_
  refine JL_all [] rfl ?_
  refine J_block ?_
  refine J_loop (σ := Nat) (fun k => [(17, .int .i64 k), (16, .int .i64 l.length), (15, .slice A l.length c), (1, .slice A2 l.length c2), (2, .func (.func 27) #[] #[])]) (fun _ => [.seg b o (arcs l), .seg b2 o2 (arcs l)]) (fun k => k ≤ l.length) (fun k => l.length - k)
    0 [0, 1] ⟨rfl, rfl, rfl, rfl, rfl, trivial⟩ (by decide) rfl (Nat.zero_le _) ?_
  intro k hk
  (repeat' (first | refine J_seq ?_ | refine J_skip ?_ | refine J_yes rfl ?_ | refine J_no rfl ?_))
  refine J_region ?_
  refine JL_all [] rfl ?_
  refine J_seq (J_dec rfl (fun hlt => J_skip ?_) (fun hge => J_exit ?_))
  · have hlt' : k < l.length := by omega
    obtain rfl := hA (by rintro rfl; simp at hlt')
    obtain rfl := hA2 (by rintro rfl; simp at hlt')
    obtain ⟨a, ha⟩ : ∃ a, l[k]? = some a := ⟨l[k], List.getElem?_eq_getElem hlt'⟩
    refine J_seq (J_block ?_)
    (repeat' (first | refine J_seq ?_ | refine J_skip ?_ | refine J_yes rfl ?_ | refine J_no rfl ?_))
    refine J_region ?_
    refine JL_run [] rfl ?_
    refine JL_val [] (idxN rfl rfl rfl rfl rfl hlt') rfl ?_
    refine JL_val [] (v := arcV a) (ldseg 0 rfl rfl rfl rfl (readT_arc ha)) rfl ?_
    refine JL_alloc rfl rfl rfl (fun _ => rfl) fun p8 => ?_
    refine JL_run [] rfl ?_
    refine JL_store 0 rfl rfl rfl rfl rfl [] rfl ?_
    refine JL_all [] rfl ?_
    (repeat' (first | refine J_seq ?_ | refine J_skip ?_ | refine J_yes rfl ?_ | refine J_no rfl ?_))
    refine J_region ?_
    refine JL_run [] rfl ?_
    refine JL_val [] (idxN rfl rfl rfl rfl rfl hlt') rfl ?_
    refine JL_val [] (v := arcV a) (ldseg 2 rfl rfl rfl rfl (readT_arc ha)) rfl ?_
    refine JL_alloc rfl rfl rfl (fun _ => rfl) fun p9 => ?_
    refine JL_store 0 rfl rfl rfl rfl rfl [] rfl ?_
    refine JL_all [] rfl ?_
    refine J_seq ?_
    (repeat' (first | refine J_seq ?_ | refine J_skip ?_ | refine J_yes rfl ?_ | refine J_no rfl ?_))
    refine J_region ?_
    refine JL_run [] rfl ?_
    refine JL_val [] (v := arcV a) (OpV_blk (i := 0) 1 rfl rfl rfl rfl) rfl ?_
    refine JL_val [] (v := arcV a) (OpV_blk (i := 0) 0 rfl rfl rfl rfl) rfl ?_
    refine JL_callR (fst := []) (cap := []) [] (alike_fn a) rfl rfl rfl rfl (by kernel_rfl) trivial (fun _ => rfl) ?_
    rintro v H' ⟨rfl, rfl⟩
    refine ⟨rfl, ?_⟩
    refine JL_all [] rfl ?_
    refine J_no rfl (J_skip ?_)
    (repeat' (first | refine J_seq ?_ | refine J_skip ?_ | refine J_yes rfl ?_ | refine J_no rfl ?_))
    refine J_region ?_
    refine JL_all [] rfl ?_
    refine ⟨k + 1, [2, 3], ⟨?_, rfl, rfl, rfl, rfl, trivial⟩, by decide, rfl, by omega, by omega⟩
    show some (Value.int .i64 (IntKind.i64.wrap ((k : Int) + 1))) = _
    rw [w64 (by omega)]; rfl
  (repeat' (first | refine J_seq ?_ | refine J_skip ?_ | refine J_yes rfl ?_ | refine J_no rfl ?_))
  refine J_region ?_
  refine JL_all [] rfl ?_
  exact J_drop [] (by decide) rfl (J_ret ⟨_, rfl, rfl, rfl⟩)
theorem nsame_fn (N : Net) (hl : N.arcs.length ≤ 100000) (A : Option Addr) (c b o : Nat) (hA : N.arcs ≠ [] → A = some ⟨b, o, none⟩) (A2 : Option Addr) (c2 b2 o2 : Nat) (hA2 : N.arcs ≠ [] → A2 = some ⟨b2, o2, none⟩) :
    Fn 15 [netV N A c, netV N A2 c2] [] [.seg b o (arcs N.arcs), .seg b2 o2 (arcs N.arcs)] fun v H' => v = .bool true ∧ H' = [] := by
  refine Fn_of Tryz.func15 rfl rfl fun w0 => ?_
  (repeat' (first | refine J_seq ?_ | refine J_skip ?_ | refine J_yes rfl ?_ | refine J_no rfl ?_))
  refine J_region ?_
  refine JL_box (cs := netC N A c) rfl rfl rfl (fun _ => rfl) fun p1 => ?_
  refine JL_box (cs := netC N A2 c2) rfl rfl rfl (fun _ => rfl) fun p2 => ?_
  refine JL_all [] rfl ?_
  (repeat' (first | refine J_seq ?_ | refine J_skip ?_ | refine J_yes rfl ?_ | refine J_no rfl ?_))
  refine J_region ?_
  refine JL_all [] rfl ?_
  (repeat' (first | refine J_seq ?_ | refine J_skip ?_ | refine J_yes rfl ?_ | refine J_no rfl ?_))
  refine J_region ?_
  refine JL_run [] rfl ?_
  refine JL_val [] (OpV_blk (i := 0) (v := .int .i64 N.nodes) 1 rfl rfl rfl rfl) rfl ?_
  refine JL_run [] rfl ?_
  refine JL_val [] (OpV_blk (i := 0) (v := .int .i64 N.nodes) 0 rfl rfl rfl rfl) rfl ?_
  refine JL_run [] rfl ?_
  refine JL_set 11 (v' := .bool true) rfl (congrArg Value.bool (cdec_yes rfl)) ?_
  refine JL_run [5] rfl ?_
  refine JL_val [5] (OpV_blk (i := 1) (v := .int .i64 N.src) 1 rfl rfl rfl rfl) rfl ?_
  refine JL_run [5] rfl ?_
  refine JL_val [5] (OpV_blk (i := 1) (v := .int .i64 N.src) 0 rfl rfl rfl rfl) rfl ?_
  refine JL_run [5] rfl ?_
  refine JL_set 18 (v' := .bool true) rfl (congrArg Value.bool (cdec_yes rfl)) ?_
  refine JL_run [5, 12] rfl ?_
  refine JL_val [5, 12] (OpV_blk (i := 2) (v := .int .i64 N.snk) 1 rfl rfl rfl rfl) rfl ?_
  refine JL_run [5, 12] rfl ?_
  refine JL_val [5, 12] (OpV_blk (i := 2) (v := .int .i64 N.snk) 0 rfl rfl rfl rfl) rfl ?_
  refine JL_run [5, 12] rfl ?_
  refine JL_set 25 (v' := .bool true) rfl (congrArg Value.bool (cdec_yes rfl)) ?_
  refine JL_run [5, 12, 19] rfl ?_
  refine JL_val [5, 12, 19] (OpV_blk (i := 3) (v := .slice A N.arcs.length c) 1 rfl rfl rfl rfl) rfl ?_
  refine JL_run [5, 12, 19] rfl ?_
  refine JL_val [5, 12, 19] (OpV_blk (i := 3) (v := .slice A2 N.arcs.length c2) 0 rfl rfl rfl rfl) rfl ?_
  refine JL_run [5, 12, 19] rfl ?_
  refine JL_callR [5, 12, 19] (equal_fn N.arcs hl A c b o hA A2 c2 b2 o2 hA2) rfl rfl rfl rfl (by kernel_rfl) ⟨⟨2, _, by simp, rfl, shows_seg _ _ _, seen_seg⟩, ⟨3, _, by simp, rfl, shows_seg _ _ _, seen_seg⟩, trivial⟩ (fun _ => rfl) ?_
  rintro v H' ⟨rfl, rfl⟩
  refine ⟨rfl, ?_⟩
  refine JL_all [5, 12, 19] rfl ?_
  exact J_drop [] (by decide) rfl (J_ret ⟨_, rfl, rfl, rfl⟩)
end Go.Proofs.YtkiadfpkgpgbiaaGreatDoor
