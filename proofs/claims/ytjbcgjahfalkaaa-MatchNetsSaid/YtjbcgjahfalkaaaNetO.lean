
/- The arcs from a node, and to one: how many. -/
import Derived.Test.YtjbcgjahfalkaaaQX2
import Derived.Test.YtjbcgjahfalkaaaSame5
set_option linter.unusedVariables false
set_option linter.unusedSimpArgs false
namespace Go.Proofs.Ytjbcgjahfalkaaa
open Go.RowKit
section
variable {X : Cx} {E : Env} {H : Heap}
theorem OpV_min3 {o : Oper} {x y z : Operand} {ts : Array TypeId} {k : IntKind} {a b c : Int} (ho : o.op = .call ⟨.builtin .min, #[x, y, z], ts⟩) (hx : val E x = some (.int k a)) (hy : val E y = some (.int k b)) (hz : val E z = some (.int k c)) :
    OpV X o E H (.int k (if c < (if b < a then b else a) then c else (if b < a then b else a))) := by
  intro ac w hA hH
  by_cases h1 : b < a
  · by_cases h2 : c < b <;> simp [execOp, ho, resolve, invoke, builtin, Builtin.min_, Builtin.min2, hA.val hx, hA.val hy, hA.val hz, h1, h2]
  · by_cases h2 : c < a <;> simp [execOp, ho, resolve, invoke, builtin, Builtin.min_, Builtin.min2, hA.val hx, hA.val hy, hA.val hz, h1, h2]
end
def manyE (pe : Arc → Int) (v : Int) (l : List Arc) : Nat := (l.filter fun a => decide (pe a = v)).length
theorem manyE_app (pe : Arc → Int) (v : Int) (l r : List Arc) : manyE pe v (l ++ r) = manyE pe v l + manyE pe v r := by unfold manyE; rw [List.filter_append, List.length_append]
theorem manyE_le (pe : Arc → Int) (v : Int) (l : List Arc) : manyE pe v l ≤ l.length := List.length_filter_le _ _
theorem manyE_all {pe : Arc → Int} {v : Int} {l : List Arc} (h : ∀ a ∈ l, pe a = v) : manyE pe v l = l.length := by
  unfold manyE
  rw [List.filter_eq_self.2 fun a ha => by simpa using h a ha]
theorem manyE_none {pe : Arc → Int} {v : Int} {l : List Arc} (h : ∀ a ∈ l, pe a ≠ v) : manyE pe v l = 0 := by
  unfold manyE
  rw [List.filter_eq_nil_iff.2 fun a ha => by simpa using h a ha]; rfl
theorem netarcs_fn (N : Net) (hl2 : N.arcs.length ≤ 2000) (A : Option Addr) (c b o : Nat) (hA : N.arcs ≠ [] → A = some ⟨b, o, none⟩) (v : Int) (F : FuncId) (hc : callable F = true) (pe : Arc → Int) (hpe : ∀ a : Arc, Fn F [.agg #[.int .i64 a.fr, .int .i64 a.to, .int .i64 a.cap]] [] [] fun u H' => u = .int .i64 (pe a) ∧ H' = []) :
    Fn 74 [netV N A c, .int .i64 v, .func (.func F) #[] #[]] [] [.seg b o (arcs N.arcs)] fun u H' => ∃ (L : List Int) (A' : Option Addr) (c' : Nat), L.length = manyE pe v N.arcs ∧ u = .slice A' L.length c' ∧ H' = [.own (.slice A' L.length c') 3 1 L.length (ints L)] := by
  refine Fn_of Try.func74 rfl rfl fun w0 => ?_
  (repeat' (first | refine J_seq ?_ | refine J_skip ?_ | refine J_yes rfl ?_ | refine J_no rfl ?_))
  refine J_region ?_
  refine JL_box (cs := netC N A c) rfl rfl rfl (fun _ => rfl) fun p3 => ?_
  refine JL_all [] rfl ?_
  (repeat' (first | refine J_seq ?_ | refine J_skip ?_ | refine J_yes rfl ?_ | refine J_no rfl ?_))
  refine J_region ?_
  refine JL_all [] rfl ?_
  (repeat' (first | refine J_seq ?_ | refine J_skip ?_ | refine J_yes rfl ?_ | refine J_no rfl ?_))
  refine J_region ?_
  refine JL_run [] rfl ?_
  refine JL_val [] (v := .slice A N.arcs.length c) (OpV_blk 0 rfl rfl rfl rfl) rfl ?_
  refine JL_all [] rfl ?_
  (repeat' (first | refine J_seq ?_ | refine J_skip ?_ | refine J_yes rfl ?_ | refine J_no rfl ?_))
  refine J_addnil 3 1 ?_
  refine J_block ?_
  refine J_loopF (σ := Nat × List Int × Option Addr × Nat) (fun t => [(13, .int .i64 (t.1 : Int)), (12, .int .i64 (N.arcs.length : Int)), (11, .slice A N.arcs.length c), (7, .slice t.2.2.1 t.2.1.length t.2.2.2), (1, .int .i64 v), (2, .func (.func F) #[] #[])])
    (fun t => [.own (.slice t.2.2.1 t.2.1.length t.2.2.2) 3 1 t.2.1.length (ints t.2.1), .seg b o (arcs N.arcs)]) (fun t => t.1 ≤ N.arcs.length ∧ t.2.1.length = manyE pe v (N.arcs.take t.1)) (fun t => N.arcs.length - t.1)
    (0, [], none, 0) ⟨rfl, rfl, rfl, rfl, rfl, rfl, trivial⟩ (Fit.picks [0, 2] (by decide) rfl) ⟨Nat.zero_le _, rfl⟩ ?_
  rintro ⟨k, L, A2, c2⟩ ⟨hk, hL⟩
  simp only at hk hL ⊢
  have hLl : L.length ≤ k := by
    have := manyE_le pe v (N.arcs.take k)
    rw [List.length_take] at this
    omega
  (repeat' (first | refine J_seq ?_ | refine J_skip ?_ | refine J_yes rfl ?_ | refine J_no rfl ?_))
  refine J_region ?_
  refine JL_all [] rfl ?_
  refine J_seq (J_dec rfl (fun hlt => J_skip ?_) (fun hge => J_exit ?_))
  · have hkl : k < N.arcs.length := by omega
    obtain ⟨a, ha⟩ : ∃ a, N.arcs[k]? = some a := ⟨N.arcs[k], List.getElem?_eq_getElem hkl⟩
    obtain rfl := hA (by intro h0; rw [h0] at hkl; simp at hkl)
    have htk : manyE pe v (N.arcs.take (k + 1)) = manyE pe v (N.arcs.take k) + if pe a = v then 1 else 0 := by
      rw [List.take_add_one, ha, manyE_app]
      have : manyE pe v [a] = if pe a = v then 1 else 0 := by
        unfold manyE
        by_cases h : pe a = v <;> simp [h]
      show _ + manyE pe v [a] = _
      rw [this]
    have hq : IntKind.i64.wrap ((k : Int) + 1) = ((k + 1 : Nat) : Int) := w64 (by omega)
    refine J_seq (J_block ?_)
    (repeat' (first | refine J_seq ?_ | refine J_skip ?_ | refine J_yes rfl ?_ | refine J_no rfl ?_))
    refine J_region ?_
    refine JL_run [] rfl ?_
    refine JL_val [] (idxN rfl rfl rfl rfl rfl hkl) rfl ?_
    refine JL_val [] (ldseg 1 rfl rfl rfl rfl (readT_arc ha)) rfl ?_
    refine JL_alloc rfl rfl rfl (fun _ => rfl) fun q => ?_
    refine JL_run [] rfl ?_
    refine JL_store 0 rfl rfl rfl rfl rfl [] rfl ?_
    refine JL_nil ?_
    (repeat' (first | refine J_seq ?_ | refine J_skip ?_ | refine J_yes rfl ?_ | refine J_no rfl ?_))
    refine J_region ?_
    refine JL_run [] rfl ?_
    refine JL_val [] (v := .agg #[.int .i64 a.fr, .int .i64 a.to, .int .i64 a.cap]) (OpV_blk 0 rfl rfl rfl rfl) rfl ?_
    refine JL_callR [] (hpe a) rfl rfl rfl rfl hc trivial (fun _ => rfl) ?_
    rintro _ H' ⟨rfl, rfl⟩
    refine ⟨rfl, ?_⟩
    refine JL_all [] rfl ?_
    refine J_dec rfl (fun h => ?_) (fun h => J_skip ?_)
    · rw [if_pos h] at htk
      (repeat' (first | refine J_seq ?_ | refine J_skip ?_ | refine J_yes rfl ?_ | refine J_no rfl ?_))
      refine J_region ?_
      refine JL_run [] rfl ?_
      refine JL_lit rfl rfl rfl rfl rfl rfl rfl (fun _ => rfl) fun g5 => ?_
      refine JL_appendS (n := L.length) (m := 1) (off := 0) (news := ints [(k : Int)]) 2 0 rfl rfl rfl rfl rfl rfl (by decide) rfl rfl (shows_blk g5 _ _ (0, 0)) (fun _ => rfl) rfl rfl (by omega) (by omega) (fun _ _ => rfl) fun A5 c5 => ?_
      refine JL_all [] rfl ?_
      (repeat' (first | refine J_seq ?_ | refine J_skip ?_ | refine J_yes rfl ?_ | refine J_no rfl ?_))
      refine J_region ?_
      refine JL_all [] rfl ?_
      have e1 : ints (L ++ [(k : Int)]) = ints L ++ ints [(k : Int)] := by simp [ints]
      have e2 : (L ++ [(k : Int)]).length = L.length + 1 := by simp
      rw [← e1, ← e2]
      exact ⟨(k + 1, L ++ [(k : Int)], A5, c5), ⟨congrArg some (congrArg (Value.int .i64) hq), rfl, rfl, rfl, rfl, rfl, trivial⟩, Fit.picks [2, 3] (by decide) rfl, ⟨hkl, by show (L ++ [(k : Int)]).length = _; rw [htk, ← hL, e2]⟩, by show N.arcs.length - (k + 1) < N.arcs.length - k; omega⟩
    · rw [if_neg h] at htk
      (repeat' (first | refine J_seq ?_ | refine J_skip ?_ | refine J_yes rfl ?_ | refine J_no rfl ?_))
      refine J_region ?_
      refine JL_all [] rfl ?_
      exact ⟨(k + 1, L, A2, c2), ⟨congrArg some (congrArg (Value.int .i64) hq), rfl, rfl, rfl, rfl, rfl, trivial⟩, Fit.picks [1, 2] (by decide) rfl, ⟨hkl, by show L.length = _; rw [htk, ← hL]; rfl⟩, by show N.arcs.length - (k + 1) < N.arcs.length - k; omega⟩
  · obtain rfl : k = N.arcs.length := by omega
    rw [List.take_of_length_le (Nat.le_refl _)] at hL
    (repeat' (first | refine J_seq ?_ | refine J_skip ?_ | refine J_yes rfl ?_ | refine J_no rfl ?_))
    refine J_region ?_
    refine JL_all [] rfl ?_
    exact J_drop [0] (by decide) rfl (J_ret ⟨_, rfl, L, A2, c2, hL, rfl, rfl⟩)
theorem out1_fn (a : Arc) : Fn 75 [.agg #[.int .i64 a.fr, .int .i64 a.to, .int .i64 a.cap]] [] [] fun u H' => u = .int .i64 a.fr ∧ H' = [] := by
  refine Fn_of Try.func75 rfl rfl fun w0 => ?_
  (repeat' (first | refine J_seq ?_ | refine J_skip ?_ | refine J_yes rfl ?_ | refine J_no rfl ?_))
  refine J_region ?_
  refine JL_box rfl rfl rfl (fun _ => rfl) fun p => ?_
  refine JL_all [] rfl ?_
  (repeat' (first | refine J_seq ?_ | refine J_skip ?_ | refine J_yes rfl ?_ | refine J_no rfl ?_))
  refine J_region ?_
  refine JL_run [] rfl ?_
  refine JL_val [] (v := .int .i64 a.fr) (OpV_blk 0 rfl rfl rfl rfl) rfl ?_
  refine JL_all [] rfl ?_
  exact J_drop [] (by decide) rfl (J_ret ⟨_, rfl, rfl, rfl⟩)
theorem in1_fn (a : Arc) : Fn 76 [.agg #[.int .i64 a.fr, .int .i64 a.to, .int .i64 a.cap]] [] [] fun u H' => u = .int .i64 a.to ∧ H' = [] := by
  refine Fn_of Try.func76 rfl rfl fun w0 => ?_
  (repeat' (first | refine J_seq ?_ | refine J_skip ?_ | refine J_yes rfl ?_ | refine J_no rfl ?_))
  refine J_region ?_
  refine JL_box rfl rfl rfl (fun _ => rfl) fun p => ?_
  refine JL_all [] rfl ?_
  (repeat' (first | refine J_seq ?_ | refine J_skip ?_ | refine J_yes rfl ?_ | refine J_no rfl ?_))
  refine J_region ?_
  refine JL_run [] rfl ?_
  refine JL_val [] (v := .int .i64 a.to) (OpV_blk 0 rfl rfl rfl rfl) rfl ?_
  refine JL_all [] rfl ?_
  exact J_drop [] (by decide) rfl (J_ret ⟨_, rfl, rfl, rfl⟩)
theorem netout_fn (N : Net) (hl2 : N.arcs.length ≤ 2000) (A : Option Addr) (c b o : Nat) (hA : N.arcs ≠ [] → A = some ⟨b, o, none⟩) (v : Int) :
    Fn 46 [netV N A c, .int .i64 v] [] [.seg b o (arcs N.arcs)] fun u H' => ∃ (L : List Int) (A' : Option Addr) (c' : Nat), L.length = manyE (·.fr) v N.arcs ∧ u = .slice A' L.length c' ∧ H' = [.own (.slice A' L.length c') 3 1 L.length (ints L)] := by
  refine Fn_of Try.func46 rfl rfl fun w0 => ?_
  (repeat' (first | refine J_seq ?_ | refine J_skip ?_ | refine J_yes rfl ?_ | refine J_no rfl ?_))
  refine J_region ?_
  refine JL_box (cs := netC N A c) rfl rfl rfl (fun _ => rfl) fun p => ?_
  refine JL_all [] rfl ?_
  (repeat' (first | refine J_seq ?_ | refine J_skip ?_ | refine J_yes rfl ?_ | refine J_no rfl ?_))
  refine J_region ?_
  refine JL_val [] (v := netV N A c) (OpV_blk 0 rfl rfl rfl rfl) rfl ?_
  refine JL_run [] rfl ?_
  refine JL_callR [] (netarcs_fn N hl2 A c b o hA v 75 (by kernel_rfl) (·.fr) out1_fn) rfl rfl rfl rfl (by kernel_rfl) ⟨⟨1, _, by simp, rfl, shows_seg _ _ _, seen_seg⟩, trivial⟩ (fun _ => rfl) ?_
  rintro _ H' ⟨L, A2, c2, hL, rfl, rfl⟩
  refine ⟨rfl, ?_⟩
  refine JL_all [] rfl ?_
  exact J_drop [0] (by decide) rfl (J_ret ⟨_, rfl, L, A2, c2, hL, rfl, rfl⟩)
theorem netin_fn (N : Net) (hl2 : N.arcs.length ≤ 2000) (A : Option Addr) (c b o : Nat) (hA : N.arcs ≠ [] → A = some ⟨b, o, none⟩) (v : Int) :
    Fn 47 [netV N A c, .int .i64 v] [] [.seg b o (arcs N.arcs)] fun u H' => ∃ (L : List Int) (A' : Option Addr) (c' : Nat), L.length = manyE (·.to) v N.arcs ∧ u = .slice A' L.length c' ∧ H' = [.own (.slice A' L.length c') 3 1 L.length (ints L)] := by
  refine Fn_of Try.func47 rfl rfl fun w0 => ?_
  (repeat' (first | refine J_seq ?_ | refine J_skip ?_ | refine J_yes rfl ?_ | refine J_no rfl ?_))
  refine J_region ?_
  refine JL_box (cs := netC N A c) rfl rfl rfl (fun _ => rfl) fun p => ?_
  refine JL_all [] rfl ?_
  (repeat' (first | refine J_seq ?_ | refine J_skip ?_ | refine J_yes rfl ?_ | refine J_no rfl ?_))
  refine J_region ?_
  refine JL_val [] (v := netV N A c) (OpV_blk 0 rfl rfl rfl rfl) rfl ?_
  refine JL_run [] rfl ?_
  refine JL_callR [] (netarcs_fn N hl2 A c b o hA v 76 (by kernel_rfl) (·.to) in1_fn) rfl rfl rfl rfl (by kernel_rfl) ⟨⟨1, _, by simp, rfl, shows_seg _ _ _, seen_seg⟩, trivial⟩ (fun _ => rfl) ?_
  rintro _ H' ⟨L, A2, c2, hL, rfl, rfl⟩
  refine ⟨rfl, ?_⟩
  refine JL_all [] rfl ?_
  exact J_drop [0] (by decide) rfl (J_ret ⟨_, rfl, L, A2, c2, hL, rfl, rfl⟩)
theorem gnet_out {g : Gr} (hg : g.Right) : manyE (·.fr) 1 (gnet g).arcs = g.left.toNat := by
  show manyE (·.fr) 1 (_ ++ _ ++ _) = _
  rw [manyE_app, manyE_app, manyE_all, manyE_none, manyE_none]
  · simp
  · intro a ha
    obtain ⟨i, _, rfl⟩ := List.mem_map.1 ha
    have := hg.left
    show 3 + g.left + (i : Int) ≠ 1
    omega
  · intro a ha
    obtain ⟨e, he, rfl⟩ := List.mem_map.1 ha
    have := hg.edge e he
    show 2 + e.l ≠ 1
    omega
  · intro a ha
    obtain ⟨i, _, rfl⟩ := List.mem_map.1 ha
    rfl
theorem gnet_in {g : Gr} (hg : g.Right) : manyE (·.to) 2 (gnet g).arcs = g.right.toNat := by
  show manyE (·.to) 2 (_ ++ _ ++ _) = _
  rw [manyE_app, manyE_app, manyE_none, manyE_none, manyE_all]
  · simp
  · intro a ha
    obtain ⟨i, _, rfl⟩ := List.mem_map.1 ha
    rfl
  · intro a ha
    obtain ⟨e, he, rfl⟩ := List.mem_map.1 ha
    have := hg.edge e he
    have := hg.left
    show 2 + g.left + e.r ≠ 2
    omega
  · intro a ha
    obtain ⟨i, _, rfl⟩ := List.mem_map.1 ha
    show 3 + (i : Int) ≠ 2
    omega
end Go.Proofs.Ytjbcgjahfalkaaa
