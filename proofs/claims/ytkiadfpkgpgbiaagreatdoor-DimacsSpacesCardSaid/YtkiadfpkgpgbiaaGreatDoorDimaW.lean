
/- A network's text: its lines. -/
import Derived.Test.YtkiadfpkgpgbiaaGreatDoorTextK
import Derived.Test.YtkiadfpkgpgbiaaGreatDoorDimaG
set_option linter.unusedVariables false
set_option linter.unusedSimpArgs false
namespace Go.Proofs.YtkiadfpkgpgbiaaGreatDoor
open Go.RowKit
open Lib
def wrL (f : List UInt8) (l : List Int) : List UInt8 := join (f :: l.map itoa) [32]
theorem join_cons (x : List UInt8) (xs : List (List UInt8)) (sep : List UInt8) : join (x :: xs) sep = x ++ (xs.map fun y => sep ++ y).flatten := by
  unfold join
  induction xs generalizing x with
  | nil => simp [List.intercalate]
  | cons y r ih =>
    have := ih y
    simp only [List.intercalate] at this ⊢
    rw [List.intersperse_cons_cons]
    simp only [List.flatten_cons, List.map_cons]
    rw [this]
    simp
theorem wrL_eq (f : List UInt8) (l : List Int) : wrL f l = f ++ (l.map fun n => 32 :: itoa n).flatten := by
  unfold wrL
  rw [join_cons, List.map_map]
  rfl
theorem wrL_len (f : List UInt8) (l : List Int) (hl : ∀ n ∈ l, inB n) : (wrL f l).length ≤ f.length + l.length * 21 := by
  rw [wrL_eq, List.length_append]
  have : ((l.map fun n => 32 :: itoa n).flatten).length ≤ l.length * 21 := by
    induction l with
    | nil => simp
    | cons n r ih =>
      have h1 := hl n (by simp)
      unfold inB at h1
      have h2 := (itoa_len n (by omega)).2
      have h3 := ih fun x hx => hl x (by simp [hx])
      simp only [List.map_cons, List.flatten_cons, List.length_append, List.length_cons]
      omega
  omega
theorem dwrite_fn (V : LibV) (f : List UInt8) (hf : f.length ≤ 100) (l : List Int) (hl : ∀ n ∈ l, inB n) (hll : l.length ≤ 100) (B : Option Addr) (n cb bb ob : Nat) (hB : l ≠ [] → B = some ⟨bb, ob, none⟩) (hn : n = l.length) :
    Fn 17 [str f, .slice B n cb] [] ([.seg bb ob (ints l)] ++ V.heap) fun v H' => v = str (wrL f l) ∧ H' = [] := by
  subst hn
  have hwl := wrL_len f l hl
  refine Fn_of Tryz.func17 rfl rfl fun w0 => ?_
  (repeat' (first | refine J_seq ?_ | refine J_skip ?_ | refine J_yes rfl ?_ | refine J_no rfl ?_))
  refine J_region ?_
  refine JL_all [] rfl ?_
  (repeat' (first | refine J_seq ?_ | refine J_skip ?_ | refine J_yes rfl ?_ | refine J_no rfl ?_))
  refine J_region ?_
  refine JL_run [] rfl ?_
  refine JL_lit rfl rfl rfl rfl rfl rfl rfl (fun _ => rfl) fun g0 => ?_
  refine JL_own 1 1 (by rfl) (by decide) ?_
  refine JL_all [] rfl ?_
  (repeat' (first | refine J_seq ?_ | refine J_skip ?_ | refine J_yes rfl ?_ | refine J_no rfl ?_))
  refine J_region ?_
  refine JL_all [] rfl ?_
  refine J_block ?_
  refine J_loop (σ := Nat × Option Addr × Nat) (fun s => [(12, .int .i64 s.1), (11, .int .i64 l.length), (10, .slice B l.length cb), (5, .slice s.2.1 (f :: (l.take s.1).map itoa).length s.2.2)])
    (fun s => [.own (.slice s.2.1 (f :: (l.take s.1).map itoa).length s.2.2) 9 1 (f :: (l.take s.1).map itoa).length (strs (f :: (l.take s.1).map itoa)), .seg bb ob (ints l)] ++ V.heap)
    (fun s => s.1 ≤ l.length) (fun s => l.length - s.1) (0, some ⟨g0, 0, none⟩, 1) [0, 1, 2, 3, 4] ⟨rfl, rfl, rfl, rfl, trivial⟩ (by decide) rfl (Nat.zero_le _) ?_
  rintro ⟨k, A, c⟩ hk
  simp only at hk ⊢
  (repeat' (first | refine J_seq ?_ | refine J_skip ?_ | refine J_yes rfl ?_ | refine J_no rfl ?_))
  refine J_region ?_
  refine JL_all [] rfl ?_
  refine J_seq (J_dec rfl (fun hlt => J_skip ?_) (fun hge => J_exit ?_))
  · have hlt' : k < l.length := by omega
    obtain ⟨x, hx⟩ : ∃ x, l[k]? = some x := ⟨l[k], List.getElem?_eq_getElem hlt'⟩
    obtain rfl := hB (by rintro rfl; simp at hlt')
    have hxB := hl x (List.mem_of_getElem? hx)
    have hlen : (f :: (l.take k).map itoa).length = k + 1 := by rw [List.length_cons, List.length_map, List.length_take]; omega
    refine J_seq (J_block ?_)
    (repeat' (first | refine J_seq ?_ | refine J_skip ?_ | refine J_yes rfl ?_ | refine J_no rfl ?_))
    refine J_region ?_
    refine JL_run [] rfl ?_
    refine JL_val [] (idx1 rfl rfl rfl rfl rfl hlt') rfl ?_
    refine JL_val [] (ldseg 1 rfl rfl rfl rfl (readT_int' hx)) rfl ?_
    refine JL_all [] rfl ?_
    (repeat' (first | refine J_seq ?_ | refine J_skip ?_ | refine J_yes rfl ?_ | refine J_no rfl ?_))
    refine J_region ?_
    refine JL_run [] rfl ?_
    refine JL_callR [] (write_fn V x hxB) rfl rfl rfl rfl (by kernel_rfl) ⟨⟨2, by simp, rfl⟩, ⟨3, by simp, rfl⟩, ⟨4, by simp, rfl⟩, trivial⟩ (fun _ => rfl) ?_
    rintro v H' ⟨rfl, rfl⟩
    refine ⟨rfl, ?_⟩
    refine JL_lit rfl rfl rfl rfl rfl rfl rfl (fun _ => rfl) fun g2 => ?_
    refine JL_appendS (n := (f :: (l.take k).map itoa).length) (m := 1) (off := 0) (news := strs [itoa x]) 1 0 rfl rfl rfl rfl rfl rfl (by decide) rfl rfl (shows_blk g2 _ _ (0, 0)) (fun _ => rfl) rfl rfl (by omega) (by omega) (fun _ _ => rfl) fun A2 c2 => ?_
    refine JL_all [] rfl ?_
    (repeat' (first | refine J_seq ?_ | refine J_skip ?_ | refine J_yes rfl ?_ | refine J_no rfl ?_))
    refine J_region ?_
    refine JL_all [] rfl ?_
    have htk : f :: (l.take (k + 1)).map itoa = (f :: (l.take k).map itoa) ++ [itoa x] := by rw [List.take_add_one, hx]; simp
    refine ⟨(k + 1, A2, c2), [1, 2, 3, 4, 5], ⟨?_, rfl, rfl, ?_, trivial⟩, by decide, ?_, by simp only; omega, by simp only; omega⟩
    · show some (Value.int .i64 (IntKind.i64.wrap ((k : Int) + 1))) = _
      rw [w64 (by omega)]; rfl
    · simp only [htk]; rw [List.length_append]; rfl
    · simp only [htk]; rw [List.length_append, show strs ((f :: (l.take k).map itoa) ++ [itoa x]) = strs (f :: (l.take k).map itoa) ++ strs [itoa x] by simp [strs]]; rfl
  obtain rfl : k = l.length := by omega
  refine J_know (own_is 0 rfl) (fun ho => ?_)
  obtain ⟨g, rfl⟩ := ho.2.2.1 (by simp)
  rw [List.take_length] at *
  (repeat' (first | refine J_seq ?_ | refine J_skip ?_ | refine J_yes rfl ?_ | refine J_no rfl ?_))
  refine J_region ?_
  refine JL_run [] rfl ?_
  refine JL_callR [] (tjoin_fn (some ⟨g, 0, none⟩) _ c g 0 (f :: l.map itoa) rfl (fun _ => rfl) ho.2.1 (by show (wrL f l).length ≤ _; omega) (by simp; omega)) rfl rfl rfl rfl (by kernel_rfl) ⟨⟨0, _, by simp, rfl, shows_own, .inr rfl⟩, trivial⟩ (fun _ => rfl) ?_
  rintro v H' ⟨rfl, rfl⟩
  refine ⟨rfl, ?_⟩
  refine JL_all [] rfl ?_
  exact J_drop [] (by decide) rfl (J_ret ⟨_, rfl, rfl, rfl⟩)
end Go.Proofs.YtkiadfpkgpgbiaaGreatDoor
