/- The engine and the words that all chapters share: several texts in one. -/
import Derived.Test.YtjbcgjahfalkaaaQX2
import Derived.Test.YtjbcgjahfalkaaaMade13
import Derived.Laws.StructEq
import Derived.ChangeKeysEq

/- What the laws of the halves need of turns. -/
set_option linter.unusedVariables false
set_option linter.unusedSimpArgs false
namespace Go.Proofs.Ytjbcgjahfalkaaa
open Go.RowKit
theorem turns_get : ∀ {l : List Turn} {i : Nat} {t : Turn}, l[i]? = some t → (turns l)[i * 4]? = some (.int .i64 t.least) ∧ (turns l)[i * 4 + 1]? = some (.int .i64 t.p) ∧ (turns l)[i * 4 + 2]? = some (.int .i64 t.w) ∧ (turns l)[i * 4 + 3]? = some (.int .i64 t.v)
  | [], _, _, h => by simp at h
  | a :: l, 0, t, h => by
    obtain rfl : a = t := by simpa using h
    exact ⟨rfl, rfl, rfl, rfl⟩
  | a :: l, i + 1, t, h => by
    have ih := turns_get (l := l) (i := i) (t := t) (by simpa using h)
    rw [show (i + 1) * 4 = i * 4 + 1 + 1 + 1 + 1 by omega]
    exact ih
theorem readT_turn {l : List Turn} {m : Nat} {t : Turn} (h : l[m]? = some t) : readT 61 (turns l) (m * 4) = some (.agg #[.int .i64 t.least, .int .i64 t.p, .int .i64 t.w, .int .i64 t.v]) := by
  obtain ⟨h1, h2, h3, h4⟩ := turns_get h
  show (match takeC (turns l) (m * 4) 4 with | some l => some (Value.agg l.toArray) | none => none) = _
  have : takeC (turns l) (m * 4) 4 = some [.int .i64 t.least, .int .i64 t.p, .int .i64 t.w, .int .i64 t.v] := by
    unfold takeC; rw [h1]
    unfold takeC; rw [h2]
    unfold takeC; rw [h3]
    unfold takeC; rw [h4]
    unfold takeC; rfl
  rw [this]
theorem made_rooms {N : Net} (hR : N.Right) (hc : ∀ a ∈ N.arcs, a.cap ≤ 1000000) : ∃ nr, nr ≤ 62 ∧ floorOf (mostC N.arcs) = halfZ nr 0 ∧ (nr = 0 → ∀ a ∈ N.arcs, a.cap = 0) ∧ (0 < nr → 0 < N.arcs.length) ∧ ∀ k, halfZ nr k ≤ 1000000 := by
  have hb := mostC_in hR N.arcs.length
  rw [List.take_of_length_le (Nat.le_refl _)] at hb
  obtain ⟨h1, h2, h3⟩ := mostC_spec N.arcs 0 fun a ha => (hR.arc a ha).2.2
  change 0 ≤ mostC N.arcs at h1
  change ∀ a ∈ N.arcs, a.cap ≤ mostC N.arcs at h2
  change mostC N.arcs = 0 ∨ ∃ a ∈ N.arcs, mostC N.arcs = a.cap at h3
  obtain ⟨nr, g1, g2, g3⟩ := floor_half hb.1 (by omega)
  have hm : mostC N.arcs ≤ 1000000 := by
    rcases h3 with h | ⟨a, ha, h⟩
    · omega
    · rw [h]; exact hc a ha
  have hfl : floorOf (mostC N.arcs) ≤ mostC N.arcs := by
    unfold floorOf
    split
    · omega
    · have := bitLen_le (show 0 < (mostC N.arcs).toNat by omega)
      have e : ((2 ^ (bitLen (mostC N.arcs).toNat - 1) : Nat) : Int) = 2 ^ (bitLen (mostC N.arcs).toNat - 1) := by rw [Int.natCast_pow]; rfl
      rw [← e]; omega
  have hk : ∀ k, halfZ nr k ≤ halfZ nr 0 := by
    intro k
    induction k with
    | zero => exact Int.le_refl _
    | succ k ih =>
      have := halfZ_half nr k
      have := halfZ_nonneg nr k
      omega
  refine ⟨nr, g1, g2, fun h0 a ha => ?_, fun h0 => ?_, fun k => by have := hk k; omega⟩
  · have e := g3.1 h0
    have := h2 a ha
    have := (hR.arc a ha).2.2
    omega
  · rcases h3 with h | ⟨a, ha, h⟩
    · have := g3.2 h; omega
    · exact List.length_pos_of_mem ha
theorem Sc.lev {N : Net} (hR : N.Right) {nr : Nat} {f : List Int} {ts : List Turn} (h : Sc N nr nr f ts) (hcap : nr = 0 → ∀ a ∈ N.arcs, a.cap = 0) (h0 : ∃ lv, IsLev N (roomL (N.arcs.zip (List.replicate N.arcs.length 0))) 1 lv) : ∃ lv, IsLev N (roomL (N.arcs.zip f)) 1 lv ∧ lvZ lv N.snk.toNat < 0 := by
  obtain ⟨_, _, _, _, _, _, hlast⟩ := h.all hR
  have h' := h
  rcases Nat.eq_zero_or_pos nr with e | e
  · subst e
    obtain ⟨lv, hlv⟩ := h0
    cases h with
    | nil => exact ⟨lv, hlv, h'.stop hR hcap hlv⟩
  · obtain ⟨lv, g1, g2⟩ := hlast e
    obtain ⟨j, rfl⟩ : ∃ j, nr = j + 1 := ⟨nr - 1, by omega⟩
    rw [show j + 1 - 1 = j by omega, halfZ_last] at g1
    exact ⟨lv, g1, g2⟩
end Go.Proofs.Ytjbcgjahfalkaaa


/- Turns compared. -/
set_option linter.unusedVariables false
set_option linter.unusedSimpArgs false
namespace Go.Proofs.Ytjbcgjahfalkaaa
open Go.RowKit
theorem turn_eq (w : World) (a b c d : Int) : (Op.equalIn 10000 61 (.agg #[.int .i64 a, .int .i64 b, .int .i64 c, .int .i64 d]) (.agg #[.int .i64 a, .int .i64 b, .int .i64 c, .int .i64 d])).run Try.prog w = .ok true w := by
  have h2 : ∀ (i : Nat) (v : Value), #[Value.int .i64 a, .int .i64 b, .int .i64 c, .int .i64 d][i]? = some v → (part 2 #[Value.int .i64 a, .int .i64 b, .int .i64 c, .int .i64 d] i).run Try.prog w = .ok v w := fun i v h => run_part_plain w (by kernel_rfl) h
  have h3 : ∀ (i : Nat) (v : Value), #[Value.int .i64 a, .int .i64 b, .int .i64 c, .int .i64 d][i]? = some v → (part 3 #[Value.int .i64 a, .int .i64 b, .int .i64 c, .int .i64 d] i).run Try.prog w = .ok v w := fun i v h => run_part_plain w (by kernel_rfl) h
  have g2 : ∀ x y : Int, (Op.equalIn 9999 2 (.int .i64 x) (.int .i64 y)).run Try.prog w = .ok (x == y) w := fun x y => run_equalIn_int w 9998 2 .i64 .i64 x y Try.underlying2
  have g3 : ∀ x y : Int, (Op.equalIn 9999 3 (.int .i64 x) (.int .i64 y)).run Try.prog w = .ok (x == y) w := fun x y => run_equalIn_int w 9998 3 .i64 .i64 x y Try.underlying3
  rw [run_equalIn_agg w 9999 61 _ _ (by simp [Program.fieldsOf, Try.underlying61]) Try.stoodInHeld61]
  simp only [Program.fieldsOf, Try.underlying61, Op.eqFields, Sem.run_bind, Sem.run_ite, Sem.run_pure]
  simp [h2 0 _ rfl, h3 1 _ rfl, h3 2 _ rfl, h2 3 _ rfl, g2, g3]
theorem OpV_turn_same {X : Cx} {E : Env} {H : Heap} {o : Oper} {t' : Nat} {x y : Operand} {a b c d : Int} (ho : o.op = .binOp .neq 61 x y t') (hx : val E x = some (.agg #[.int .i64 a, .int .i64 b, .int .i64 c, .int .i64 d])) (hy : val E y = some (.agg #[.int .i64 a, .int .i64 b, .int .i64 c, .int .i64 d])) :
    OpV X o E H (.bool false) := by
  intro ac w hA hH
  simp [execOp, ho, hA.val hx, hA.val hy, run_eqGuard_agg w .neq 61 _ _ _ _ Try.eqGuardType61, run_neq_struct, turn_eq]
theorem smaxErr_fn (N : Net) (hN : N.Fits) (hR : N.Right) (A : Option Addr) (c b o : Nat) (hA : N.arcs ≠ [] → A = some ⟨b, o, none⟩) (sg : Int) (h1 : sg ≠ 112) (h2 : sg ≠ 116) :
    Fn 34 [netV N A c, .int .u8 sg] [] [.seg b o (arcs N.arcs)] fun v H' => v = .tuple #[.slice none 0 0, .slice none 0 0, .int .i64 1] ∧ H' = [] := by
  refine Fn_of Try.func34 rfl rfl fun w0 => ?_
  (repeat' (first | refine J_seq ?_ | refine J_skip ?_ | refine J_yes rfl ?_ | refine J_no rfl ?_))
  refine J_region ?_
  refine JL_box (cs := netC N A c) rfl rfl rfl (fun _ => rfl) fun p2 => ?_
  refine JL_box rfl rfl rfl (fun _ => rfl) fun p3 => ?_
  refine JL_all [] rfl ?_
  (repeat' (first | refine J_seq ?_ | refine J_skip ?_ | refine J_yes rfl ?_ | refine J_no rfl ?_))
  refine J_region ?_
  refine JL_val [] (v := netV N A c) (OpV_blk 1 rfl rfl rfl rfl) rfl ?_
  refine JL_callR [] (check_fn N hN A c b o hA) rfl rfl rfl rfl (by kernel_rfl) ⟨⟨2, _, by simp, rfl, shows_seg _ _ _, seen_seg⟩, trivial⟩ (fun _ => rfl) ?_
  rintro v H' ⟨rfl, rfl⟩
  refine ⟨rfl, ?_⟩
  rw [hR.check]
  refine JL_all [] rfl ?_
  (repeat' (first | refine J_seq ?_ | refine J_skip ?_ | refine J_yes rfl ?_ | refine J_no rfl ?_))
  refine J_region ?_
  refine JL_all [] rfl ?_
  (repeat' (first | refine J_seq ?_ | refine J_skip ?_ | refine J_yes rfl ?_ | refine J_no rfl ?_))
  refine J_dec rfl (fun h => absurd rfl h) (fun _ => J_skip ?_)
  (repeat' (first | refine J_seq ?_ | refine J_skip ?_ | refine J_yes rfl ?_ | refine J_no rfl ?_))
  refine J_region ?_
  refine JL_run [] rfl ?_
  refine JL_val [] (v := .int .u8 sg) (OpV_blk 0 rfl rfl rfl rfl) rfl ?_
  refine JL_run [] rfl ?_
  refine JL_set 22 (v' := .bool true) rfl (congrArg Value.bool (cdec_yes h1)) ?_
  refine JL_val [2] (v := .int .u8 sg) (OpV_blk 0 rfl rfl rfl rfl) rfl ?_
  refine JL_all [2] rfl ?_
  refine J_set 25 (v' := .bool true) rfl (congrArg Value.bool (cdec_yes h2)) ?_
  (repeat' (first | refine J_seq ?_ | refine J_skip ?_ | refine J_yes rfl ?_ | refine J_no rfl ?_))
  refine J_region ?_
  refine JL_all [] rfl ?_
  exact J_drop [] (by decide) rfl (J_ret ⟨_, rfl, rfl, rfl⟩)
end Go.Proofs.Ytjbcgjahfalkaaa
