/- Layer 1: what Add, Sub and Mul answer, for all numbers of 64 bits. -/
import Derived.Test.YtbhfbpeldcnpfaaProg
import Derived.WalkKit
import Derived.WalkSpells
import Derived.WalkLawsBesides
namespace Go.Proofs.Ytbhfbpeldcnpfaa
open Go.RowKit

def inB (n : Int) : Prop := -9223372036854775808 ≤ n ∧ n ≤ 9223372036854775807
instance (n : Int) : Decidable (inB n) := inferInstanceAs (Decidable (_ ∧ _))
def orErr (n : Int) : Int × Int := if inB n then (n, 0) else (0, 3)
def two (r : Int × Int) : Value := .tuple #[.int .i64 r.1, .int .i64 r.2]
theorem two_eq {a b : Int} {r : Int × Int} (h : (a, b) = r) : Ending.returned (.tuple #[.int .i64 a, .int .i64 b]) = .returned (two r) := by
  subst h; rfl
theorem orErr_yes {n m : Int} (h : inB n) (e : m = n) : (m, 0) = orErr n := by
  unfold orErr; rw [if_pos h, e]
theorem orErr_no {n : Int} (h : ¬ inB n) : ((0 : Int), (3 : Int)) = orErr n := by
  unfold orErr; rw [if_neg h]

set_option maxHeartbeats 400000 in
theorem add_any (a b : Int) (w : World) (ha : inB a) (hb : inB b) :
    Calls Try.prog 77 #[.int .i64 a, .int .i64 b] w fun e w' => e = .returned (two (orErr (a + b))) ∧ w' = w := by
  cases h1 : decide (a < wrap64 (a + b)) <;> cases h2 : decide (0 < b) <;> cases h3 : (b != 0) <;>
    (go_enter Try.func77, Try.ntmps77
     go_wp2
     go_ret2
     refine ⟨two_eq ?_, rfl⟩
     simp only [decide_eq_true_eq, decide_eq_false_iff_not, bne_iff_ne, bne_eq_false_iff_eq, ne_eq] at h1 h2 h3
     unfold wrap64 at *
     unfold inB at ha hb
     first
       | exact orErr_yes (by unfold inB; omega) (by omega)
       | exact orErr_no (by unfold inB; omega))

theorem mul_good {a b : Int} (hb : inB b) (h0 : a ≠ 0) (h : inB (a * b)) : wrap64 (a * b) = a * b ∧ wrap64 (Int.tdiv (wrap64 (a * b)) a) = b := by
  have e : wrap64 (a * b) = a * b := by unfold inB wrap64 at *; omega
  refine ⟨e, ?_⟩
  rw [e, Int.mul_tdiv_cancel_left b h0]
  unfold inB wrap64 at *; omega
theorem mul_bad {a b : Int} (ha : inB a) (h0 : a ≠ 0) (h : ¬ inB (a * b)) (hm : ¬ (a = -1 ∧ b = -9223372036854775808)) :
    wrap64 (Int.tdiv (wrap64 (a * b)) a) ≠ b := by
  intro hd
  have hp : inB (wrap64 (a * b)) := by unfold inB wrap64; omega
  have hc : wrap64 (a * b) ≠ a * b := fun e => h (e ▸ hp)
  have hk : ∃ k, wrap64 (a * b) = a * b + 18446744073709551616 * k := ⟨-((a * b + 9223372036854775808) / 18446744073709551616), by unfold wrap64; omega⟩
  obtain ⟨k, hk⟩ := hk
  have hr := Int.tmod_add_mul_tdiv (wrap64 (a * b)) a
  have hlt : (Int.tmod (wrap64 (a * b)) a).natAbs < a.natAbs := by
    rw [Int.natAbs_tmod]; exact Nat.mod_lt _ (by omega)
  have hq : inB (Int.tdiv (wrap64 (a * b)) a) ∨ (a = -1 ∧ b = -9223372036854775808) := by
    have hab := Int.natAbs_tdiv_le_natAbs (wrap64 (a * b)) a
    by_cases hx : inB (Int.tdiv (wrap64 (a * b)) a)
    · exact .inl hx
    · right
      have : Int.tdiv (wrap64 (a * b)) a = 9223372036854775808 := by unfold inB at *; omega
      rw [this] at hd hr
      have hb2 : b = -9223372036854775808 := by rw [← hd]; unfold wrap64; omega
      refine ⟨?_, hb2⟩
      have h1 : (9223372036854775808 : Int).natAbs = 9223372036854775808 := rfl
      rw [this, h1] at hab
      have h2 : (wrap64 (a * b)) = -9223372036854775808 := by unfold inB at hp; omega
      rw [h2] at this
      have h3 := Int.tmod_add_mul_tdiv (-9223372036854775808) a
      rw [this] at h3
      have h4 : (Int.tmod (-9223372036854775808) a).natAbs < a.natAbs := by rw [Int.natAbs_tmod]; exact Nat.mod_lt _ (by omega)
      unfold inB at *; omega
  rcases hq with hq | hq
  · have e2 : Int.tdiv (wrap64 (a * b)) a = b := by
      have e3 : wrap64 (Int.tdiv (wrap64 (a * b)) a) = Int.tdiv (wrap64 (a * b)) a := by
        generalize Int.tdiv (wrap64 (a * b)) a = q at *
        unfold inB at hq; unfold wrap64; omega
      rw [← e3]; exact hd
    rw [e2] at hr
    have hne : k ≠ 0 := fun e => hc (by rw [hk, e]; omega)
    unfold inB at *
    generalize a * b = t at *
    omega
  · exact hm hq

end Go.Proofs.Ytbhfbpeldcnpfaa
