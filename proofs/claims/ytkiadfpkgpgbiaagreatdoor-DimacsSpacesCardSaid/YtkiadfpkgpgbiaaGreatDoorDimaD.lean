
/- A network's text with other blanks, with zeros ahead of numbers, with remarks. -/
import Derived.Test.YtkiadfpkgpgbiaaGreatDoorDimaB
set_option linter.unusedVariables false
set_option linter.unusedSimpArgs false
namespace Go.Proofs.YtkiadfpkgpgbiaaGreatDoor
open Lib
theorem num_zero {t : List UInt8} (hne : t ≠ []) (hd : t.all digB = true) : numL (48 :: t) = numL t := by
  have h45 : t.head? ≠ some 45 := by
    intro e
    cases t with
    | nil => exact hne rfl
    | cons b r =>
      simp only [List.head?_cons, Option.some.injEq] at e
      subst e
      rw [List.all_cons, Bool.and_eq_true] at hd
      exact absurd hd.1 (by decide)
  have hv : decV 0 (48 :: t) = decV 0 t := rfl
  unfold numL
  simp only
  rw [if_neg (show ¬ (48 :: t).head? = some 45 by simp), if_neg (show ¬ (48 :: t).head? = some 45 by simp), if_neg h45, if_neg h45]
  rw [if_neg (show ¬ (48 :: t = [] ∨ ¬ (48 :: t).all digB = true) from fun h => h.elim (fun h => by cases h) (fun h => h (by rw [List.all_cons, hd]; rfl))), if_neg (show ¬ (t = [] ∨ ¬ t.all digB = true) from fun h => h.elim hne (fun h => h hd)), hv]
def remk : List UInt8 := [99, 32, 112, 32, 109, 97, 120, 32, 57, 32, 57, 10, 9, 10]
/-- How a text may be changed. -/
inductive Gen : List UInt8 → List UInt8 → Prop
  | nil : Gen [] []
  | chr (x : UInt8) (a m : List UInt8) : x ≠ 32 → x ≠ 10 → Gen a m → Gen (x :: a) (x :: m)
  | one (a m : List UInt8) : Gen a m → Gen (32 :: a) (32 :: m)
  | tab (a m : List UInt8) : Gen a m → Gen (32 :: a) (9 :: m)
  | two (a m : List UInt8) : Gen a m → Gen (32 :: a) (32 :: 32 :: m)
  | ret (a m : List UInt8) : Gen a m → Gen (32 :: a) (32 :: 13 :: 32 :: m)
  | zero (d : UInt8) (a m : List UInt8) : digB d = true → Gen (d :: a) m → Gen (32 :: d :: a) (9 :: 9 :: 32 :: 48 :: m)
  | zeros (d : UInt8) (a m : List UInt8) : digB d = true → Gen (d :: a) m → Gen (32 :: d :: a) (32 :: 48 :: 48 :: m)
  | nl (a m : List UInt8) : Gen a m → Gen (10 :: a) (10 :: m)
  | rem (a m : List UInt8) : Gen a m → Gen (10 :: a) (10 :: (remk ++ m))
def tokB (t : List UInt8) : Prop := t ≠ [] ∧ ∀ b ∈ t, b ≠ 10 ∧ sepB b = false
theorem sep32 {b : UInt8} (h : sepB b = false) : b ≠ 32 := by rintro rfl; exact absurd h (by decide)
theorem gen_chr {S m : List UInt8} (h : Gen S m) : ∀ (x : UInt8) (a : List UInt8), S = x :: a → x ≠ 32 → x ≠ 10 → ∃ m2, m = x :: m2 ∧ Gen a m2 := by
  intro x a e h32 h10
  cases h with
  | nil => cases e
  | chr y b m2 _ _ h2 =>
    obtain ⟨rfl, rfl⟩ := List.cons.inj e
    exact ⟨m2, rfl, h2⟩
  | one => exact absurd (List.cons.inj e).1.symm h32
  | tab => exact absurd (List.cons.inj e).1.symm h32
  | two => exact absurd (List.cons.inj e).1.symm h32
  | ret => exact absurd (List.cons.inj e).1.symm h32
  | zero => exact absurd (List.cons.inj e).1.symm h32
  | zeros => exact absurd (List.cons.inj e).1.symm h32
  | nl => exact absurd (List.cons.inj e).1.symm h10
  | rem => exact absurd (List.cons.inj e).1.symm h10
theorem gen_tok : ∀ (t r m : List UInt8), (∀ b ∈ t, b ≠ 10 ∧ sepB b = false) → Gen (t ++ r) m → ∃ m', m = t ++ m' ∧ Gen r m'
  | [], r, m, _, h => ⟨m, rfl, h⟩
  | x :: t, r, m, hb, h => by
    have hx := hb x (by simp)
    have h32 := sep32 hx.2
    obtain ⟨m2, rfl, h2⟩ := gen_chr h x (t ++ r) rfl h32 hx.1
    obtain ⟨m', rfl, h3⟩ := gen_tok t r m2 (fun b hb' => hb b (by simp [hb'])) h2
    exact ⟨m', rfl, h3⟩
def wq (t u : List UInt8) : Prop := u = t ∨ ((t.head?.map digB = some true) ∧ (u = 48 :: t ∨ u = 48 :: 48 :: t))
def wqs : List (List UInt8) → List (List UInt8) → Prop
  | [], [] => True
  | t :: ts, u :: us => wq t u ∧ wqs ts us
  | _, _ => False
def toks (ts : List (List UInt8)) : List UInt8 := (ts.map fun t => 32 :: t).flatten
theorem words_tok {t : List UInt8} (h : tokB t) {b : UInt8} (hb : sepB b = true) (r : List UInt8) : wordsL (t ++ b :: r) = t :: wordsL r := by
  rw [words_app hb, words_one (fun b hb => (h.2 b hb).2) h.1]; rfl
theorem tok_zero {t : List UInt8} (h : tokB t) : tokB (48 :: t) := ⟨by simp, fun b hb => by
  rcases List.mem_cons.1 hb with rfl | hb
  · decide
  · exact h.2 b hb⟩
theorem gen_toks : ∀ (ts : List (List UInt8)) (a m : List UInt8), (∀ t ∈ ts, tokB t) → Gen (toks ts ++ 10 :: a) m →
    ∃ y rm m1 us, m = y ++ 10 :: (rm ++ m1) ∧ (rm = [] ∨ rm = remk) ∧ Gen a m1 ∧ (∀ b ∈ y, b ≠ 10) ∧ wqs ts us ∧ ∀ t0, tokB t0 → wordsL (t0 ++ y) = t0 :: us
  | [], a, m, _, h => by
    have hw : ∀ t0, tokB t0 → wordsL (t0 ++ []) = [t0] := fun t0 h0 => by rw [List.append_nil]; exact words_one (fun b hb => (h0.2 b hb).2) h0.1
    cases h with
    | chr _ _ _ _ h10 _ => exact absurd rfl h10
    | nl _ m1 h1 => exact ⟨[], [], m1, [], rfl, .inl rfl, h1, fun b hb => absurd hb List.not_mem_nil, trivial, hw⟩
    | rem _ m1 h1 => exact ⟨[], remk, m1, [], rfl, .inr rfl, h1, fun b hb => absurd hb List.not_mem_nil, trivial, hw⟩
  | t :: ts, a, m, ht, h => by
    have h0 := ht t (by simp)
    have e : toks (t :: ts) ++ 10 :: a = 32 :: (t ++ (toks ts ++ 10 :: a)) := by simp [toks]
    rw [e] at h
    have key : ∀ (m2 : List UInt8), Gen (t ++ (toks ts ++ 10 :: a)) m2 → ∃ y rm m1 us, m2 = (t ++ y) ++ 10 :: (rm ++ m1) ∧ (rm = [] ∨ rm = remk) ∧ Gen a m1 ∧ (∀ b ∈ t ++ y, b ≠ 10) ∧ wqs ts us ∧ ∀ t0, tokB t0 → wordsL (t0 ++ y) = t0 :: us := by
      intro m2 h2
      obtain ⟨m3, rfl, h3⟩ := gen_tok t _ _ h0.2 h2
      obtain ⟨y, rm, m1, us, rfl, k1, k2, k3, k4, k5⟩ := gen_toks ts a m3 (fun x hx => ht x (by simp [hx])) h3
      refine ⟨y, rm, m1, us, by simp, k1, k2, fun b hb => ?_, k4, k5⟩
      rcases List.mem_append.1 hb with hb | hb
      · exact (h0.2 b hb).1
      · exact k3 b hb
    have fin : ∀ (k u : List UInt8) (y : List UInt8) (us : List (List UInt8)), wq t u → wqs ts us → (∀ b ∈ k ++ y, b ≠ 10) → (∀ t0, tokB t0 → wordsL (t0 ++ (k ++ y)) = t0 :: u :: us) → ∀ m2 rm m1, m2 = (k ++ y) ++ 10 :: (rm ++ m1) → (rm = [] ∨ rm = remk) → Gen a m1 →
        ∃ y rm m1 us, m2 = y ++ 10 :: (rm ++ m1) ∧ (rm = [] ∨ rm = remk) ∧ Gen a m1 ∧ (∀ b ∈ y, b ≠ 10) ∧ wqs (t :: ts) us ∧ ∀ t0, tokB t0 → wordsL (t0 ++ y) = t0 :: us := by
      intro k u y us w1 w2 w3 w4 m2 rm m1 e1 e2 e3
      exact ⟨k ++ y, rm, m1, u :: us, e1, e2, e3, w3, ⟨w1, w2⟩, w4⟩
    have no10 : ∀ (k y : List UInt8), (∀ b ∈ k, b ≠ 10) → (∀ b ∈ y, b ≠ 10) → ∀ b ∈ k ++ y, b ≠ 10 := fun k y h1 h2 b hb => (List.mem_append.1 hb).elim (h1 b) (h2 b)
    have dig : ∀ d r, d :: r = t ++ (toks ts ++ 10 :: a) → digB d = true → t.head?.map digB = some true := by
      intro d r e hd
      obtain ⟨x, t', rfl⟩ : ∃ x t', t = x :: t' := by
        cases t with
        | nil => exact absurd rfl h0.1
        | cons x t' => exact ⟨x, t', rfl⟩
      have := (List.cons.inj e).1
      subst this
      simp [hd]
    generalize hR : t ++ (toks ts ++ 10 :: a) = R at h key dig
    cases h with
    | chr _ _ _ h32 _ _ => exact absurd rfl h32
    | one _ m2 h2 =>
      obtain ⟨y, rm, m1, us, e1, k1, k2, k3, k4, k5⟩ := key m2 h2
      exact fin [32] t (t ++ y) us (.inl rfl) k4 (no10 _ _ (by decide) k3) (fun t0 ht0 => by rw [show t0 ++ ([32] ++ (t ++ y)) = t0 ++ 32 :: (t ++ y) from rfl, words_tok ht0 rfl, k5 t h0]) _ rm m1 (by rw [e1]; simp) k1 k2
    | tab _ m2 h2 =>
      obtain ⟨y, rm, m1, us, e1, k1, k2, k3, k4, k5⟩ := key m2 h2
      exact fin [9] t (t ++ y) us (.inl rfl) k4 (no10 _ _ (by decide) k3) (fun t0 ht0 => by rw [show t0 ++ ([9] ++ (t ++ y)) = t0 ++ 9 :: (t ++ y) from rfl, words_tok ht0 rfl, k5 t h0]) _ rm m1 (by rw [e1]; simp) k1 k2
    | two _ m2 h2 =>
      obtain ⟨y, rm, m1, us, e1, k1, k2, k3, k4, k5⟩ := key m2 h2
      exact fin [32, 32] t (t ++ y) us (.inl rfl) k4 (no10 _ _ (by decide) k3) (fun t0 ht0 => by rw [show t0 ++ ([32, 32] ++ (t ++ y)) = t0 ++ 32 :: 32 :: (t ++ y) from rfl, words_tok ht0 rfl, words_sep rfl, k5 t h0]) _ rm m1 (by rw [e1]; simp) k1 k2
    | ret _ m2 h2 =>
      obtain ⟨y, rm, m1, us, e1, k1, k2, k3, k4, k5⟩ := key m2 h2
      exact fin [32, 13, 32] t (t ++ y) us (.inl rfl) k4 (no10 _ _ (by decide) k3) (fun t0 ht0 => by rw [show t0 ++ ([32, 13, 32] ++ (t ++ y)) = t0 ++ 32 :: 13 :: 32 :: (t ++ y) from rfl, words_tok ht0 rfl, words_sep rfl, words_sep rfl, k5 t h0]) _ rm m1 (by rw [e1]; simp) k1 k2
    | zero d r m2 hd h2 =>
      obtain ⟨y, rm, m1, us, e1, k1, k2, k3, k4, k5⟩ := key m2 h2
      exact fin [9, 9, 32, 48] (48 :: t) (t ++ y) us (.inr ⟨dig d r rfl hd, .inl rfl⟩) k4 (no10 _ _ (by decide) k3) (fun t0 ht0 => by rw [show t0 ++ ([9, 9, 32, 48] ++ (t ++ y)) = t0 ++ 9 :: 9 :: 32 :: ((48 :: t) ++ y) from rfl, words_tok ht0 rfl, words_sep rfl, words_sep rfl, k5 _ (tok_zero h0)]) _ rm m1 (by rw [e1]; simp) k1 k2
    | zeros d r m2 hd h2 =>
      obtain ⟨y, rm, m1, us, e1, k1, k2, k3, k4, k5⟩ := key m2 h2
      exact fin [32, 48, 48] (48 :: 48 :: t) (t ++ y) us (.inr ⟨dig d r rfl hd, .inr rfl⟩) k4 (no10 _ _ (by decide) k3) (fun t0 ht0 => by rw [show t0 ++ ([32, 48, 48] ++ (t ++ y)) = t0 ++ 32 :: ((48 :: 48 :: t) ++ y) from rfl, words_tok ht0 rfl, k5 _ (tok_zero (tok_zero h0))]) _ rm m1 (by rw [e1]; simp) k1 k2
end Go.Proofs.YtkiadfpkgpgbiaaGreatDoor
