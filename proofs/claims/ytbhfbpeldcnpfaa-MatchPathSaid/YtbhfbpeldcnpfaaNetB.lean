
/- Networks, and what is wrong with them. -/
import Derived.Test.YtbhfbpeldcnpfaaNumF
import Derived.Test.YtbhfbpeldcnpfaaEngH
import Derived.Test.YtbhfbpeldcnpfaaEngI
import Derived.Test.YtbhfbpeldcnpfaaEngG
namespace Go.Proofs.Ytbhfbpeldcnpfaa
open Go.RowKit
theorem arcs_length (l : List Arc) : (arcs l).length = l.length * 3 := by
  induction l with
  | nil => rfl
  | cons a l ih =>
    have e : arcs (a :: l) = [.int .i64 a.fr, .int .i64 a.to, .int .i64 a.cap] ++ arcs l := by simp [arcs]
    rw [e, List.length_append, ih]; simp; omega
theorem arcs_one (l : List Arc) : one (arcs l) = true := by
  induction l with
  | nil => rfl
  | cons x l ih => exact ih
theorem arcs_app (l r : List Arc) : arcs (l ++ r) = arcs l ++ arcs r := by simp [arcs]
def pickZ (c n : Int) : Int := (if c < 0 then - (c + 1) else c) % n
theorem pickZ_in {c n : Int} (hn : 0 < n) : 0 ≤ pickZ c n ∧ pickZ c n < n := ⟨Int.emod_nonneg _ (by omega), Int.emod_lt_of_pos _ hn⟩
structure Net where
  nodes : Int
  src : Int
  snk : Int
  arcs : List Arc
/-- A right network. -/
structure Net.Right (N : Net) : Prop where
  nodes : 2 ≤ N.nodes ∧ N.nodes ≤ 500
  src : 1 ≤ N.src ∧ N.src ≤ N.nodes
  snk : 1 ≤ N.snk ∧ N.snk ≤ N.nodes
  diff : N.src ≠ N.snk
  len : N.arcs.length ≤ 2000
  arc : ∀ a ∈ N.arcs, (1 ≤ a.fr ∧ a.fr ≤ N.nodes) ∧ (1 ≤ a.to ∧ a.to ≤ N.nodes) ∧ 0 ≤ a.cap
  sum : (N.arcs.map (·.cap)).sum ≤ 4611686018427387903
def netV (N : Net) (A : Option Addr) (c : Nat) : Value := .agg #[.int .i64 N.nodes, .int .i64 N.src, .int .i64 N.snk, .slice A N.arcs.length c]

def there (N : Net) (v : Int) : Prop := 1 ≤ v ∧ v ≤ N.nodes
open Classical in
/-- What is wrong with the arcs, from a sum on. -/
noncomputable def badArc (N : Net) : Int → List Arc → Int
  | _, [] => 0
  | s, a :: l => if ¬ (there N a.fr ∧ there N a.to) then 4 else if a.cap < 0 then 3 else if ¬ inB (s + a.cap) ∨ 4611686018427387903 < s + a.cap then 7 else badArc N (s + a.cap) l
open Classical in
/-- What is wrong with a network. -/
noncomputable def checkZ (N : Net) : Int := if N.nodes < 2 ∨ 500 < N.nodes then 3 else if ¬ (there N N.src ∧ there N N.snk) then 4 else if N.src = N.snk then 5 else if 2000 < N.arcs.length then 6 else badArc N 0 N.arcs
theorem badArc_right (N : Net) : ∀ (l : List Arc) (s : Int), 0 ≤ s → (∀ a ∈ l, (1 ≤ a.fr ∧ a.fr ≤ N.nodes) ∧ (1 ≤ a.to ∧ a.to ≤ N.nodes) ∧ 0 ≤ a.cap) → s + (l.map (·.cap)).sum ≤ 4611686018427387903 → badArc N s l = 0
  | [], _, _, _, _ => rfl
  | a :: l, s, h0, h, hs => by
    have h1 := h a (by simp)
    have hp : 0 ≤ (l.map (·.cap)).sum := by
      have : ∀ (l : List Arc), (∀ a ∈ l, 0 ≤ a.cap) → 0 ≤ (l.map (·.cap)).sum := by
        intro l
        induction l with
        | nil => intro _; simp
        | cons x l ih => intro h; have := ih fun a ha => h a (by simp [ha]); have := h x (by simp); simp only [List.map_cons, List.sum_cons]; omega
      exact this l fun a ha => (h a (by simp [ha])).2.2
    simp only [List.map_cons, List.sum_cons] at hs
    unfold badArc
    rw [if_neg (by unfold there; intro hc; exact hc ⟨h1.1, h1.2.1⟩), if_neg (by omega), if_neg (by unfold inB; omega)]
    exact badArc_right N l (s + a.cap) (by omega) (fun a ha => h a (by simp [ha])) (by omega)
theorem Net.Right.check {N : Net} (h : N.Right) : checkZ N = 0 := by
  unfold checkZ
  have h1 := h.nodes
  rw [if_neg (by omega), if_neg (by intro hc; exact hc ⟨h.src, h.snk⟩), if_neg h.diff, if_neg (by have := h.len; omega)]
  exact badArc_right N N.arcs 0 (by omega) h.arc (by have := h.sum; omega)
def netC (N : Net) (A : Option Addr) (c : Nat) : List Value := [.int .i64 N.nodes, .int .i64 N.src, .int .i64 N.snk, .slice A N.arcs.length c]
theorem there_fn (N : Net) (A : Option Addr) (c p : Nat) (v : Int) : Fn 76 [.int .i64 v, .pointer (some ⟨p, 0, none⟩)] [] [.seg p 0 (netC N A c)] fun u H' => u = .bool (cdec (there N v)) ∧ H' = [] := by
  refine Fn_of Try.func76 rfl rfl fun w0 => ?_
  (repeat' (first | refine J_seq ?_ | refine J_skip ?_ | refine J_yes rfl ?_ | refine J_no rfl ?_))
  refine J_region ?_
  refine JL_all [] rfl ?_
  (repeat' (first | refine J_seq ?_ | refine J_skip ?_ | refine J_yes rfl ?_ | refine J_no rfl ?_))
  refine J_region ?_
  refine JL_run [] rfl ?_
  by_cases h : 1 ≤ v
  · refine JL_set 6 (v' := .bool true) rfl (congrArg Value.bool (cdec_yes h)) ?_
    refine JL_run [2] rfl ?_
    refine JL_val [2] (ldseg 0 (i := 0) rfl rfl rfl rfl rfl) rfl ?_
    refine JL_all [2] rfl ?_
    refine J_drop [] (by decide) rfl ?_
    exact J_ret ⟨_, rfl, congrArg Value.bool (cdec_iff (by unfold there; omega)), rfl⟩
  · refine JL_set 6 (v' := .bool false) rfl (congrArg Value.bool (cdec_no h)) ?_
    refine JL_all [2] rfl ?_
    refine J_drop [] (by decide) rfl ?_
    exact J_ret ⟨_, rfl, congrArg Value.bool (cdec_no (by unfold there; omega)).symm, rfl⟩
end Go.Proofs.Ytbhfbpeldcnpfaa
