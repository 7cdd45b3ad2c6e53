/- The engine and the words that all chapters share: several texts in one. -/
import Derived.Test.YtdhenmmmkdhonaaQF
import Derived.Test.YtdhenmmmkdhonaaQB
import Derived.Test.YtdhenmmmkdhonaaQX2

/- Networks turned, and the greatest cut of a flow. -/
set_option linter.unusedVariables false
set_option linter.unusedSimpArgs false
namespace Go.Proofs.Ytdhenmmmkdhonaa
open Go.RowKit
end Go.Proofs.Ytdhenmmmkdhonaa


/- The least and the greatest cut of a flow that no track leads on, in plain terms. -/
set_option linter.unusedVariables false
set_option linter.unusedSimpArgs false
namespace Go.Proofs.Ytdhenmmmkdhonaa
open Go.RowKit
def Closed (N : Net) (f : List Int) (s : List Int) : Prop := ∀ r, r < 2 * N.arcs.length → 1 ≤ (roomL (N.arcs.zip f)).getD r 0 → (endsZ N r).1 ∈ s → (endsZ N r).2 ∈ s
theorem where_rise (l : List Bool) (is : Bool) : ∀ k, (whereK l is k).Pairwise (· < ·)
  | 0 => by simp [whereK]
  | k + 1 => by
    rw [whereK_succ]
    split
    · refine rise_app (where_rise l is k) fun x hx => ?_
      obtain ⟨v, h1, _, _, rfl⟩ := mem_whereK.1 hx
      omega
    · rw [List.append_nil]; exact where_rise l is k
section
variable {N : Net} {f : List Int} {n : Nat} {l : List Bool}
theorem mem_first (hn : N.nodes = n) (hlr : ∀ v : Nat, l[v]? = some true ↔ v ≤ n ∧ Rch N (roomL (N.arcs.zip f)) 1 v) {x : Int} : x ∈ whereK l true (n + 1) ↔ 1 ≤ x ∧ x ≤ N.nodes ∧ Rch N (roomL (N.arcs.zip f)) 1 x := by
  rw [mem_whereK]
  constructor
  · rintro ⟨v, h1, h2, h3, rfl⟩; exact ⟨by omega, by omega, ((hlr v).1 h3).2⟩
  · rintro ⟨h1, h2, h3⟩
    have e : ((x.toNat : Nat) : Int) = x := by omega
    exact ⟨x.toNat, by omega, by omega, (hlr _).2 ⟨by omega, by rw [e]; exact h3⟩, e.symm⟩
theorem first_cut (hR : N.Right) (hf : IsFlow N f) (hn : N.nodes = n) (hno : ¬ Rch N (roomL (N.arcs.zip f)) 1 N.snk) (hlr : ∀ v : Nat, l[v]? = some true ↔ v ≤ n ∧ Rch N (roomL (N.arcs.zip f)) 1 v) : IsCut N (whereK l true (n + 1)) ∧ Closed N f (whereK l true (n + 1)) := by
  have hsr := hR.src
  refine ⟨⟨where_rise _ _ _, fun x hx => ?_, (mem_first hn hlr).2 ⟨hsr.1, hsr.2, .src⟩, fun h => hno ((mem_first hn hlr).1 h).2.2⟩, fun r hr h1 hin => ?_⟩
  · have := (mem_first hn hlr).1 hx; exact ⟨this.1, this.2.1⟩
  · have h2 := (mem_first hn hlr).1 hin
    have h3 := endsZ_in hR hr
    exact (mem_first hn hlr).2 ⟨h3.2.1, h3.2.2, .step _ r h2.2.2 (by rw [roomL_length, List.length_zip, hf.len, Nat.min_self]; exact hr) rfl h1⟩
end
theorem rise_eq : ∀ {l m : List Int}, l.Pairwise (· < ·) → m.Pairwise (· < ·) → (∀ x, x ∈ l ↔ x ∈ m) → l = m
  | [], [], _, _, _ => rfl
  | [], y :: m, _, _, h => by have := (h y).2 (by simp); simp at this
  | x :: l, [], _, _, h => by have := (h x).1 (by simp); simp at this
  | x :: l, y :: m, hl, hm, h => by
    obtain ⟨l1, l2⟩ := List.pairwise_cons.1 hl
    obtain ⟨m1, m2⟩ := List.pairwise_cons.1 hm
    have e : x = y := by
      rcases List.mem_cons.1 ((h x).1 (by simp)) with e | e
      · exact e
      · rcases List.mem_cons.1 ((h y).2 (by simp)) with e2 | e2
        · exact e2.symm
        · have := m1 x e; have := l1 y e2; omega
    subst e
    congr 1
    refine rise_eq l2 m2 fun z => ⟨fun hz => ?_, fun hz => ?_⟩
    · rcases List.mem_cons.1 ((h z).1 (by simp [hz])) with e | e
      · have := l1 z hz; omega
      · exact e
    · rcases List.mem_cons.1 ((h z).2 (by simp [hz])) with e | e
      · have := m1 z hz; omega
      · exact e
theorem Net.Right.fits' {N : Net} (h : N.Right) : N.Fits := by
  have h1 := h.nodes
  have h2 := h.src
  have h3 := h.snk
  have h4 := h.len
  refine ⟨by unfold inB; omega, by unfold inB; omega, by unfold inB; omega, by omega, fun a ha => ?_⟩
  have := h.arc a ha
  have := h.cap ha
  unfold inB
  omega
end Go.Proofs.Ytdhenmmmkdhonaa
