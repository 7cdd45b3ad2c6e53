/- From a function's promise to a law's row. -/
import Derived.Test.YtkiadfpkgpgbiaaGreatDoorQB
set_option linter.unusedVariables false
set_option linter.unusedSimpArgs false
namespace Go.Proofs.YtkiadfpkgpgbiaaGreatDoor
open Go.RowKit
def SegsIn (w : World) : Heap → Prop
  | [] => True
  | .seg b o vs :: S => (Chunk.seg b o vs).holds w ∧ SegsIn w S
  | .tab b o :: S => (Chunk.tab b o).holds w ∧ SegsIn w S
  | _ => False
theorem SegsIn.spec {w : World} : ∀ {S : Heap}, SegsIn w S → ∀ c ∈ S, c.holds w ∧ c.mine = none
  | [], _, c, hc => by cases hc
  | .seg b o vs :: S, h, c, hc => by
    rcases List.mem_cons.1 hc with rfl | hc
    · exact ⟨h.1, rfl⟩
    · exact SegsIn.spec h.2 c hc
  | .tab b o :: S, h, c, hc => by
    rcases List.mem_cons.1 hc with rfl | hc
    · exact ⟨h.1, rfl⟩
    · exact SegsIn.spec h.2 c hc
  | .obj .. :: _, h, _, _ => h.elim
  | .own .. :: _, h, _, _ => h.elim
theorem SegsIn.has {w : World} {S : Heap} (h : SegsIn w S) : Has w [] w S := by
  refine ⟨rfl, rfl, rfl, Nat.le_refl _, fun _ _ _ => rfl, fun c hc => (h.spec c hc).1, fun c hc b hb => (by rw [(h.spec c hc).2] at hb; simp at hb), ?_⟩
  rw [List.pairwise_iff_getElem]
  intro i j hi hj _
  have h1 := (h.spec _ (List.getElem_mem hi)).2
  have h2 := (h.spec _ (List.getElem_mem hj)).2
  exact ⟨fun b hb => by rw [h1] at hb; simp at hb, fun b hb => by rw [h2] at hb; simp at hb⟩
/-- The walk that a law's row asks for. -/
theorem Fn.row {f : FuncId} {args : List Value} {S : Heap} (h : Fn f args [] S (fun v _ => v = .bool true)) (w : World) (hS : SegsIn w S) :
    Calls Tryz.prog f args.toArray w fun e w' => e = .returned (.bool true) ∧ Below w.heap.size w w' := by
  refine (h w hS.has).mono ?_
  rintro e w' ⟨v, H', he, hH, hv⟩
  rw [he, hv]
  exact ⟨rfl, ⟨hH.os, hH.tape, hH.output, hH.size, fun k hk => hH.keep k hk (by simp)⟩⟩
theorem inB_of {n : Int} (h : (Lit.int .i64 n).wf = true) : inB n := by
  simp [Lit.wf, IntKind.min, IntKind.max, IntKind.signed, IntKind.bits] at h
  exact h
end Go.Proofs.YtkiadfpkgpgbiaaGreatDoor
