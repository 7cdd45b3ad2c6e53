
/- Arguments that are networks, opened into the engine's pieces. -/
import Derived.Test.YtkiadfpkgpgbiaaGreatDoorRwM
set_option linter.unusedVariables false
set_option linter.unusedSimpArgs false
namespace Go.Proofs.YtkiadfpkgpgbiaaGreatDoor
open Go.RowKit Go.ChangeShapes Go.WideShapes Go.Deep Go.Joins
section
variable {H : Type} {enc : TypeId × Value → H} {P : Program} {w : World} {base : Nat} {spare : Nat → Bool} {held : Bool}
theorem opn_net {r : Reach} {b0 : Nat} {t e : TypeId} {f0 f1 f2 f3 : Field} {es : Array Field} {v : Value} {d : DataW H} {p : List MemPlace} (hs : P.underlying t = some (.struct #[f0, f1, f2, f3])) (hi : P.underlying f0.type = some (.int .i64)) (hsl : P.underlying f3.type = some (.slice e)) (he : P.underlying e = some (.struct es))
    (hone : oneCellFields P #[f0, f1, f2, f3] = true) (hC : P.cellsOf t = 4) (hsame : (Nat.beq f1.type f0.type && Nat.beq f2.type f0.type) = true) (hB : recB P e es = true) (hok : Value.okWide P w r b0 t v)
    (h : DataW.Trod enc P w base spare held t v d p) (hz : ∀ n ∈ d.weights P t, n ≤ reachBytes) :
    ∃ (x y z : Int) (A : Option Addr) (c b o : Nat) (l : List Arc), v = .agg #[.int .i64 x, .int .i64 y, .int .i64 z, .slice A l.length c] ∧ inB x ∧ inB y ∧ inB z ∧ (l ≠ [] → A = some ⟨b, o, none⟩) ∧ (Chunk.seg b o (arcs l)).holds w ∧ (∀ a ∈ l, inB a.fr ∧ inB a.to ∧ inB a.cap) ∧ l.length * 24 ≤ 140737488351232 := by
  rw [Bool.and_eq_true] at hsame
  have e1 : f1.type = f0.type := Nat.eq_of_beq_eq_true hsame.1
  have e2 : f2.type = f0.type := Nat.eq_of_beq_eq_true hsame.2
  obtain ⟨v0, v1, v2, v3, y0, y1, y2, y3, n, rfl, rfl, rfl, h0, h1, h2, h3⟩ := open_agg4 hs hone hC hok h
  rw [e1] at h1
  rw [e2] at h2
  obtain ⟨x, hx, _, wx⟩ := DataW.trod_int hi h0
  obtain ⟨y, hy, _, wy⟩ := DataW.trod_int hi h1
  obtain ⟨z, hzz, _, wz⟩ := DataW.trod_int hi h2
  obtain ⟨A, c, b, o, l, hv, hA, hS, hl, hlen⟩ := core_recs hsl he hB h3 (fun n hn => hz n (by
    simp only [DataW.weights, hs]
    exact DataW.weights_mem_each (j := 3) rfl rfl n hn))
  obtain rfl := (List.cons.inj hx).1
  obtain rfl := (List.cons.inj hy).1
  obtain rfl := (List.cons.inj hzz).1
  obtain rfl := (List.cons.inj hv).1
  exact ⟨x, y, z, A, c, b, o, l, rfl, inB_of wx, inB_of wy, inB_of wz, hA, hS, hl, hlen⟩
end
end Go.Proofs.YtkiadfpkgpgbiaaGreatDoor
