/- The engine and the words that all chapters share: several texts in one. -/
import Derived.Test.YtcgcimnjknadjaaQF
import Derived.Test.YtcgcimnjknadjaaUniP
import Derived.Test.YtcgcimnjknadjaaTblkN
import Derived.Test.YtcgcimnjknadjaaQB

/- Two rows that are the same. -/
set_option linter.unusedVariables false
set_option linter.unusedSimpArgs false
namespace Go.Proofs.Ytcgcimnjknadjaa
open Go.RowKit
theorem same5_fn (A : Option Addr) (c b o : Nat) (l : List Int) (hA : l ≠ [] → A = some ⟨b, o, none⟩) (hl : l.length ≤ 100000) (A2 : Option Addr) (c2 b2 o2 : Nat) (l2 : List Int) (hA2 : l2 ≠ [] → A2 = some ⟨b2, o2, none⟩) :
    Fn 18 [.slice A l.length c, .slice A2 l2.length c2] [] [.seg b o (ints l), .seg b2 o2 (ints l2)] fun u H' => u = .bool (cdec (l = l2)) ∧ H' = [] := by
  refine Fn_of Try.func18 rfl rfl fun w0 => ?_
  (repeat' (first | refine J_seq ?_ | refine J_skip ?_ | refine J_yes rfl ?_ | refine J_no rfl ?_))
  refine J_region ?_
  refine JL_all [] rfl ?_
  (repeat' (first | refine J_seq ?_ | refine J_skip ?_ | refine J_yes rfl ?_ | refine J_no rfl ?_))
  refine J_region ?_
  refine JL_all [] rfl ?_
  refine J_dec rfl (fun h => ?_) (fun h => J_skip ?_)
  · (repeat' (first | refine J_seq ?_ | refine J_skip ?_ | refine J_yes rfl ?_ | refine J_no rfl ?_))
    refine J_region ?_
    refine JL_all [] rfl ?_
    refine J_drop [] (by decide) rfl (J_ret ⟨_, rfl, congrArg Value.bool (cdec_no (fun e => h (by rw [e]))).symm, rfl⟩)
  have hlen : l.length = l2.length := by omega
  (repeat' (first | refine J_seq ?_ | refine J_skip ?_ | refine J_yes rfl ?_ | refine J_no rfl ?_))
  refine J_region ?_
  refine JL_all [] rfl ?_
  refine J_block ?_
  refine J_loop (σ := Nat) (fun k => [(5, .int .i64 k), (0, .slice A l.length c), (1, .slice A2 l2.length c2)]) (fun k => [.seg b o (ints l), .seg b2 o2 (ints l2)]) (fun k => k ≤ l.length ∧ ∀ j, j < k → l[j]? = l2[j]?) (fun k => l.length - k)
    0 [0, 1] ⟨rfl, rfl, rfl, trivial⟩ (by decide) rfl ⟨Nat.zero_le _, fun x hx => by omega⟩ ?_
  rintro k ⟨hk, hall⟩
  (repeat' (first | refine J_seq ?_ | refine J_skip ?_ | refine J_yes rfl ?_ | refine J_no rfl ?_))
  refine J_region ?_
  refine JL_all [] rfl ?_
  refine J_dec rfl (fun hlt => J_skip ?_) (fun hge => J_exit ?_)
  · have hlt : k < l.length := by omega
    obtain rfl := hA (by rintro rfl; simp at hlt)
    obtain rfl := hA2 (by intro h0; have h1 : l2.length = 0 := by rw [h0]; rfl
                          omega)
    obtain ⟨x, hx⟩ : ∃ x, l[k]? = some x := ⟨l[k], List.getElem?_eq_getElem hlt⟩
    obtain ⟨y, hy⟩ : ∃ y, l2[k]? = some y := ⟨l2[k]'(by omega), List.getElem?_eq_getElem (by omega)⟩
    refine J_seq (J_block ?_)
    (repeat' (first | refine J_seq ?_ | refine J_skip ?_ | refine J_yes rfl ?_ | refine J_no rfl ?_))
    refine J_walk 9 [(0, true), (1, true), (2, true), (3, true), (4, true), (5, true), (6, true), (7, true), (8, true)] [0, 1] (by kernel_rfl) (by decide) rfl ?_
    refine JW_run [] rfl ?_
    refine JW_still [] rfl (idx1 rfl rfl rfl rfl rfl hlt) rfl ?_
    refine JW_still [] rfl (ldseg 0 rfl rfl rfl rfl (readT_int' hx)) rfl ?_
    refine JW_run [] rfl ?_
    refine JW_still [] rfl (idx1 rfl rfl rfl rfl rfl (by omega)) rfl ?_
    refine JW_still [] rfl (ldseg 1 rfl rfl rfl rfl (readT_int' hy)) rfl ?_
    refine JW_all [] rfl ?_
    refine JL_nil ?_
    refine J_dec rfl (fun h => ?_) (fun h => J_skip ?_)
    · (repeat' (first | refine J_seq ?_ | refine J_skip ?_ | refine J_yes rfl ?_ | refine J_no rfl ?_))
      refine J_region ?_
      refine JL_all [] rfl ?_
      refine J_drop [] (by decide) rfl (J_ret ⟨_, rfl, congrArg Value.bool (cdec_no (fun e => ?_)).symm, rfl⟩)
      rw [e, hy] at hx
      exact h (Option.some.inj hx).symm
    · (repeat' (first | refine J_seq ?_ | refine J_skip ?_ | refine J_yes rfl ?_ | refine J_no rfl ?_))
      refine J_region ?_
      refine JL_all [] rfl ?_
      refine ⟨k + 1, [0, 1], ⟨?_, rfl, rfl, trivial⟩, by decide, rfl, ⟨by omega, fun j hj => ?_⟩, by omega⟩
      · show some (Value.int .i64 (IntKind.i64.wrap ((k : Int) + 1))) = _
        rw [w64 (by omega)]; rfl
      · by_cases e : j = k
        · subst e; rw [hx, hy]; exact congrArg some (Classical.not_not.1 h)
        · exact hall j (by omega)
  · (repeat' (first | refine J_seq ?_ | refine J_skip ?_ | refine J_yes rfl ?_ | refine J_no rfl ?_))
    refine J_region ?_
    refine JL_all [] rfl ?_
    refine J_drop [] (by decide) rfl (J_ret ⟨_, rfl, congrArg Value.bool (cdec_yes (List.ext_getElem? fun j => ?_)).symm, rfl⟩)
    by_cases hj : j < l.length
    · exact hall j (by omega)
    · rw [List.getElem?_eq_none (by omega), List.getElem?_eq_none (by omega)]
theorem Net.Right.fits2 {N : Net} (h : N.Right) : N.Fits := by
  have h1 := h.nodes
  have h2 := h.src
  have h3 := h.snk
  have h4 := h.len
  refine ⟨by unfold inB; omega, by unfold inB; omega, by unfold inB; omega, by omega, fun a ha => ?_⟩
  have := h.arc a ha
  have := h.cap ha
  unfold inB
  omega
end Go.Proofs.Ytcgcimnjknadjaa


/- Chapter 11's example, in plain terms. -/
set_option linter.unusedVariables false
set_option linter.unusedSimpArgs false
namespace Go.Proofs.Ytcgcimnjknadjaa
open Go.RowKit
def exN : Net := ⟨2, 1, 2, [⟨1, 2, 5⟩, ⟨1, 2, 3⟩]⟩
theorem exN_right : exN.Right := ⟨by decide, by decide, by decide, by decide, by decide, by
  intro a ha
  simp only [exN, List.mem_cons, List.not_mem_nil, or_false] at ha
  rcases ha with rfl | rfl <;> decide, by decide⟩
theorem ex_nx1 : Nx exN (ldAt exN [0, 2]) 1 [5, 0, 3, 0] [0, 0, 0] [] true [0, 0, 0] [0] := .go (r := 0) (p := 0) (by decide) rfl (by decide) (by decide) (.hit (by decide))
theorem ex_nx2 : Nx exN (ldAt exN [0, 2]) 1 [0, 5, 3, 0] [0, 0, 0] [] true [0, 1, 0] [2] := .skip (r := 0) (p := 0) (by decide) rfl (by decide) (by decide) (.go (r := 2) (p := 1) (by decide) rfl (by decide) (by decide) (.hit (by decide)))
theorem ex_nx3 : Nx exN (ldAt exN [0, 2]) 1 [0, 5, 0, 3] [0, 1, 0] [] false [0, 2, 0] [] := .skip (r := 2) (p := 1) (by decide) rfl (by decide) (by decide) (.stop (p := 2) (by decide) rfl (by decide))
theorem ex_bl : Bl exN (ldAt exN [0, 2]) 1 [5, 0, 3, 0] [0, 0, 0] [] [([0], 5), ([2], 3)] [0, 5, 0, 3] := by
  refine Bl.walk (ws := [([2], 3)]) ex_nx1 ?_
  show Bl exN (ldAt exN [0, 2]) 1 [0, 5, 3, 0] [0, 0, 0] [] [([2], 3)] [0, 5, 0, 3]
  refine Bl.walk (ws := []) ex_nx2 ?_
  show Bl exN (ldAt exN [0, 2]) 1 [0, 5, 0, 3] [0, 1, 0] [] [] [0, 5, 0, 3]
  exact Bl.stop ex_nx3
theorem ex_lev {lv : List Int} (h : IsLev exN [5, 0, 3, 0] 1 lv) : lv = [-1, 0, 1] := by
  have hl := h.len
  have h0 := h.nil
  have h1 := h.src
  have h2 := h.step 0 (by decide) (by decide) (by rw [show frN exN 0 = 1 by decide]; rw [show exN.src.toNat = 1 by decide] at h1; omega)
  have h3 := h.zero 2
  rw [show toN exN 0 = 2 by decide, show frN exN 0 = 1 by decide] at h2
  rw [show exN.src.toNat = 1 by decide] at h1 h3
  have h4 : lvZ lv 2 ≠ 0 := fun e => by have := h3 e; omega
  have h5 : lvZ lv 2 = 1 := by omega
  match lv, hl with
  | [a, b, c], _ =>
    have e0 : a = -1 := h0
    have e1 : b = 0 := h1
    have e2 : c = 1 := h5
    rw [e0, e1, e2]
theorem ex_blk {ws : List (List Nat × Int)} {f : List Int} (h : BlkOf exN 1 [0, 0] ws f) : f = [5, 3] ∧ ws.length = 2 := by
  obtain ⟨lv, h1, h2, h3⟩ := h
  obtain rfl := ex_lev h1
  obtain ⟨e1, e2⟩ := ex_bl.uniq (by decide) h3
  refine ⟨room_inj (N := exN) h2.len rfl (e2.symm.trans (by decide)), by rw [← e1]; rfl⟩
end Go.Proofs.Ytcgcimnjknadjaa


/- Chapter 11's example, step by step. -/
set_option linter.unusedVariables false
set_option linter.unusedSimpArgs false
namespace Go.Proofs.Ytcgcimnjknadjaa
open Go.RowKit
theorem exN_fits : exN.Fits := ⟨by decide, by decide, by decide, by decide, fun a ha => (by
  simp only [exN, List.mem_cons, List.not_mem_nil, or_false] at ha
  rcases ha with rfl | rfl <;> decide)⟩
theorem exN_flow : IsFlow exN [0, 0] := by
  refine ⟨⟨rfl, fun p hp => ?_⟩, fun v hv h1 h2 => ?_⟩
  · simp only [exN, List.zip_cons_cons, List.zip_nil_right, List.mem_cons, List.not_mem_nil, or_false] at hp
    rcases hp with rfl | rfl <;> decide
  · have e1 : exN.src = 1 := rfl
    have e2 : exN.snk = 2 := rfl
    have e3 : exN.nodes = 2 := rfl
    omega
set_option maxHeartbeats 1000000 in
theorem shown11_fn : Fn 15 [] [] [] fun v H' => v = .bool true ∧ H' = [] := by
  refine Fn_of Try.func15 rfl rfl fun w0 => ?_
  (repeat' (first | refine J_seq ?_ | refine J_skip ?_ | refine J_yes rfl ?_ | refine J_no rfl ?_))
  refine J_region ?_
  refine JL_all [] rfl ?_
  (repeat' (first | refine J_seq ?_ | refine J_skip ?_ | refine J_yes rfl ?_ | refine J_no rfl ?_))
  refine J_region ?_
  refine JL_val [] (OpV_build rfl rfl rfl rfl rfl rfl) rfl ?_
  refine JL_val [] (OpV_build rfl rfl rfl rfl rfl rfl) rfl ?_
  refine JL_lit rfl rfl rfl rfl rfl rfl rfl (fun _ => rfl) fun g1 => ?_
  refine JL_val [] (OpV_build rfl rfl rfl rfl rfl rfl) rfl ?_
  refine JL_lit rfl rfl rfl rfl rfl rfl rfl (fun _ => rfl) fun g2 => ?_
  refine JL_callR [] (tblock_fn exN exN_fits exN_right (some ⟨g1, 0, none⟩) 2 g1 0 (fun _ => rfl) [0, 0] (some ⟨g2, 0, none⟩) 2 g2 0 (fun _ => rfl) (by decide) (by decide) 1 (by decide)) rfl rfl rfl rfl (by kernel_rfl) ⟨⟨1, _, by simp, rfl, shows_blk _ _ _ (0, 0), .inr rfl⟩, ⟨0, _, by simp, rfl, shows_blk _ _ _ (0, 0), .inr rfl⟩, trivial⟩ (fun _ => rfl) ?_
  rintro v H' (⟨_, _, f', ws, k, Ao, co, hB, hk2, hkB, _, rfl, rfl⟩ | ⟨hW, _, _⟩ | ⟨_, hl, _, _⟩)
  · obtain ⟨rfl, hws⟩ := ex_blk hB
    refine ⟨rfl, ?_⟩
    rw [hws]
    have hk4 : 4 ≤ k := hk2
    refine JL_know (own_is 0 rfl) fun ⟨_, _, hAo, hl1⟩ => ?_
    obtain ⟨g3, hAo⟩ := own_at hAo hl1
    obtain rfl := hAo (by decide)
    refine JL_all [] rfl ?_
    (repeat' (first | refine J_seq ?_ | refine J_skip ?_ | refine J_yes rfl ?_ | refine J_no rfl ?_))
    refine J_region ?_
    refine JL_evO (gs := [999]) rfl ?_
    refine JL_evO (gs := [999]) rfl ?_
    refine JL_evO (gs := [999]) rfl ?_
    refine JL_set 18 (v' := .bool true) rfl (congrArg Value.bool (cdec_yes rfl)) ?_
    refine JL_run [2] rfl ?_
    refine JL_set 23 (v' := .bool true) rfl (congrArg Value.bool (cdec_yes rfl)) ?_
    refine JL_evO (gs := [2, 7]) rfl ?_
    refine JL_val [2, 7] (idx1z (m := 0) rfl rfl rfl rfl rfl (by decide)) rfl ?_
    refine JL_val [2, 7] (OpV_own 0 rfl rfl rfl rfl) rfl ?_
    refine JL_run [2, 7] rfl ?_
    refine JL_set 29 (v' := .bool true) rfl (congrArg Value.bool (cdec_yes rfl)) ?_
    refine JL_evO (gs := [2, 7, 13]) rfl ?_
    refine JL_val [2, 7, 13] (idx1z (m := 1) rfl rfl rfl rfl rfl (by decide)) rfl ?_
    refine JL_val [2, 7, 13] (OpV_own 0 rfl rfl rfl rfl) rfl ?_
    refine JL_run [2, 7, 13] rfl ?_
    refine JL_set 35 (v' := .bool true) rfl (congrArg Value.bool (cdec_yes rfl)) ?_
    refine JL_run [2, 7, 13, 19] rfl ?_
    refine JL_set 39 (v' := .bool true) rfl (congrArg Value.bool (cdec_yes rfl)) ?_
    refine JL_all [2, 7, 13, 19, 23] rfl ?_
    refine J_drop [] (by decide) rfl (J_ret ⟨_, rfl, congrArg Value.bool (cdec_yes (by omega)), rfl⟩)
  · exact absurd exN_flow hW
  · exact absurd hl (by decide)
end Go.Proofs.Ytcgcimnjknadjaa

/- From a function's promise to a law's row. -/
set_option linter.unusedVariables false
set_option linter.unusedSimpArgs false
namespace Go.Proofs.Ytcgcimnjknadjaa
open Go.RowKit
def SegsIn (w : World) : Heap → Prop
  | [] => True
  | .seg b o vs :: S => (Chunk.seg b o vs).holds w ∧ SegsIn w S
  | _ => False
theorem SegsIn.spec {w : World} : ∀ {S : Heap}, SegsIn w S → ∀ c ∈ S, c.holds w ∧ c.mine = none
  | [], _, c, hc => by cases hc
  | .seg b o vs :: S, h, c, hc => by
    rcases List.mem_cons.1 hc with rfl | hc
    · exact ⟨h.1, rfl⟩
    · exact SegsIn.spec h.2 c hc
  | .obj .. :: _, h, _, _ => h.elim
  | .own .. :: _, h, _, _ => h.elim
theorem SegsIn.has {w : World} {S : Heap} (h : SegsIn w S) : Has w [] w S := by
  refine ⟨rfl, rfl, rfl, Nat.le_refl _, fun _ _ _ => rfl, fun c hc => (h.spec c hc).1, fun c hc b hb => (by rw [(h.spec c hc).2] at hb; simp at hb), ?_⟩
  rw [List.pairwise_iff_getElem]
  intro i j hi hj _
  have h1 := (h.spec _ (List.getElem_mem hi)).2
  have h2 := (h.spec _ (List.getElem_mem hj)).2
  exact ⟨fun b hb => by rw [h1] at hb; simp at hb, fun b hb => by rw [h2] at hb; simp at hb⟩
/-- The walk that a law's row asks for. -/
theorem Fn.row {f : FuncId} {args : List Value} {S : Heap} (h : Fn f args [] S (fun v _ => v = .bool true)) (w : World) (hS : SegsIn w S) :
    Calls Try.prog f args.toArray w fun e w' => e = .returned (.bool true) ∧ Below w.heap.size w w' := by
  refine (h w hS.has).mono ?_
  rintro e w' ⟨v, H', he, hH, hv⟩
  rw [he, hv]
  exact ⟨rfl, ⟨hH.os, hH.tape, hH.output, hH.size, fun k hk => hH.keep k hk (by simp)⟩⟩
theorem inB_of {n : Int} (h : (Lit.int .i64 n).wf = true) : inB n := by
  simp [Lit.wf, IntKind.min, IntKind.max, IntKind.signed, IntKind.bits] at h
  exact h
end Go.Proofs.Ytcgcimnjknadjaa
