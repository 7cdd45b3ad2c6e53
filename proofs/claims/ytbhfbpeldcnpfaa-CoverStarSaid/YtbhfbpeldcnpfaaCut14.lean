
/- Chapter 14's words: rows that hold a number, that are the same, and the example. -/
import Derived.Test.YtbhfbpeldcnpfaaCutN
import Derived.Test.YtbhfbpeldcnpfaaMade14
namespace Go.Proofs.Ytbhfbpeldcnpfaa
open Go.RowKit
theorem has_fn (A : Option Addr) (c b o : Nat) (l : List Int) (hA : l ≠ [] → A = some ⟨b, o, none⟩) (hl : l.length ≤ 100000) (v : Int) :
    Fn 24 [.slice A l.length c, .int .i64 v] [] [.seg b o (ints l)] fun u H' => u = .bool (cdec (v ∈ l)) ∧ H' = [] := by
  refine Fn_of Try.func24 rfl rfl fun w0 => ?_
  (repeat' (first | refine J_seq ?_ | refine J_skip ?_ | refine J_yes rfl ?_ | refine J_no rfl ?_))
  refine J_region ?_
  refine JL_all [] rfl ?_
  (repeat' (first | refine J_seq ?_ | refine J_skip ?_ | refine J_yes rfl ?_ | refine J_no rfl ?_))
  refine J_region ?_
  refine JL_all [] rfl ?_
  refine J_block ?_
  refine J_loop (σ := Nat) (fun k => [(5, .int .i64 k), (0, .slice A l.length c), (1, .int .i64 v)]) (fun k => [.seg b o (ints l)]) (fun k => k ≤ l.length ∧ ∀ x ∈ l.take k, x ≠ v) (fun k => l.length - k)
    0 [0] ⟨rfl, rfl, rfl, trivial⟩ (by decide) rfl ⟨Nat.zero_le _, fun x hx => by simp at hx⟩ ?_
  rintro k ⟨hk, hall⟩
  (repeat' (first | refine J_seq ?_ | refine J_skip ?_ | refine J_yes rfl ?_ | refine J_no rfl ?_))
  refine J_region ?_
  refine JL_all [] rfl ?_
  refine J_dec rfl (fun hlt => J_skip ?_) (fun hge => J_exit ?_)
  · have hlt : k < l.length := by omega
    obtain rfl := hA (by rintro rfl; simp at hlt)
    obtain ⟨x, hx⟩ : ∃ x, l[k]? = some x := ⟨l[k], List.getElem?_eq_getElem hlt⟩
    refine J_seq (J_block ?_)
    (repeat' (first | refine J_seq ?_ | refine J_skip ?_ | refine J_yes rfl ?_ | refine J_no rfl ?_))
    refine J_region ?_
    refine JL_run [] rfl ?_
    refine JL_val [] (idx1 rfl rfl rfl rfl rfl hlt) rfl ?_
    refine JL_val [] (ldseg 0 rfl rfl rfl rfl (readT_int' hx)) rfl ?_
    refine JL_all [] rfl ?_
    refine J_dec rfl (fun h => ?_) (fun h => J_skip ?_)
    · (repeat' (first | refine J_seq ?_ | refine J_skip ?_ | refine J_yes rfl ?_ | refine J_no rfl ?_))
      refine J_region ?_
      refine JL_all [] rfl ?_
      refine J_drop [] (by decide) rfl (J_ret ⟨_, rfl, congrArg Value.bool (cdec_yes (by rw [← h]; exact List.mem_of_getElem? hx)).symm, rfl⟩)
    · (repeat' (first | refine J_seq ?_ | refine J_skip ?_ | refine J_yes rfl ?_ | refine J_no rfl ?_))
      refine J_region ?_
      refine JL_all [] rfl ?_
      refine ⟨k + 1, [0], ⟨?_, rfl, rfl, trivial⟩, by decide, rfl, ⟨by omega, fun y hy => ?_⟩, by omega⟩
      · show some (Value.int .i64 (IntKind.i64.wrap ((k : Int) + 1))) = _
        rw [w64 (by omega)]; rfl
      · rw [List.take_add_one, hx] at hy
        rcases List.mem_append.1 hy with hy | hy
        · exact hall y hy
        · simp at hy; rw [hy]; exact h
  · (repeat' (first | refine J_seq ?_ | refine J_skip ?_ | refine J_yes rfl ?_ | refine J_no rfl ?_))
    refine J_region ?_
    refine JL_all [] rfl ?_
    refine J_drop [] (by decide) rfl (J_ret ⟨_, rfl, congrArg Value.bool (cdec_no (fun hm => ?_)).symm, rfl⟩)
    exact hall v (by rw [List.take_of_length_le (by omega)]; exact hm) rfl
theorem same_fn (A : Option Addr) (c b o : Nat) (l : List Int) (hA : l ≠ [] → A = some ⟨b, o, none⟩) (hl : l.length ≤ 100000) (A2 : Option Addr) (c2 b2 o2 : Nat) (l2 : List Int) (hA2 : l2 ≠ [] → A2 = some ⟨b2, o2, none⟩) :
    Fn 26 [.slice A l.length c, .slice A2 l2.length c2] [] [.seg b o (ints l), .seg b2 o2 (ints l2)] fun u H' => u = .bool (cdec (l = l2)) ∧ H' = [] := by
  refine Fn_of Try.func26 rfl rfl fun w0 => ?_
  (repeat' (first | refine J_seq ?_ | refine J_skip ?_ | refine J_yes rfl ?_ | refine J_no rfl ?_))
  refine J_region ?_
  refine JL_all [] rfl ?_
  (repeat' (first | refine J_seq ?_ | refine J_skip ?_ | refine J_yes rfl ?_ | refine J_no rfl ?_))
  refine J_region ?_
  refine JL_all [] rfl ?_
  refine J_dec rfl (fun h => ?_) (fun h => J_skip ?_)
  · (repeat' (first | refine J_seq ?_ | refine J_skip ?_ | refine J_yes rfl ?_ | refine J_no rfl ?_))
    refine J_region ?_
    refine JL_all [] rfl ?_
    refine J_drop [] (by decide) rfl (J_ret ⟨_, rfl, congrArg Value.bool (cdec_no (fun e => h (by rw [e]))).symm, rfl⟩)
  have hlen : l.length = l2.length := by omega
  (repeat' (first | refine J_seq ?_ | refine J_skip ?_ | refine J_yes rfl ?_ | refine J_no rfl ?_))
  refine J_region ?_
  refine JL_all [] rfl ?_
  refine J_block ?_
  refine J_loop (σ := Nat) (fun k => [(5, .int .i64 k), (0, .slice A l.length c), (1, .slice A2 l2.length c2)]) (fun k => [.seg b o (ints l), .seg b2 o2 (ints l2)]) (fun k => k ≤ l.length ∧ ∀ j, j < k → l[j]? = l2[j]?) (fun k => l.length - k)
    0 [0, 1] ⟨rfl, rfl, rfl, trivial⟩ (by decide) rfl ⟨Nat.zero_le _, fun x hx => by omega⟩ ?_
  rintro k ⟨hk, hall⟩
  (repeat' (first | refine J_seq ?_ | refine J_skip ?_ | refine J_yes rfl ?_ | refine J_no rfl ?_))
  refine J_region ?_
  refine JL_all [] rfl ?_
  refine J_dec rfl (fun hlt => J_skip ?_) (fun hge => J_exit ?_)
  · have hlt : k < l.length := by omega
    obtain rfl := hA (by rintro rfl; simp at hlt)
    obtain rfl := hA2 (by intro h0; have h1 : l2.length = 0 := by rw [h0]; rfl
                          omega)
    obtain ⟨x, hx⟩ : ∃ x, l[k]? = some x := ⟨l[k], List.getElem?_eq_getElem hlt⟩
    obtain ⟨y, hy⟩ : ∃ y, l2[k]? = some y := ⟨l2[k]'(by omega), List.getElem?_eq_getElem (by omega)⟩
    refine J_seq (J_block ?_)
    (repeat' (first | refine J_seq ?_ | refine J_skip ?_ | refine J_yes rfl ?_ | refine J_no rfl ?_))
    refine J_walk 9 [(0, true), (1, true), (2, true), (3, true), (4, true), (5, true), (6, true), (7, true), (8, true)] [0, 1] (by kernel_rfl) (by decide) rfl ?_
    refine JW_run [] rfl ?_
    refine JW_still [] rfl (idx1 rfl rfl rfl rfl rfl hlt) rfl ?_
    refine JW_still [] rfl (ldseg 0 rfl rfl rfl rfl (readT_int' hx)) rfl ?_
    refine JW_run [] rfl ?_
    refine JW_still [] rfl (idx1 rfl rfl rfl rfl rfl (by omega)) rfl ?_
    refine JW_still [] rfl (ldseg 1 rfl rfl rfl rfl (readT_int' hy)) rfl ?_
    refine JW_all [] rfl ?_
    refine JL_nil ?_
    refine J_dec rfl (fun h => ?_) (fun h => J_skip ?_)
    · (repeat' (first | refine J_seq ?_ | refine J_skip ?_ | refine J_yes rfl ?_ | refine J_no rfl ?_))
      refine J_region ?_
      refine JL_all [] rfl ?_
      refine J_drop [] (by decide) rfl (J_ret ⟨_, rfl, congrArg Value.bool (cdec_no (fun e => ?_)).symm, rfl⟩)
      rw [e, hy] at hx
      exact h (Option.some.inj hx).symm
    · (repeat' (first | refine J_seq ?_ | refine J_skip ?_ | refine J_yes rfl ?_ | refine J_no rfl ?_))
      refine J_region ?_
      refine JL_all [] rfl ?_
      refine ⟨k + 1, [0, 1], ⟨?_, rfl, rfl, trivial⟩, by decide, rfl, ⟨by omega, fun j hj => ?_⟩, by omega⟩
      · show some (Value.int .i64 (IntKind.i64.wrap ((k : Int) + 1))) = _
        rw [w64 (by omega)]; rfl
      · by_cases e : j = k
        · subst e; rw [hx, hy]; exact congrArg some (Classical.not_not.1 h)
        · exact hall j (by omega)
  · (repeat' (first | refine J_seq ?_ | refine J_skip ?_ | refine J_yes rfl ?_ | refine J_no rfl ?_))
    refine J_region ?_
    refine JL_all [] rfl ?_
    refine J_drop [] (by decide) rfl (J_ret ⟨_, rfl, congrArg Value.bool (cdec_yes (List.ext_getElem? fun j => ?_)).symm, rfl⟩)
    by_cases hj : j < l.length
    · exact hall j (by omega)
    · rw [List.getElem?_eq_none (by omega), List.getElem?_eq_none (by omega)]
def ex14 : Net := ⟨3, 1, 3, [⟨1, 2, 5⟩, ⟨2, 3, 3⟩]⟩
theorem ex14_right : ex14.Right := ⟨by decide, by decide, by decide, by decide, by decide, fun a ha => (by
  simp only [ex14, List.mem_cons, List.not_mem_nil, or_false] at ha
  rcases ha with rfl | rfl <;> decide), by decide⟩
theorem ex14_fits : ex14.Fits := ⟨by decide, by decide, by decide, by decide, fun a ha => (by
  simp only [ex14, List.mem_cons, List.not_mem_nil, or_false] at ha
  rcases ha with rfl | rfl <;> decide)⟩
theorem ex14_flow : IsFlow ex14 [3, 3] := by
  refine ⟨⟨rfl, fun p hp => ?_⟩, fun v hv h1 h2 => ?_⟩
  · simp only [ex14, List.zip_cons_cons, List.zip_nil_right, List.mem_cons, List.not_mem_nil, or_false] at hp
    rcases hp with rfl | rfl <;> decide
  · have e1 : ex14.src = 1 := rfl
    have e2 : ex14.snk = 3 := rfl
    have e3 : ex14.nodes = 3 := rfl
    rw [e1] at h1; rw [e2] at h2; rw [e3] at hv
    obtain rfl : v = 2 := by omega
    decide
theorem ex14_rch {x : Int} (h : Rch ex14 (roomL (ex14.arcs.zip [3, 3])) 1 x) : x = 1 ∨ x = 2 := by
  induction h with
  | src => exact .inl rfl
  | step u r _ hr hu hge ih =>
    have hr4 : r < 4 := hr
    have h4 : r = 0 ∨ r = 1 ∨ r = 2 ∨ r = 3 := by omega
    rcases h4 with rfl | rfl | rfl | rfl
    · exact .inr rfl
    · exact .inl rfl
    · exact absurd hge (by decide)
    · have : (3 : Int) = u := hu
      omega
theorem ex14_rch1 : Rch ex14 (roomL (ex14.arcs.zip [3, 3])) 1 1 := Rch.src
theorem ex14_rch2 : Rch ex14 (roomL (ex14.arcs.zip [3, 3])) 1 2 := Rch.step (N := ex14) 1 0 Rch.src (by decide) rfl (by decide)
theorem ex14_where {l : List Bool} (hl : l.length = 4) (h : ∀ v : Nat, l[v]? = some true ↔ v ≤ 3 ∧ Rch ex14 (roomL (ex14.arcs.zip [3, 3])) 1 v) : whereK l true 4 = [1, 2] := by
  match l, hl with
  | [a, b, c, d], _ =>
    have h0 := h 0
    have h1 := (h 1).2 ⟨by omega, ex14_rch1⟩
    have h2 := (h 2).2 ⟨by omega, ex14_rch2⟩
    have h3 := h 3
    simp only [List.getElem?_cons_zero, List.getElem?_cons_succ, Option.some.injEq] at h0 h1 h2 h3
    have a0 : a = false := by
      cases a with
      | false => rfl
      | true => have := ex14_rch (h0.1 rfl).2; simp at this
    have d0 : d = false := by
      cases d with
      | false => rfl
      | true => have := ex14_rch (h3.1 rfl).2; simp at this
    subst a0 h1 h2 d0
    decide
theorem shown14_fn : Fn 15 [] [] [] fun v H' => v = .bool true ∧ H' = [] := by
  refine Fn_of Try.func15 rfl rfl fun w0 => ?_
  (repeat' (first | refine J_seq ?_ | refine J_skip ?_ | refine J_yes rfl ?_ | refine J_no rfl ?_))
  refine J_region ?_
  refine JL_all [] rfl ?_
  (repeat' (first | refine J_seq ?_ | refine J_skip ?_ | refine J_yes rfl ?_ | refine J_no rfl ?_))
  refine J_region ?_
  refine JL_val [] (OpV_build rfl rfl rfl rfl rfl rfl) rfl ?_
  refine JL_val [] (OpV_build rfl rfl rfl rfl rfl rfl) rfl ?_
  refine JL_lit rfl rfl rfl rfl rfl rfl rfl (fun _ => rfl) fun g => ?_
  refine JL_val [] (OpV_build rfl rfl rfl rfl rfl rfl) rfl ?_
  refine JL_lit rfl rfl rfl rfl rfl rfl rfl (fun _ => rfl) fun g2 => ?_
  have T := first_fn ex14 ex14_fits ex14_right (some ⟨g, 0, none⟩) 2 g 0 (fun _ => rfl) [3, 3] (some ⟨g2, 0, none⟩) 2 g2 0 (fun _ => rfl) (fun x hx => by simp at hx; rw [hx]; decide) (by decide) 3 rfl
  refine JL_callR [] T rfl rfl rfl rfl (by kernel_rfl) ⟨⟨1, _, by simp, rfl, shows_blk _ _ _ (0, 0), .inr rfl⟩, ⟨0, _, by simp, rfl, shows_blk _ _ _ (0, 0), .inr rfl⟩, trivial⟩ (fun _ => rfl) ?_
  rintro v H' (⟨_, _, l, A', c', hl, hlr, rfl, rfl⟩ | ⟨hW, _, _⟩ | ⟨_, hr, _, _⟩)
  · refine ⟨rfl, ?_⟩
    rw [ex14_where hl hlr]
    refine JL_know (own_is 0 rfl) fun ⟨_, _, hA, hl1⟩ => ?_
    obtain ⟨g3, hA⟩ := own_at hA hl1
    refine JL_all [] rfl ?_
    (repeat' (first | refine J_seq ?_ | refine J_skip ?_ | refine J_yes rfl ?_ | refine J_no rfl ?_))
    refine J_region ?_
    refine JL_run [] rfl ?_
    refine JL_set 14 (v' := .bool true) rfl (congrArg Value.bool (cdec_yes rfl)) ?_
    refine JL_run [2] rfl ?_
    refine JL_litG [2] rfl rfl rfl rfl rfl rfl rfl (fun _ => rfl) fun g4 => ?_
    refine JL_callR [2] (same_fn A' c' g3 0 [1, 2] (fun _ => hA (by decide)) (by decide) (some ⟨g4, 0, none⟩) 2 g4 0 [1, 2] (fun _ => rfl)) rfl rfl rfl rfl (by kernel_rfl) ⟨⟨1, _, by simp, rfl, shows_ownS hA, seen_ownS hA⟩, ⟨0, _, by simp, rfl, shows_blk _ _ _ (0, 0), .inr rfl⟩, trivial⟩ (fun _ => rfl) ?_
    rintro v H' ⟨rfl, rfl⟩
    refine ⟨rfl, ?_⟩
    refine JL_all [2] rfl ?_
    refine J_drop [] (by decide) rfl (J_ret ⟨_, rfl, congrArg Value.bool (cdec_yes rfl), rfl⟩)
  · exact absurd ex14_flow hW
  · have := ex14_rch hr
    exact absurd this (by decide)
end Go.Proofs.Ytbhfbpeldcnpfaa
