
/- Covers: nodes that meet all edges. -/
import Derived.Test.YtdhenmmmkdhonaaRightN
import Derived.Test.YtdhenmmmkdhonaaQF
set_option linter.unusedVariables false
set_option linter.unusedSimpArgs false
namespace Go.Proofs.Ytdhenmmmkdhonaa
open Go.RowKit
theorem cwhere_fn (A : Option Addr) (c b o : Nat) (l : List Bool) (hA : l ≠ [] → A = some ⟨b, o, none⟩) (hl : l.length ≤ 100000) (is : Bool) :
    Fn 35 [.slice A l.length c, .bool is] [] [.seg b o (bools l)] fun v H' => ∃ A' c', v = .slice A' (whereK l is l.length).length c' ∧ H' = [.own v 3 1 (whereK l is l.length).length (ints (whereK l is l.length))] := by
  refine Fn_of Try.func35 rfl rfl fun w0 => ?_
  (repeat' (first | refine J_seq ?_ | refine J_skip ?_ | refine J_yes rfl ?_ | refine J_no rfl ?_))
  refine J_region ?_
  refine JL_all [] rfl ?_
  (repeat' (first | refine J_seq ?_ | refine J_skip ?_ | refine J_yes rfl ?_ | refine J_no rfl ?_))
  refine J_region ?_
  refine JL_all [] rfl ?_
  (repeat' (first | refine J_seq ?_ | refine J_skip ?_ | refine J_yes rfl ?_ | refine J_no rfl ?_))
  refine J_region ?_
  refine JL_all [] rfl ?_
  refine J_block ?_
  refine J_addnil 3 1 ?_
  refine J_loop (σ := Nat × Option Addr × Nat) (fun s => [(10, .int .i64 s.1), (9, .int .i64 l.length), (8, .slice A l.length c), (5, .slice s.2.1 (whereK l is s.1).length s.2.2), (1, .bool is)])
    (fun s => [.own (.slice s.2.1 (whereK l is s.1).length s.2.2) 3 1 (whereK l is s.1).length (ints (whereK l is s.1)), .seg b o (bools l)]) (fun s => s.1 ≤ l.length) (fun s => l.length - s.1)
    (0, none, 0) [0, 1] ⟨rfl, rfl, rfl, rfl, rfl, trivial⟩ (by decide) rfl (Nat.zero_le _) ?_
  rintro ⟨k, A1, c1⟩ hk
  simp only at hk ⊢
  have hwl := whereK_length l is k
  (repeat' (first | refine J_seq ?_ | refine J_skip ?_ | refine J_yes rfl ?_ | refine J_no rfl ?_))
  refine J_region ?_
  refine JL_all [] rfl ?_
  refine J_seq (J_dec rfl (fun hlt => J_skip ?_) (fun hge => J_exit ?_))
  · have hlt : k < l.length := by omega
    obtain rfl := hA (by rintro rfl; simp at hlt)
    obtain ⟨m, hm⟩ : ∃ m, l[k]? = some m := ⟨l[k], List.getElem?_eq_getElem hlt⟩
    have hws := whereK_succ l is k
    refine J_seq (J_block ?_)
    (repeat' (first | refine J_seq ?_ | refine J_skip ?_ | refine J_yes rfl ?_ | refine J_no rfl ?_))
    refine J_region ?_
    refine JL_run [] rfl ?_
    refine JL_val [] (idx1 rfl rfl rfl rfl rfl hlt) rfl ?_
    refine JL_val [] (ldseg 1 rfl rfl rfl rfl (show (bools l)[k]? = some (.bool m) from bools_get hm)) rfl ?_
    refine JL_all [] rfl ?_
    by_cases hgo : 0 < k ∧ m = is
    · rw [if_pos ⟨hgo.1, by rw [hm, hgo.2]⟩] at hws
      (repeat' (first | refine J_seq ?_ | refine J_skip ?_ | refine J_yes rfl ?_ | refine J_no rfl ?_))
      refine J_region ?_
      refine JL_run [] rfl ?_
      refine JL_set 17 (v' := .bool true) rfl (congrArg Value.bool (cdec_yes (by omega))) ?_
      refine JL_run [2] rfl ?_
      refine JL_set 21 (v' := .bool true) rfl (congrArg Value.bool (by rw [hgo.2]; simp)) ?_
      refine JL_nil ?_
      refine J_yes rfl ?_
      refine J_region (JL_run [] rfl ?_)
      refine JL_lit rfl rfl rfl rfl rfl rfl rfl (fun _ => rfl) fun g2 => ?_
      refine JL_appendS (n := (whereK l is k).length) (m := 1) (off := 0) (news := ints [(k : Int)]) 1 0 rfl rfl rfl rfl rfl rfl (by decide) rfl rfl (shows_blk g2 _ _ (0, 0)) (fun _ => rfl) rfl rfl (by omega) (by omega) (fun _ _ => rfl) fun A2 c2 => ?_
      rw [show (whereK l is k).length + 1 = (whereK l is (k + 1)).length by rw [hws]; simp, show ints (whereK l is k) ++ ints [(k : Int)] = ints (whereK l is (k + 1)) by rw [hws]; simp [ints]]
      refine JL_all [] rfl ?_
      (repeat' (first | refine J_seq ?_ | refine J_skip ?_ | refine J_yes rfl ?_ | refine J_no rfl ?_))
      refine J_region ?_
      refine JL_all [] rfl ?_
      refine ⟨(k + 1, A2, c2), [1, 2], ⟨?_, rfl, rfl, rfl, rfl, trivial⟩, by decide, rfl, by simp only; omega, by simp only; omega⟩
      show some (Value.int .i64 (IntKind.i64.wrap ((k : Int) + 1))) = _
      rw [w64 (by omega)]; rfl
    · rw [if_neg (fun h => hgo ⟨h.1, by rw [hm] at h; simpa using h.2⟩), List.append_nil] at hws
      refine J_cut [(21, .bool false), (10, .int .i64 k), (9, .int .i64 l.length), (8, .slice (some ⟨b, o, none⟩) l.length c), (5, .slice A1 (whereK l is k).length c1), (1, .bool is)]
        [.own (.slice A1 (whereK l is k).length c1) 3 1 (whereK l is k).length (ints (whereK l is k)), .seg b o (bools l)] ?_ ?_
      · (repeat' (first | refine J_seq ?_ | refine J_skip ?_ | refine J_yes rfl ?_ | refine J_no rfl ?_))
        refine J_region ?_
        refine JL_run [] rfl ?_
        by_cases h0 : 0 < k
        · refine JL_set 17 (v' := .bool true) rfl (congrArg Value.bool (cdec_yes (by omega))) ?_
          refine JL_run [2] rfl ?_
          refine JL_set 21 (v' := .bool false) rfl (congrArg Value.bool (by have : m ≠ is := fun e => hgo ⟨h0, e⟩; simpa using this)) ?_
          refine JL_nil ?_
          exact ⟨[0, 1], ⟨rfl, rfl, rfl, rfl, rfl, rfl, trivial⟩, by decide, rfl⟩
        · refine JL_set 17 (v' := .bool false) rfl (congrArg Value.bool (cdec_no (by omega))) ?_
          refine JL_all [2] rfl ?_
          exact ⟨[0, 1], ⟨rfl, rfl, rfl, rfl, rfl, rfl, trivial⟩, by decide, rfl⟩
      · refine J_no rfl (J_skip ?_)
        (repeat' (first | refine J_seq ?_ | refine J_skip ?_ | refine J_yes rfl ?_ | refine J_no rfl ?_))
        refine J_region ?_
        refine JL_all [] rfl ?_
        refine ⟨(k + 1, A1, c1), [0, 1], ⟨?_, rfl, rfl, by simp only [hws]; rfl, rfl, trivial⟩, by decide, by simp only [hws]; rfl, by simp only; omega, by simp only; omega⟩
        show some (Value.int .i64 (IntKind.i64.wrap ((k : Int) + 1))) = _
        rw [w64 (by omega)]; rfl
  · have hk' : k = l.length := by omega
    subst hk'
    (repeat' (first | refine J_seq ?_ | refine J_skip ?_ | refine J_yes rfl ?_ | refine J_no rfl ?_))
    refine J_region ?_
    refine JL_all [] rfl ?_
    refine J_drop [0] (by decide) rfl (J_ret ⟨_, rfl, A1, c1, rfl, rfl⟩)
structure IsSide (m : Int) (l : List Int) : Prop where
  rise : l.Pairwise (· < ·)
  rng : ∀ x ∈ l, 1 ≤ x ∧ x ≤ m
theorem IsSide.snoc {m : Int} {l : List Int} {x : Int} : IsSide m (l ++ [x]) ↔ IsSide m l ∧ (∀ y ∈ l, y < x) ∧ 1 ≤ x ∧ x ≤ m := by
  constructor
  · intro h
    obtain ⟨h1, _, h3⟩ := List.pairwise_append.1 h.rise
    have hx := h.rng x (by simp)
    exact ⟨⟨h1, fun y hy => h.rng y (by simp [hy])⟩, fun y hy => h3 y hy x (by simp), hx.1, hx.2⟩
  · rintro ⟨h, h1, h2, h3⟩
    refine ⟨rise_app h.rise h1, fun y hy => ?_⟩
    rcases List.mem_append.1 hy with hy | hy
    · exact h.rng y hy
    · rw [List.mem_singleton.1 hy]; exact ⟨h2, h3⟩
theorem IsSide.pre {m : Int} {l r : List Int} (h : IsSide m (l ++ r)) : IsSide m l := ⟨(List.pairwise_append.1 h.rise).1, fun y hy => h.rng y (by simp [hy])⟩
structure IsCover (g : Gr) (sl sr : List Int) : Prop where
  left : IsSide g.left sl
  right : IsSide g.right sr
  meet : ∀ e ∈ g.edges, e.l ∈ sl ∨ e.r ∈ sr
def setC (sl sr : List Int) (Al Ar : Option Addr) (cl cr : Nat) : List Value := [.slice Al sl.length cl, .slice Ar sr.length cr]
def setV (sl sr : List Int) (Al Ar : Option Addr) (cl cr : Nat) : Value := .agg #[.slice Al sl.length cl, .slice Ar sr.length cr]
end Go.Proofs.Ytdhenmmmkdhonaa
