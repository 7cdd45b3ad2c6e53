
/- Layer 1: what Sum answers: for every row of numbers; and what its closure does. -/
import Derived.Test.YtopcgkbjijdabaaNumF
import Derived.Test.YtopcgkbjijdabaaEngG
namespace Go.Proofs.Ytopcgkbjijdabaa
open Go.RowKit

def bey : Value := .iface 63 (.agg #[])
theorem plus_ok {a b : Int} (ha : inB a) (hb : inB b) (h : inB (a + b)) : Fn 44 [.int .i64 a, .int .i64 b] [] [] fun v H' => v = .int .i64 (a + b) ∧ H' = [] := by
  have T := add_fn ha hb
  rw [orErr_in h] at T
  refine Fn_of Try.func44 rfl rfl fun w0 => ?_
  (repeat' (first | refine J_seq ?_ | refine J_skip ?_ | refine J_yes rfl ?_ | refine J_no rfl ?_))
  refine J_region ?_
  refine JL_all [] rfl ?_
  (repeat' (first | refine J_seq ?_ | refine J_skip ?_ | refine J_yes rfl ?_ | refine J_no rfl ?_))
  refine J_region ?_
  refine JL_run [] rfl ?_
  refine JL_callR [] (T) rfl rfl rfl rfl (by kernel_rfl) trivial (fun _ => rfl) ?_
  rintro v H' ⟨rfl, rfl⟩
  refine ⟨rfl, ?_⟩
  refine JL_all [] rfl ?_
  (repeat' (first | refine J_seq ?_ | refine J_skip ?_ | refine J_yes rfl ?_ | refine J_no rfl ?_))
  refine J_region ?_
  refine JL_all [] rfl ?_
  refine J_dec rfl (fun hx => absurd rfl hx) (fun _ => ?_)
  (repeat' (first | refine J_seq ?_ | refine J_skip ?_ | refine J_yes rfl ?_ | refine J_no rfl ?_))
  (repeat' (first | refine J_seq ?_ | refine J_skip ?_ | refine J_yes rfl ?_ | refine J_no rfl ?_))
  refine J_region ?_
  refine JL_all [] rfl ?_
  exact J_ret ⟨_, rfl, rfl, rfl⟩
theorem plus_bad {a b : Int} (ha : inB a) (hb : inB b) (h : ¬ inB (a + b)) : Fx 44 [.int .i64 a, .int .i64 b] [] [cause bey] := by
  have T := add_fn ha hb
  rw [orErr_out h] at T
  refine Fx_of Try.func44 rfl rfl fun w0 => ?_
  (repeat' (first | refine J_seq ?_ | refine J_skip ?_ | refine J_yes rfl ?_ | refine J_no rfl ?_))
  refine J_region ?_
  refine JL_all [] rfl ?_
  (repeat' (first | refine J_seq ?_ | refine J_skip ?_ | refine J_yes rfl ?_ | refine J_no rfl ?_))
  refine J_region ?_
  refine JL_run [] rfl ?_
  refine JL_callR [] (T) rfl rfl rfl rfl (by kernel_rfl) trivial (fun _ => rfl) ?_
  rintro v H' ⟨rfl, rfl⟩
  refine ⟨rfl, ?_⟩
  refine JL_all [] rfl ?_
  (repeat' (first | refine J_seq ?_ | refine J_skip ?_ | refine J_yes rfl ?_ | refine J_no rfl ?_))
  refine J_region ?_
  refine JL_all [] rfl ?_
  refine J_dec rfl (fun _ => ?_) (fun hx => absurd (show (3 : Int) ≠ 0 by decide) hx)
  refine J_region ?_
  refine JL_val [] (OpV_build rfl rfl rfl rfl rfl rfl) rfl ?_
  refine JL_run [] rfl ?_
  exact JL_panic rfl rfl rfl rfl
theorem sumD_ret (b1 b2 : Nat) (x y : Value) : FnD 43 [.pointer (some ⟨b1, 0, none⟩), .pointer (some ⟨b2, 0, none⟩)] .returning .returning [b1, b2] [blk b1 2 [x], blk b2 23 [y]]
    fun H' => H' = [blk b1 2 [x], blk b2 23 [y]] := by
  refine FnD_of (v := .nilIface) (d := 5) Try.func43 rfl rfl rfl rfl rfl rfl rfl (fun c cs h => .inr ⟨recover_none c cs h, rfl, rfl⟩) fun w0 => ?_
  refine J_block ?_
  (repeat' (first | refine J_seq ?_ | refine J_skip ?_ | refine J_yes rfl ?_ | refine J_no rfl ?_))
  refine J_region ?_
  refine JL_all [] rfl ?_
  refine J_yes rfl ?_
  refine J_region ?_
  refine JL_all [] rfl ?_
  exact ⟨_, rfl, rfl⟩
theorem sumD_pan (b1 b2 : Nat) (x y : Value) : FnD 43 [.pointer (some ⟨b1, 0, none⟩), .pointer (some ⟨b2, 0, none⟩)] (.panicking [cause bey]) (.panicking [{ v := bey, recovered := true }]) [b1, b2]
    [blk b1 2 [x], blk b2 23 [y]] fun H' => H' = [blk b1 2 [.int .i64 0], blk b2 23 [.int .i64 3]] := by
  refine FnD_of (v := bey) (d := 5) Try.func43 rfl rfl rfl rfl rfl rfl rfl (fun c cs h => .inl (recover_some c cs bey h)) fun w0 => ?_
  refine J_block ?_
  (repeat' (first | refine J_seq ?_ | refine J_skip ?_ | refine J_yes rfl ?_ | refine J_no rfl ?_))
  refine J_region ?_
  refine JL_all [] rfl ?_
  refine J_no rfl ?_
  (repeat' (first | refine J_seq ?_ | refine J_skip ?_ | refine J_yes rfl ?_ | refine J_no rfl ?_))
  refine J_region ?_
  refine JL_all [] rfl ?_
  refine J_yes rfl ?_
  (repeat' (first | refine J_seq ?_ | refine J_skip ?_ | refine J_yes rfl ?_ | refine J_no rfl ?_))
  refine J_region ?_
  refine JL_alloc rfl rfl rfl (fun _ => rfl) fun b3 => ?_
  refine JL_store 0 rfl rfl rfl rfl rfl [] rfl ?_
  refine JL_nil ?_
  refine J_drop [1, 2] (by decide) rfl (J_region ?_)
  refine JL_store 0 rfl rfl rfl rfl rfl [] rfl ?_
  refine JL_store 1 rfl rfl rfl rfl rfl [] rfl ?_
  refine JL_nil ?_
  exact ⟨_, rfl, rfl⟩
/-- A row's sum, or that it goes beyond. -/
def sumL : Int → List Int → Int × Int
  | n, [] => (n, 0)
  | n, x :: l => if inB (n + x) then sumL (n + x) l else (0, 3)
def sumQ (b1 b2 : Nat) (r : Int × Int) : Post := fun e E H => match e with
  | .ret => look E 2 = some (.pointer (some ⟨b1, 0, none⟩)) ∧ look E 3 = some (.pointer (some ⟨b2, 0, none⟩)) ∧ r.2 = 0 ∧ ∃ ix : List Nat, ix.Nodup ∧ picks H ix = some [blk b1 2 [.int .i64 r.1], blk b2 23 [.int .i64 r.2]]
  | .panic c => look E 2 = some (.pointer (some ⟨b1, 0, none⟩)) ∧ look E 3 = some (.pointer (some ⟨b2, 0, none⟩)) ∧ r = (0, 3) ∧ c = [cause bey] ∧ ∃ (ix : List Nat) (x y : Value), ix.Nodup ∧ picks H ix = some [blk b1 2 [x], blk b2 23 [y]]
  | _ => False
theorem sum_fn (A : Option Addr) (c b o : Nat) (l : List Int) (hA : l ≠ [] → A = some ⟨b, o, none⟩) (hl : ∀ x ∈ l, inB x) (hs : l.length ≤ 9223372036854775807) :
    Fn 20 [.slice A l.length c] [] [.seg b o (ints l)] fun v H' => v = two (sumL 0 l) ∧ H' = [] := by
  refine Fn_ofD Try.func20 rfl rfl fun w0 => ?_
  refine W_seq (J_region ?_)
  refine JL_alloc rfl rfl rfl (fun _ => rfl) fun b1 => ?_
  refine JL_alloc rfl rfl rfl (fun _ => rfl) fun b2 => ?_
  refine JL_nil ?_
  refine W_defer (cap := [.pointer (some ⟨b1, 0, none⟩), .pointer (some ⟨b2, 0, none⟩)]) rfl rfl rfl rfl rfl rfl rfl ?_
  refine W_of (Q := sumQ b1 b2 (sumL 0 l)) ?_ ?_
  · refine J_seq ?_
    (repeat' (first | refine J_seq ?_ | refine J_skip ?_ | refine J_yes rfl ?_ | refine J_no rfl ?_))
    refine J_region ?_
    refine JL_all [] rfl ?_
    refine J_block ?_
    refine J_loop (σ := Nat × Int) (fun s => [(9, .int .i64 s.1), (8, .int .i64 l.length), (7, .slice A l.length c), (2, .pointer (some ⟨b1, 0, none⟩)), (3, .pointer (some ⟨b2, 0, none⟩))])
      (fun s => [blk b2 23 [.int .i64 0], blk b1 2 [.int .i64 s.2], .seg b o (ints l)]) (fun s => s.1 ≤ l.length ∧ inB s.2 ∧ sumL 0 l = sumL s.2 (l.drop s.1)) (fun s => l.length - s.1)
      (0, 0) [0, 1, 2] ⟨rfl, rfl, rfl, rfl, rfl, trivial⟩ (by decide) rfl ⟨Nat.zero_le _, by decide, rfl⟩ ?_
    rintro ⟨k, n⟩ ⟨hk, hn, hsum⟩
    simp only at hk hn hsum ⊢
    (repeat' (first | refine J_seq ?_ | refine J_skip ?_ | refine J_yes rfl ?_ | refine J_no rfl ?_))
    refine J_region ?_
    refine JL_all [] rfl ?_
    refine J_seq (J_dec rfl (fun hlt => J_skip ?_) (fun hge => J_exit ?_))
    · have hlt : k < l.length := by omega
      obtain rfl := hA (by rintro rfl; simp at hlt)
      obtain ⟨x, hx⟩ : ∃ x, l[k]? = some x := ⟨l[k], List.getElem?_eq_getElem hlt⟩
      have hxB := hl x (List.mem_of_getElem? hx)
      have hd : l.drop k = x :: l.drop (k + 1) := by
        obtain ⟨_, rfl⟩ := List.getElem?_eq_some_iff.1 hx
        rw [List.drop_eq_getElem_cons hlt]
      refine J_seq (J_block ?_)
      (repeat' (first | refine J_seq ?_ | refine J_skip ?_ | refine J_yes rfl ?_ | refine J_no rfl ?_))
      refine J_region ?_
      refine JL_val [] (idx1 rfl rfl rfl rfl rfl hlt) rfl ?_
      refine JL_val [] (ldseg 2 rfl rfl rfl rfl (readT_int hx)) rfl ?_
      refine JL_all [] rfl ?_
      refine J_region ?_
      refine JL_val [] (OpV_blk 1 rfl rfl rfl rfl) rfl ?_
      refine JL_run [] rfl ?_
      by_cases hi : inB (n + x)
      · refine JL_callR [] (plus_ok hn hxB hi) rfl rfl rfl rfl (by kernel_rfl) trivial (fun _ => rfl) ?_
        rintro v H' ⟨rfl, rfl⟩
        refine ⟨rfl, ?_⟩
        refine JL_store 1 rfl rfl rfl rfl rfl [] rfl ?_
        refine JL_nil ?_
        refine J_region (JL_all [] rfl ?_)
        refine ⟨(k + 1, n + x), [0, 1, 2], ⟨?_, rfl, rfl, rfl, rfl, trivial⟩, by decide, rfl, ⟨by simp only; omega, hi, ?_⟩, by simp only; omega⟩
        · show some (Value.int .i64 (IntKind.i64.wrap ((k : Int) + 1))) = _
          rw [w64 (by omega)]; rfl
        · rw [hsum, hd, sumL, if_pos hi]
      · refine JL_callX (plus_bad hn hxB hi) rfl rfl rfl rfl (by kernel_rfl) trivial rfl ?_
        refine ⟨rfl, rfl, ?_, rfl, [1, 0], .int .i64 n, .int .i64 0, by decide, rfl⟩
        rw [hsum, hd, sumL, if_neg hi]
    · have hk' : k = l.length := by omega
      subst hk'
      rw [List.drop_length, sumL] at hsum
      (repeat' (first | refine J_seq ?_ | refine J_skip ?_ | refine J_yes rfl ?_ | refine J_no rfl ?_))
      refine J_region ?_
      refine JL_val [] (OpV_blk 1 rfl rfl rfl rfl) rfl ?_
      refine JL_store 1 rfl rfl rfl rfl rfl [] rfl ?_
      refine JL_store 0 rfl rfl rfl rfl rfl [] rfl ?_
      refine JL_nil (J_ret ?_)
      exact ⟨rfl, rfl, by rw [hsum], [1, 0], by decide, by rw [hsum]; rfl⟩
  · rintro e a w ⟨E, H, hAg, hH, hq⟩
    cases e with
    | ret =>
      obtain ⟨h1, h2, h0, ix, h3, h4⟩ := hq
      exact door ix rfl hAg hH h1 h2 h3 h4 (by kernel_rfl) (by simp) rfl (sumD_ret b1 b2 _ _) rfl rfl ⟨rfl, rfl⟩
    | panic ch =>
      obtain ⟨h1, h2, h0, rfl, ix, x, y, h3, h4⟩ := hq
      exact door ix rfl hAg hH h1 h2 h3 h4 (by kernel_rfl) (by simp) rfl (sumD_pan b1 b2 _ _) rfl rfl ⟨by rw [h0]; rfl, rfl⟩
    | _ => exact hq.elim
end Go.Proofs.Ytopcgkbjijdabaa
