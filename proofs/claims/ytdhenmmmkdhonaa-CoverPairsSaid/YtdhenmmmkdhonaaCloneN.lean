
/- Rows that are cloned. -/
import Derived.Test.YtdhenmmmkdhonaaQB
set_option linter.unusedVariables false
set_option linter.unusedSimpArgs false
namespace Go.Proofs.Ytdhenmmmkdhonaa
open Go.RowKit
theorem one_ints' (l : List Int) : one (ints l) = true:=by
  induction l with
  | nil=>rfl
  | cons x l ih=>exact ih
theorem cloneI_fn (A : Option Addr) (c b o : Nat) (l : List Int) (hA : l ≠ [] → A = some ⟨b, o, none⟩) (hl : l.length ≤ 100000) :
    Fn 77 [.slice A l.length c] [] [.seg b o (ints l)] fun v H'=>∃ (A' : Option Addr) (c' : Nat),v = .slice A' l.length c' ∧ H' = [.own (.slice A' l.length c') 3 1 l.length (ints l)]:=by
  refine Fn_of Try.func77 rfl rfl fun w0=>?_
  (repeat' (first | refine J_seq ?_ | refine J_skip ?_ | refine J_yes rfl ?_ | refine J_no rfl ?_))
  refine J_region ?_
  refine JL_all [] rfl ?_
  (repeat' (first | refine J_seq ?_ | refine J_skip ?_ | refine J_yes rfl ?_ | refine J_no rfl ?_))
  refine J_region ?_
  refine JL_run [] rfl ?_
  refine JL_val [] (OpV_isnil rfl rfl rfl rfl) rfl ?_
  refine JL_nil ?_
  cases A with
  | none =>
    have h0 : l = []:=Classical.byContradiction fun h=>by have:=hA h; simp at this
    subst h0
    refine J_yes rfl ?_
    (repeat' (first | refine J_seq ?_ | refine J_skip ?_ | refine J_yes rfl ?_ | refine J_no rfl ?_))
    refine J_region ?_
    refine JL_all [] rfl ?_
    refine J_addnil 3 1 ?_
    exact J_drop [0] (by decide) rfl (J_ret ⟨_,rfl,none,0,rfl,rfl⟩)
  | some a =>
    refine J_no rfl (J_skip ?_)
    (repeat' (first | refine J_seq ?_ | refine J_skip ?_ | refine J_yes rfl ?_ | refine J_no rfl ?_))
    refine J_region ?_
    refine JL_lit rfl rfl rfl rfl rfl rfl rfl (fun _=>rfl) fun g=>?_
    refine JL_own 1 0 rfl (by decide) ?_
    refine JL_run [] rfl ?_
    refine JL_appendS (n:=0) (m:=l.length) (off:=o) (b:=b) (news:=ints l) 0 1 rfl rfl rfl rfl rfl rfl (by decide) rfl rfl (shows_seg _ _ _) (fun h=>hA (fun e=>h (by rw [e]; rfl))) (by rw [ints_length]; omega) (one_ints' l) (by omega) (by omega) (fun _ _=>rfl) fun A2 c2=>?_
    rw [Nat.zero_add]
    refine JL_all [] rfl ?_
    exact J_drop [0] (by decide) rfl (J_ret ⟨_,rfl,A2,c2,rfl,rfl⟩)
theorem cloneL_fn (A : Option Addr) (c b o : Nat) (l : List Int) (hA : l ≠ [] → A = some ⟨b, o, none⟩) (hl : l.length ≤ 100000) :
    Fn 48 [.slice A l.length c] [] [.seg b o (ints l)] fun v H'=>∃ (A' : Option Addr) (c' : Nat),v = .slice A' l.length c' ∧ H' = [.own (.slice A' l.length c') 2 1 l.length (ints l)]:=by
  refine Fn_of Try.func48 rfl rfl fun w0=>?_
  (repeat' (first | refine J_seq ?_ | refine J_skip ?_ | refine J_yes rfl ?_ | refine J_no rfl ?_))
  refine J_region ?_
  refine JL_all [] rfl ?_
  (repeat' (first | refine J_seq ?_ | refine J_skip ?_ | refine J_yes rfl ?_ | refine J_no rfl ?_))
  refine J_region ?_
  refine JL_run [] rfl ?_
  refine JL_val [] (OpV_isnil rfl rfl rfl rfl) rfl ?_
  refine JL_nil ?_
  cases A with
  | none =>
    have h0 : l = []:=Classical.byContradiction fun h=>by have:=hA h; simp at this
    subst h0
    refine J_yes rfl ?_
    (repeat' (first | refine J_seq ?_ | refine J_skip ?_ | refine J_yes rfl ?_ | refine J_no rfl ?_))
    refine J_region ?_
    refine JL_all [] rfl ?_
    refine J_addnil 2 1 ?_
    exact J_drop [0] (by decide) rfl (J_ret ⟨_,rfl,none,0,rfl,rfl⟩)
  | some a =>
    refine J_no rfl (J_skip ?_)
    (repeat' (first | refine J_seq ?_ | refine J_skip ?_ | refine J_yes rfl ?_ | refine J_no rfl ?_))
    refine J_region ?_
    refine JL_lit rfl rfl rfl rfl rfl rfl rfl (fun _=>rfl) fun g=>?_
    refine JL_own 1 0 rfl (by decide) ?_
    refine JL_run [] rfl ?_
    refine JL_appendS (n:=0) (m:=l.length) (off:=o) (b:=b) (news:=ints l) 0 1 rfl rfl rfl rfl rfl rfl (by decide) rfl rfl (shows_seg _ _ _) (fun h=>hA (fun e=>h (by rw [e]; rfl))) (by rw [ints_length]; omega) (one_ints' l) (by omega) (by omega) (fun _ _=>rfl) fun A2 c2=>?_
    rw [Nat.zero_add]
    refine JL_all [] rfl ?_
    exact J_drop [0] (by decide) rfl (J_ret ⟨_,rfl,A2,c2,rfl,rfl⟩)
end Go.Proofs.Ytdhenmmmkdhonaa
