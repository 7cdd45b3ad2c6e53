/- The engine and the words that all chapters share: several texts in one. -/
import Derived.Test.YtdhenmmmkdhonaaQX3
import Derived.Test.YtdhenmmmkdhonaaChainP
import Derived.Test.YtdhenmmmkdhonaaQB

/- One flow blocks, in plain terms: the search finds but one thing. -/
set_option linter.unusedVariables false
set_option linter.unusedSimpArgs false
namespace Go.Proofs.Ytdhenmmmkdhonaa
open Go.RowKit
theorem Nx.uniq {N : Net} {L : Nat → List Nat} {least : Int} {rm : List Int} (hsn : N.src.toNat ≠ N.snk.toNat) {pos W pos' W' : List Nat} {b : Bool} (h : Nx N L least rm pos W b pos' W') : ∀ {V : List Nat} {b2 : Bool} {pos2 W2 : List Nat},V = W → Nx N L least rm pos V b2 pos2 W2 → b = b2 ∧ pos' = pos2 ∧ W' = W2:=by
  induction h with
  | hit h1 =>
    intro V b2 pos2 W2 hV h
    cases h with
    | hit _=>exact ⟨rfl,rfl,hV.symm⟩
    | go k1 _ _ _ _=>rw [hV] at k1; exact absurd h1 k1
    | skip k1 _ _ _ _=>rw [hV] at k1; exact absurd h1 k1
    | back k1 _ _ _ _=>rw [hV] at k1; exact absurd h1 k1
    | stop k1 _ _=>rw [← hV] at h1; exact absurd h1 k1
  | @go pos W pos' W' r p b h1 h2 h3 h4 _ ih =>
    intro V b2 pos2 W2 hV h
    cases h with
    | hit k1=>rw [hV] at k1; exact absurd k1 h1
    | go k1 k2 k3 k4 k5 =>
      subst hV
      rw [h2] at k2
      simp only [Option.some.injEq] at k2
      subst k2
      rw [h3] at k3
      simp only [Option.some.injEq] at k3
      subst k3
      exact ih rfl k5
    | skip k1 k2 k3 k4 k5 =>
      subst hV
      rw [h2] at k2
      simp only [Option.some.injEq] at k2
      subst k2
      rw [h3] at k3
      simp only [Option.some.injEq] at k3
      subst k3
      omega
    | back k1 k2 k3 k4 k5 =>
      subst hV
      rw [h2] at k2
      simp only [Option.some.injEq] at k2
      subst k2
      have:=(List.getElem?_eq_some_iff.1 h3).1
      omega
    | stop k1 k2 k3 =>
      subst hV
      have h2' : pos[N.src.toNat]? = some p:=h2
      rw [h2'] at k2
      simp only [Option.some.injEq] at k2
      subst k2
      have:=(List.getElem?_eq_some_iff.1 h3).1
      have h5 : p < (L N.src.toNat).length:=this
      omega
  | @skip pos W pos' W' r p b h1 h2 h3 h4 _ ih =>
    intro V b2 pos2 W2 hV h
    cases h with
    | hit k1=>rw [hV] at k1; exact absurd k1 h1
    | go k1 k2 k3 k4 k5 =>
      subst hV
      rw [h2] at k2
      simp only [Option.some.injEq] at k2
      subst k2
      rw [h3] at k3
      simp only [Option.some.injEq] at k3
      subst k3
      omega
    | skip k1 k2 k3 k4 k5 =>
      subst hV
      rw [h2] at k2
      simp only [Option.some.injEq] at k2
      subst k2
      exact ih rfl k5
    | back k1 k2 k3 k4 k5 =>
      subst hV
      rw [h2] at k2
      simp only [Option.some.injEq] at k2
      subst k2
      have:=(List.getElem?_eq_some_iff.1 h3).1
      omega
    | stop k1 k2 k3 =>
      subst hV
      have h2' : pos[N.src.toNat]? = some p:=h2
      rw [h2'] at k2
      simp only [Option.some.injEq] at k2
      subst k2
      have h5 : p < (L N.src.toNat).length:=(List.getElem?_eq_some_iff.1 h3).1
      omega
  | @back pos W pos' W' r p q b h1 h2 h3 h4 _ ih =>
    intro V b2 pos2 W2 hV h
    cases h with
    | hit k1=>rw [hV] at k1; exact absurd k1 h1
    | go k1 k2 k3 k4 k5 =>
      subst hV
      rw [h2] at k2
      simp only [Option.some.injEq] at k2
      subst k2
      have:=(List.getElem?_eq_some_iff.1 k3).1
      omega
    | skip k1 k2 k3 k4 k5 =>
      subst hV
      rw [h2] at k2
      simp only [Option.some.injEq] at k2
      subst k2
      have:=(List.getElem?_eq_some_iff.1 k3).1
      omega
    | @back _ W2' _ _ r2 p2 q2 _ k1 k2 k3 k4 k5 =>
      obtain ⟨e1,e2⟩:=List.append_inj' hV rfl
      subst e1
      simp only [List.cons.injEq,and_true] at e2
      subst e2
      rw [h4] at k4
      simp only [Option.some.injEq] at k4
      subst k4
      exact ih rfl k5
    | stop k1 k2 k3 =>
      exact absurd hV (by simp)
  | stop h1 h2 h3 =>
    intro V b2 pos2 W2 hV h
    cases h with
    | hit k1=>rw [hV] at k1; exact absurd k1 h1
    | go k1 k2 k3 k4 k5 =>
      subst hV
      have h2':=k2
      rw [show endN N [] = N.src.toNat from rfl,h2] at h2'
      simp only [Option.some.injEq] at h2'
      subst h2'
      have h5:=(List.getElem?_eq_some_iff.1 k3).1
      rw [show endN N [] = N.src.toNat from rfl] at h5
      omega
    | skip k1 k2 k3 k4 k5 =>
      subst hV
      have h2':=k2
      rw [show endN N [] = N.src.toNat from rfl,h2] at h2'
      simp only [Option.some.injEq] at h2'
      subst h2'
      have h5:=(List.getElem?_eq_some_iff.1 k3).1
      rw [show endN N [] = N.src.toNat from rfl] at h5
      omega
    | back k1 k2 k3 k4 k5=>exact absurd hV (by simp)
    | stop _ _ _=>exact ⟨rfl,rfl,rfl⟩
theorem Bl.uniq {N : Net} {L : Nat → List Nat} {least : Int} (hsn : N.src.toNat ≠ N.snk.toNat) {rm rm' : List Int} {pos W : List Nat} {ws : List (List Nat × Int)} (h : Bl N L least rm pos W ws rm') : ∀ {ws2 : List (List Nat × Int)} {rm2 : List Int},Bl N L least rm pos W ws2 rm2 → ws = ws2 ∧ rm' = rm2:=by
  induction h with
  | stop h1 =>
    intro ws2 rm2 h
    cases h with
    | stop _=>exact ⟨rfl,rfl⟩
    | walk k1 _=>have:=(h1.uniq hsn rfl k1).1; cases this
  | walk h1 _ ih =>
    intro ws2 rm2 h
    cases h with
    | stop k1=>have:=(h1.uniq hsn rfl k1).1; cases this
    | walk k1 k2 =>
      obtain ⟨_,e1,e2⟩:=h1.uniq hsn rfl k1
      subst e1
      subst e2
      obtain ⟨e3,e4⟩:=ih k2
      exact ⟨by rw [e3],e4⟩
theorem BlkOf.uniq {N : Net} (hR : N.Right) {least : Int} {f f1 f2 : List Int} {ws1 ws2 : List (List Nat × Int)} (h1 : BlkOf N least f ws1 f1) (h2 : BlkOf N least f ws2 f2) : ws1 = ws2 ∧ f1 = f2:=by
  have hsr:=hR.src
  have hsk:=hR.snk
  have hdf:=hR.diff
  obtain ⟨lv1,a1,a2,a3⟩:=h1
  obtain ⟨lv2,b1,b2,b3⟩:=h2
  obtain rfl : lv1 = lv2:=by
    have hu:=lev_uniq a1 b1
    have hl : lv1.length = lv2.length:=by rw [a1.len,b1.len]
    apply List.ext_getElem?
    intro i
    by_cases hi : i < lv1.length
    · have:=hu i
      unfold lvZ at this
      rw [List.getD_eq_getElem?_getD,List.getD_eq_getElem?_getD,List.getElem?_eq_getElem hi,List.getElem?_eq_getElem (by omega)] at this
      rw [List.getElem?_eq_getElem hi,List.getElem?_eq_getElem (by omega)]
      simpa using this
    · rw [List.getElem?_eq_none (by omega),List.getElem?_eq_none (by omega)]
  obtain ⟨e1,e2⟩:=a3.uniq (by omega) b3
  exact ⟨e1,room_inj a2.len b2.len e2⟩
end Go.Proofs.Ytdhenmmmkdhonaa


/- Chapter 12's example, in plain terms; phases find but one thing. -/
set_option linter.unusedVariables false
set_option linter.unusedSimpArgs false
namespace Go.Proofs.Ytdhenmmmkdhonaa
open Go.RowKit
theorem Dn.uniq {N : Net} (hR : N.Right) {least : Int} (hle : 1 ≤ least) {f f1 : List Int} {p1 k1 : Nat} (h : Dn N least f p1 k1 f1) : ∀ {f2 : List Int} {p2 k2 : Nat},Dn N least f p2 k2 f2 → f1 = f2 ∧ p1 = p2 ∧ k1 = k2:=by
  induction h with
  | stop h1 h2 =>
    intro f2 p2 k2 h
    cases h with
    | stop _ _=>exact ⟨rfl,rfl,rfl⟩
    | step j1 j2 _ _=>rw [lev_eq j1 h1] at j2; omega
  | step h1 h2 h3 _ ih =>
    intro f2 p2 k2 h
    cases h with
    | stop j1 j2=>rw [lev_eq j1 h1] at j2; omega
    | step j1 j2 j3 j4 =>
      obtain ⟨rfl,rfl⟩:=h3.uniq hR j3
      obtain ⟨e1,e2,e3⟩:=ih j4
      exact ⟨e1,by omega,by omega⟩
end Go.Proofs.Ytdhenmmmkdhonaa


/- Chapter 17's words: a number of raw numbers, and rows that are the same. -/
set_option linter.unusedVariables false
set_option linter.unusedSimpArgs false
namespace Go.Proofs.Ytdhenmmmkdhonaa
open Go.RowKit
theorem pick17_fn {c n : Int} (hc : inB c) (hn : 0 < n) : Fn 31 [.int .i64 c,.int .i64 n] [] [] fun v H'=>v = .int .i64 (pickZ c n) ∧ H' = []:=by
  unfold inB at hc
  refine Fn_of Try.func31 rfl rfl fun w0=>?_
  (repeat' (first | refine J_seq ?_ | refine J_skip ?_ | refine J_yes rfl ?_ | refine J_no rfl ?_))
  refine J_region ?_
  refine JL_all [] rfl ?_
  refine J_cut [(0,.int .i64 (if c < 0 then - (c + 1) else c)),(1,.int .i64 n)] [] ?_ ?_
  · (repeat' (first | refine J_seq ?_ | refine J_skip ?_ | refine J_yes rfl ?_ | refine J_no rfl ?_))
    refine J_region ?_
    refine JL_all [] rfl ?_
    refine J_dec rfl (fun h=>?_) (fun h=>J_skip ?_)
    · refine J_region (JL_all [] rfl ?_)
      refine ⟨[],⟨?_,rfl,trivial⟩,by decide,rfl⟩
      show some (Value.int .i64 (IntKind.i64.wrap (0 - IntKind.i64.wrap (c + 1)))) = _
      rw [if_pos h,w64 (n:=c + 1) (by omega),w64 (by omega),Int.zero_sub]
    · exact ⟨[],⟨by rw [if_neg h]; rfl,rfl,trivial⟩,by decide,rfl⟩
  (repeat' (first | refine J_seq ?_ | refine J_skip ?_ | refine J_yes rfl ?_ | refine J_no rfl ?_))
  refine J_region ?_
  refine JL_run [] rfl ?_
  refine JL_val [] (OpV_rem rfl rfl rfl (by omega)) rfl ?_
  refine JL_all [] rfl ?_
  refine J_ret ⟨_,rfl,congrArg (Value.int .i64) ?_,rfl⟩
  unfold pickZ
  rw [Int.tmod_eq_emod_of_nonneg (by split <;> omega)]
theorem same17_fn (A : Option Addr) (c b o : Nat) (l : List Int) (hA : l ≠ [] → A = some ⟨b, o, none⟩) (hl : l.length ≤ 100000) (A2 : Option Addr) (c2 b2 o2 : Nat) (l2 : List Int) (hA2 : l2 ≠ [] → A2 = some ⟨b2, o2, none⟩) :
    Fn 30 [.slice A l.length c,.slice A2 l2.length c2] [] [.seg b o (ints l),.seg b2 o2 (ints l2)] fun u H'=>u = .bool (cdec (l = l2)) ∧ H' = []:=by
  refine Fn_of Try.func30 rfl rfl fun w0=>?_
  (repeat' (first | refine J_seq ?_ | refine J_skip ?_ | refine J_yes rfl ?_ | refine J_no rfl ?_))
  refine J_region ?_
  refine JL_all [] rfl ?_
  (repeat' (first | refine J_seq ?_ | refine J_skip ?_ | refine J_yes rfl ?_ | refine J_no rfl ?_))
  refine J_region ?_
  refine JL_all [] rfl ?_
  refine J_dec rfl (fun h=>?_) (fun h=>J_skip ?_)
  · (repeat' (first | refine J_seq ?_ | refine J_skip ?_ | refine J_yes rfl ?_ | refine J_no rfl ?_))
    refine J_region ?_
    refine JL_all [] rfl ?_
    refine J_drop [] (by decide) rfl (J_ret ⟨_,rfl,congrArg Value.bool (cdec_no (fun e=>h (by rw [e]))).symm,rfl⟩)
  have hlen : l.length = l2.length:=by omega
  (repeat' (first | refine J_seq ?_ | refine J_skip ?_ | refine J_yes rfl ?_ | refine J_no rfl ?_))
  refine J_region ?_
  refine JL_all [] rfl ?_
  refine J_block ?_
  refine J_loop (σ:=Nat) (fun k=>[(5,.int .i64 k),(0,.slice A l.length c),(1,.slice A2 l2.length c2)]) (fun k=>[.seg b o (ints l),.seg b2 o2 (ints l2)]) (fun k=>k ≤ l.length ∧ ∀ j,j < k → l[j]? = l2[j]?) (fun k=>l.length - k)
    0 [0,1] ⟨rfl,rfl,rfl,trivial⟩ (by decide) rfl ⟨Nat.zero_le _,fun x hx=>by omega⟩ ?_
  rintro k ⟨hk,hall⟩
  (repeat' (first | refine J_seq ?_ | refine J_skip ?_ | refine J_yes rfl ?_ | refine J_no rfl ?_))
  refine J_region ?_
  refine JL_all [] rfl ?_
  refine J_dec rfl (fun hlt=>J_skip ?_) (fun hge=>J_exit ?_)
  · have hlt : k < l.length:=by omega
    obtain rfl:=hA (by rintro rfl; simp at hlt)
    obtain rfl := hA2 (by intro h0; have h1 : l2.length = 0 := by rw [h0]; rfl
                          omega)
    obtain ⟨x,hx⟩ : ∃ x,l[k]? = some x:=⟨l[k],List.getElem?_eq_getElem hlt⟩
    obtain ⟨y,hy⟩ : ∃ y,l2[k]? = some y:=⟨l2[k]'(by omega),List.getElem?_eq_getElem (by omega)⟩
    refine J_seq (J_block ?_)
    (repeat' (first | refine J_seq ?_ | refine J_skip ?_ | refine J_yes rfl ?_ | refine J_no rfl ?_))
    refine J_walk 9 [(0,true),(1,true),(2,true),(3,true),(4,true),(5,true),(6,true),(7,true),(8,true)] [0,1] (by kernel_rfl) (by decide) rfl ?_
    refine JW_run [] rfl ?_
    refine JW_still [] rfl (idx1 rfl rfl rfl rfl rfl hlt) rfl ?_
    refine JW_still [] rfl (ldseg 0 rfl rfl rfl rfl (readT_int' hx)) rfl ?_
    refine JW_run [] rfl ?_
    refine JW_still [] rfl (idx1 rfl rfl rfl rfl rfl (by omega)) rfl ?_
    refine JW_still [] rfl (ldseg 1 rfl rfl rfl rfl (readT_int' hy)) rfl ?_
    refine JW_all [] rfl ?_
    refine JL_nil ?_
    refine J_dec rfl (fun h=>?_) (fun h=>J_skip ?_)
    · (repeat' (first | refine J_seq ?_ | refine J_skip ?_ | refine J_yes rfl ?_ | refine J_no rfl ?_))
      refine J_region ?_
      refine JL_all [] rfl ?_
      refine J_drop [] (by decide) rfl (J_ret ⟨_,rfl,congrArg Value.bool (cdec_no (fun e=>?_)).symm,rfl⟩)
      rw [e,hy] at hx
      exact h (Option.some.inj hx).symm
    · (repeat' (first | refine J_seq ?_ | refine J_skip ?_ | refine J_yes rfl ?_ | refine J_no rfl ?_))
      refine J_region ?_
      refine JL_all [] rfl ?_
      refine ⟨k + 1,[0,1],⟨?_,rfl,rfl,trivial⟩,by decide,rfl,⟨by omega,fun j hj=>?_⟩,by omega⟩
      · show some (Value.int .i64 (IntKind.i64.wrap ((k : Int) + 1))) = _
        rw [w64 (by omega)]; rfl
      · by_cases e : j = k
        · subst e; rw [hx,hy]; exact congrArg some (Classical.not_not.1 h)
        · exact hall j (by omega)
  · (repeat' (first | refine J_seq ?_ | refine J_skip ?_ | refine J_yes rfl ?_ | refine J_no rfl ?_))
    refine J_region ?_
    refine JL_all [] rfl ?_
    refine J_drop [] (by decide) rfl (J_ret ⟨_,rfl,congrArg Value.bool (cdec_yes (List.ext_getElem? fun j=>?_)).symm,rfl⟩)
    by_cases hj : j < l.length
    · exact hall j (by omega)
    · rw [List.getElem?_eq_none (by omega),List.getElem?_eq_none (by omega)]
end Go.Proofs.Ytdhenmmmkdhonaa
