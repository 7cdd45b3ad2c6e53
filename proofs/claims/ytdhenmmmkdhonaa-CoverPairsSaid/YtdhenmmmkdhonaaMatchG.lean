
/- Graphs of two sides, and their networks. -/
import Derived.Test.YtdhenmmmkdhonaaDinN
import Derived.Test.YtdhenmmmkdhonaaQX7
set_option linter.unusedVariables false
set_option linter.unusedSimpArgs false
namespace Go.Proofs.Ytdhenmmmkdhonaa
open Go.RowKit
structure Edg where
  l : Int
  r : Int
structure Gr where
  left : Int
  right : Int
  edges : List Edg
def edgs (l : List Edg) : List Value:=l.flatMap fun e=>[.int .i64 e.l,.int .i64 e.r]
theorem edgs_cons (e : Edg) (l : List Edg) : edgs (e :: l) = .int .i64 e.l :: .int .i64 e.r :: edgs l:=by simp [edgs]
theorem edgs_length : ∀ l : List Edg,(edgs l).length = l.length * 2
  | []=>rfl
  | e :: l=>by rw [edgs_cons,List.length_cons,List.length_cons,edgs_length l,List.length_cons]; omega
theorem edgs_app (l r : List Edg) : edgs (l ++ r) = edgs l ++ edgs r:=by simp [edgs]
theorem edgs_get : ∀ {l : List Edg} {i : Nat} {x : Edg},l[i]? = some x → (edgs l)[i * 2]? = some (.int .i64 x.l) ∧ (edgs l)[i * 2 + 1]? = some (.int .i64 x.r)
  | [],i,x,h=>by simp at h
  | a :: l,0,x,h=>by
    simp only [List.getElem?_cons_zero,Option.some.injEq] at h
    subst h; rw [edgs_cons]; exact ⟨rfl,rfl⟩
  | a :: l,i + 1,x,h=>by
    have ih:=edgs_get (l:=l) (i:=i) (x:=x) (by simpa using h)
    rw [edgs_cons,show (i + 1) * 2 = i * 2 + 1 + 1 by omega]
    exact ⟨ih.1,ih.2⟩
theorem readT_edg {l : List Edg} {m : Nat} {a : Edg} (h : l[m]? = some a) : readT 64 (edgs l) (m * 2) = some (.agg #[.int .i64 a.l,.int .i64 a.r]):=by
  obtain ⟨h1,h2⟩:=edgs_get h
  show (match takeC (edgs l) (m * 2) 2 with | some l=>some (Value.agg l.toArray) | none=>none) = _
  have : takeC (edgs l) (m * 2) 2 = some [.int .i64 a.l,.int .i64 a.r]:=by
    unfold takeC; rw [h1]
    unfold takeC; rw [h2]
    unfold takeC; rfl
  rw [this]
structure Gr.Right (g : Gr) : Prop where
  left : 1 ≤ g.left ∧ g.left ≤ 200
  right : 1 ≤ g.right ∧ g.right ≤ 200
  len : g.edges.length ≤ 1500
  edge : ∀ e ∈ g.edges,(1 ≤ e.l ∧ e.l ≤ g.left) ∧ (1 ≤ e.r ∧ e.r ≤ g.right)
def grV (g : Gr) (A : Option Addr) (c : Nat) : Value:=.agg #[.int .i64 g.left,.int .i64 g.right,.slice A g.edges.length c]
def grC (g : Gr) (A : Option Addr) (c : Nat) : List Value:=[.int .i64 g.left,.int .i64 g.right,.slice A g.edges.length c]
theorem mwithin_fn (v m : Int) : Fn 45 [.int .i64 v,.int .i64 m] [] [] fun u H'=>u = .bool (cdec (1 ≤ v ∧ v ≤ m)) ∧ H' = []:=by
  refine Fn_of Try.func45 rfl rfl fun w0=>?_
  (repeat' (first | refine J_seq ?_ | refine J_skip ?_ | refine J_yes rfl ?_ | refine J_no rfl ?_))
  refine J_region ?_
  refine JL_all [] rfl ?_
  (repeat' (first | refine J_seq ?_ | refine J_skip ?_ | refine J_yes rfl ?_ | refine J_no rfl ?_))
  refine J_region ?_
  refine JL_run [] rfl ?_
  by_cases h : 1 ≤ v
  · refine JL_set 7 (v':=.bool true) rfl (congrArg Value.bool (cdec_yes h)) ?_
    refine JL_all [2] rfl ?_
    exact J_ret ⟨_,rfl,congrArg Value.bool (cdec_iff ⟨fun k=>⟨h,k⟩,fun k=>k.2⟩),rfl⟩
  · refine JL_set 7 (v':=.bool false) rfl (congrArg Value.bool (cdec_no h)) ?_
    refine JL_all [2] rfl ?_
    exact J_ret ⟨_,rfl,congrArg Value.bool (cdec_no (fun k=>h k.1)).symm,rfl⟩
theorem gcheck_fn (g : Gr) (hg : g.Right) (A : Option Addr) (c b o : Nat) (hA : g.edges ≠ [] → A = some ⟨b,o,none⟩) : Fn 32 [grV g A c] [] [.seg b o (edgs g.edges)] fun v H'=>v = .int .i64 0 ∧ H' = []:=by
  have h1:=hg.left
  have h2:=hg.right
  have h3:=hg.len
  refine Fn_of Try.func32 rfl rfl fun w0=>?_
  (repeat' (first | refine J_seq ?_ | refine J_skip ?_ | refine J_yes rfl ?_ | refine J_no rfl ?_))
  refine J_region ?_
  refine JL_box (cs:=grC g A c) rfl rfl rfl (fun _=>rfl) fun p=>?_
  refine JL_all [] rfl ?_
  (repeat' (first | refine J_seq ?_ | refine J_skip ?_ | refine J_yes rfl ?_ | refine J_no rfl ?_))
  refine J_block ?_
  (repeat' (first | refine J_seq ?_ | refine J_skip ?_ | refine J_yes rfl ?_ | refine J_no rfl ?_))
  refine J_region ?_
  refine JL_run [] rfl ?_
  (first | refine JL_val [] (OpV_blk 0 rfl rfl rfl rfl) rfl ?_ | refine JL_val [] (OpV_blk 1 rfl rfl rfl rfl) rfl ?_ | refine JL_val [] (OpV_blk 2 rfl rfl rfl rfl) rfl ?_ | refine JL_val [] (OpV_blk 3 rfl rfl rfl rfl) rfl ?_ | refine JL_val [] (OpV_blk 4 rfl rfl rfl rfl) rfl ?_ | refine JL_val [] (OpV_blk 5 rfl rfl rfl rfl) rfl ?_ | refine JL_val [] (OpV_blk 6 rfl rfl rfl rfl) rfl ?_ | refine JL_val [] (OpV_blk 7 rfl rfl rfl rfl) rfl ?_)
  refine JL_callR [] (mwithin_fn g.left 200) rfl rfl rfl rfl (by kernel_rfl) trivial (fun _=>rfl) ?_
  rintro v H' ⟨rfl,rfl⟩
  refine ⟨rfl,?_⟩
  refine JL_run [] rfl ?_
  refine JL_set 10 (v':=.bool false) rfl (congrArg Value.bool (by rw [cdec_yes h1]; rfl)) ?_
  refine JL_run [4] rfl ?_
  (first | refine JL_val [4] (OpV_blk 0 rfl rfl rfl rfl) rfl ?_ | refine JL_val [4] (OpV_blk 1 rfl rfl rfl rfl) rfl ?_ | refine JL_val [4] (OpV_blk 2 rfl rfl rfl rfl) rfl ?_ | refine JL_val [4] (OpV_blk 3 rfl rfl rfl rfl) rfl ?_ | refine JL_val [4] (OpV_blk 4 rfl rfl rfl rfl) rfl ?_ | refine JL_val [4] (OpV_blk 5 rfl rfl rfl rfl) rfl ?_ | refine JL_val [4] (OpV_blk 6 rfl rfl rfl rfl) rfl ?_ | refine JL_val [4] (OpV_blk 7 rfl rfl rfl rfl) rfl ?_)
  refine JL_callR [4] (mwithin_fn g.right 200) rfl rfl rfl rfl (by kernel_rfl) trivial (fun _=>rfl) ?_
  rintro v H' ⟨rfl,rfl⟩
  refine ⟨rfl,?_⟩
  refine JL_run [4] rfl ?_
  refine JL_set 5 (v':=.bool false) rfl (congrArg Value.bool (by rw [cdec_yes h2]; rfl)) ?_
  refine JL_nil ?_
  refine J_no rfl ?_
  (repeat' (first | refine J_seq ?_ | refine J_skip ?_ | refine J_yes rfl ?_ | refine J_no rfl ?_))
  refine J_region ?_
  refine JL_run [] rfl ?_
  (first | refine JL_val [] (OpV_blk 0 rfl rfl rfl rfl) rfl ?_ | refine JL_val [] (OpV_blk 1 rfl rfl rfl rfl) rfl ?_ | refine JL_val [] (OpV_blk 2 rfl rfl rfl rfl) rfl ?_ | refine JL_val [] (OpV_blk 3 rfl rfl rfl rfl) rfl ?_ | refine JL_val [] (OpV_blk 4 rfl rfl rfl rfl) rfl ?_ | refine JL_val [] (OpV_blk 5 rfl rfl rfl rfl) rfl ?_ | refine JL_val [] (OpV_blk 6 rfl rfl rfl rfl) rfl ?_ | refine JL_val [] (OpV_blk 7 rfl rfl rfl rfl) rfl ?_)
  refine JL_all [] rfl ?_
  refine J_dec rfl (fun h=>absurd h (by omega)) (fun _=>J_skip ?_)
  (repeat' (first | refine J_seq ?_ | refine J_skip ?_ | refine J_yes rfl ?_ | refine J_no rfl ?_))
  refine J_region ?_
  refine JL_run [] rfl ?_
  (first | refine JL_val [] (OpV_blk 0 rfl rfl rfl rfl) rfl ?_ | refine JL_val [] (OpV_blk 1 rfl rfl rfl rfl) rfl ?_ | refine JL_val [] (OpV_blk 2 rfl rfl rfl rfl) rfl ?_ | refine JL_val [] (OpV_blk 3 rfl rfl rfl rfl) rfl ?_ | refine JL_val [] (OpV_blk 4 rfl rfl rfl rfl) rfl ?_ | refine JL_val [] (OpV_blk 5 rfl rfl rfl rfl) rfl ?_ | refine JL_val [] (OpV_blk 6 rfl rfl rfl rfl) rfl ?_ | refine JL_val [] (OpV_blk 7 rfl rfl rfl rfl) rfl ?_)
  refine JL_all [] rfl ?_
  refine J_block ?_
  refine J_loop (σ:=Nat) (fun k=>[(24,.int .i64 k),(23,.int .i64 g.edges.length),(22,.slice A g.edges.length c),(1,.pointer (some ⟨p,0,none⟩))])
    (fun _=>[blk p 44 (grC g A c),.seg b o (edgs g.edges)]) (fun k=>k ≤ g.edges.length) (fun k=>g.edges.length - k) 0 [0,1] ⟨rfl,rfl,rfl,rfl,trivial⟩ (by decide) rfl (Nat.zero_le _) ?_
  intro k hk
  (repeat' (first | refine J_seq ?_ | refine J_skip ?_ | refine J_yes rfl ?_ | refine J_no rfl ?_))
  refine J_region ?_
  refine JL_all [] rfl ?_
  refine J_seq (J_dec rfl (fun hlt=>J_skip ?_) (fun hge=>J_exit ?_))
  · have hlt : k < g.edges.length:=by omega
    obtain rfl:=hA (by intro h0; rw [h0] at hlt; simp at hlt)
    obtain ⟨e,he⟩ : ∃ e,g.edges[k]? = some e:=⟨g.edges[k],List.getElem?_eq_getElem hlt⟩
    have her:=hg.edge e (List.mem_of_getElem? he)
    refine J_seq (J_block ?_)
    (repeat' (first | refine J_seq ?_ | refine J_skip ?_ | refine J_yes rfl ?_ | refine J_no rfl ?_))
    refine J_region ?_
    refine JL_run [] rfl ?_
    refine JL_val [] (idxN rfl rfl rfl rfl rfl hlt) rfl ?_
    refine JL_val [] (ldseg 1 rfl rfl rfl rfl (readT_edg he)) rfl ?_
    refine JL_alloc rfl rfl rfl (fun _=>rfl) fun p4=>?_
    refine JL_run [] rfl ?_
    refine JL_store 0 rfl rfl rfl rfl rfl [] rfl ?_
    refine JL_nil ?_
    (repeat' (first | refine J_seq ?_ | refine J_skip ?_ | refine J_yes rfl ?_ | refine J_no rfl ?_))
    refine J_region ?_
    refine JL_run [] rfl ?_
    (first | refine JL_val [] (OpV_blk 0 rfl rfl rfl rfl) rfl ?_ | refine JL_val [] (OpV_blk 1 rfl rfl rfl rfl) rfl ?_ | refine JL_val [] (OpV_blk 2 rfl rfl rfl rfl) rfl ?_ | refine JL_val [] (OpV_blk 3 rfl rfl rfl rfl) rfl ?_ | refine JL_val [] (OpV_blk 4 rfl rfl rfl rfl) rfl ?_ | refine JL_val [] (OpV_blk 5 rfl rfl rfl rfl) rfl ?_ | refine JL_val [] (OpV_blk 6 rfl rfl rfl rfl) rfl ?_ | refine JL_val [] (OpV_blk 7 rfl rfl rfl rfl) rfl ?_)
    refine JL_run [] rfl ?_
    (first | refine JL_val [] (OpV_blk 0 rfl rfl rfl rfl) rfl ?_ | refine JL_val [] (OpV_blk 1 rfl rfl rfl rfl) rfl ?_ | refine JL_val [] (OpV_blk 2 rfl rfl rfl rfl) rfl ?_ | refine JL_val [] (OpV_blk 3 rfl rfl rfl rfl) rfl ?_ | refine JL_val [] (OpV_blk 4 rfl rfl rfl rfl) rfl ?_ | refine JL_val [] (OpV_blk 5 rfl rfl rfl rfl) rfl ?_ | refine JL_val [] (OpV_blk 6 rfl rfl rfl rfl) rfl ?_ | refine JL_val [] (OpV_blk 7 rfl rfl rfl rfl) rfl ?_)
    refine JL_callR [] (mwithin_fn e.l g.left) rfl rfl rfl rfl (by kernel_rfl) trivial (fun _=>rfl) ?_
    rintro v H' ⟨rfl,rfl⟩
    refine ⟨rfl,?_⟩
    refine JL_run [] rfl ?_
    refine JL_set 34 (v':=.bool false) rfl (congrArg Value.bool (by rw [cdec_yes her.1]; rfl)) ?_
    refine JL_run [6] rfl ?_
    (first | refine JL_val [6] (OpV_blk 0 rfl rfl rfl rfl) rfl ?_ | refine JL_val [6] (OpV_blk 1 rfl rfl rfl rfl) rfl ?_ | refine JL_val [6] (OpV_blk 2 rfl rfl rfl rfl) rfl ?_ | refine JL_val [6] (OpV_blk 3 rfl rfl rfl rfl) rfl ?_ | refine JL_val [6] (OpV_blk 4 rfl rfl rfl rfl) rfl ?_ | refine JL_val [6] (OpV_blk 5 rfl rfl rfl rfl) rfl ?_ | refine JL_val [6] (OpV_blk 6 rfl rfl rfl rfl) rfl ?_ | refine JL_val [6] (OpV_blk 7 rfl rfl rfl rfl) rfl ?_)
    refine JL_run [6] rfl ?_
    (first | refine JL_val [6] (OpV_blk 0 rfl rfl rfl rfl) rfl ?_ | refine JL_val [6] (OpV_blk 1 rfl rfl rfl rfl) rfl ?_ | refine JL_val [6] (OpV_blk 2 rfl rfl rfl rfl) rfl ?_ | refine JL_val [6] (OpV_blk 3 rfl rfl rfl rfl) rfl ?_ | refine JL_val [6] (OpV_blk 4 rfl rfl rfl rfl) rfl ?_ | refine JL_val [6] (OpV_blk 5 rfl rfl rfl rfl) rfl ?_ | refine JL_val [6] (OpV_blk 6 rfl rfl rfl rfl) rfl ?_ | refine JL_val [6] (OpV_blk 7 rfl rfl rfl rfl) rfl ?_)
    refine JL_callR [6] (mwithin_fn e.r g.right) rfl rfl rfl rfl (by kernel_rfl) trivial (fun _=>rfl) ?_
    rintro v H' ⟨rfl,rfl⟩
    refine ⟨rfl,?_⟩
    refine JL_run [6] rfl ?_
    refine JL_set 41 (v':=.bool false) rfl (congrArg Value.bool (by rw [cdec_yes her.2]; rfl)) ?_
    refine JL_nil ?_
    refine J_no rfl (J_skip ?_)
    (repeat' (first | refine J_seq ?_ | refine J_skip ?_ | refine J_yes rfl ?_ | refine J_no rfl ?_))
    refine J_region ?_
    refine JL_all [] rfl ?_
    refine ⟨k + 1,[1,2],⟨?_,rfl,rfl,rfl,trivial⟩,by decide,rfl,by omega,by omega⟩
    show some (Value.int .i64 (IntKind.i64.wrap ((k : Int) + 1))) = _
    rw [w64 (by omega)]; rfl
  · (repeat' (first | refine J_seq ?_ | refine J_skip ?_ | refine J_yes rfl ?_ | refine J_no rfl ?_))
    refine J_region ?_
    refine JL_all [] rfl ?_
    exact J_drop [] (by decide) rfl (J_ret ⟨_,rfl,rfl,rfl⟩)
def gnet (g : Gr) : Net:=⟨2 + g.left + g.right,1,2,((List.range g.left.toNat).map fun (i : Nat)=>(⟨1,3 + i,1⟩ : Arc)) ++ (g.edges.map fun e=>(⟨2 + e.l,2 + g.left + e.r,1⟩ : Arc)) ++ ((List.range g.right.toNat).map fun (i : Nat)=>(⟨3 + g.left + i,2,1⟩ : Arc))⟩
theorem sum_ones {α : Type} (f : α → Arc) (h : ∀ x,(f x).cap = 1) : ∀ l : List α,((l.map f).map (·.cap)).sum = l.length
  | []=>rfl
  | x :: l=>by simp only [List.map_cons,List.sum_cons,sum_ones f h l,h,List.length_cons]; omega
theorem gnet_len (g : Gr) : (gnet g).arcs.length = g.left.toNat + g.edges.length + g.right.toNat:=by simp [gnet]; omega
theorem gnet_cap {g : Gr} : ∀ a ∈ (gnet g).arcs,a.cap = 1:=by
  intro a ha
  rcases List.mem_append.1 ha with ha | ha
  · rcases List.mem_append.1 ha with ha | ha
    · obtain ⟨i,_,rfl⟩:=List.mem_map.1 ha; rfl
    · obtain ⟨e,_,rfl⟩:=List.mem_map.1 ha; rfl
  · obtain ⟨i,_,rfl⟩:=List.mem_map.1 ha; rfl
theorem gnet_right {g : Gr} (hg : g.Right) : (gnet g).Right:=by
  have h1:=hg.left
  have h2:=hg.right
  have h3:=hg.len
  have hl:=gnet_len g
  refine ⟨by show 2 ≤ 2 + g.left + g.right ∧ 2 + g.left + g.right ≤ 500; omega,by show 1 ≤ 1 ∧ 1 ≤ 2 + g.left + g.right; omega,by show 1 ≤ 2 ∧ 2 ≤ 2 + g.left + g.right; omega,by show (1 : Int) ≠ 2; decide,by omega,fun a ha=>?_,?_⟩
  · show (1 ≤ a.fr ∧ a.fr ≤ 2 + g.left + g.right) ∧ (1 ≤ a.to ∧ a.to ≤ 2 + g.left + g.right) ∧ 0 ≤ a.cap
    rcases List.mem_append.1 ha with ha | ha
    · rcases List.mem_append.1 ha with ha | ha
      · obtain ⟨i,hi,rfl⟩:=List.mem_map.1 ha
        have:=List.mem_range.1 hi
        simp only; omega
      · obtain ⟨e,he,rfl⟩:=List.mem_map.1 ha
        have:=hg.edge e he
        simp only; omega
    · obtain ⟨i,hi,rfl⟩:=List.mem_map.1 ha
      have:=List.mem_range.1 hi
      simp only; omega
  · have : ((gnet g).arcs.map (·.cap)).sum = (gnet g).arcs.length := by
      show ((_ ++ _ ++ _ : List Arc).map (·.cap)).sum = _
      rw [List.map_append,List.map_append,List.sum_append,List.sum_append,sum_ones _ (fun _=>rfl),sum_ones _ (fun _=>rfl),sum_ones _ (fun _=>rfl),gnet_len]
      simp
    rw [this]; omega
end Go.Proofs.Ytdhenmmmkdhonaa
