/- The engine and the words that all chapters share: several texts in one. -/
import Derived.Test.YtdhenmmmkdhonaaQX6
import Derived.Test.YtdhenmmmkdhonaaMatchG
import Derived.Test.YtdhenmmmkdhonaaMatchP
import Derived.Test.YtdhenmmmkdhonaaCovQ
import Derived.Test.YtdhenmmmkdhonaaQB

/- Chapter 17's graphs of raw numbers. -/
set_option linter.unusedVariables false
set_option linter.unusedSimpArgs false
namespace Go.Proofs.Ytdhenmmmkdhonaa
open Go.RowKit
set_option maxHeartbeats 1000000 in
theorem drawn17_fn (sides : Int) (hs : inB sides) (A : Option Addr) (c b o : Nat) (l : List Int) (hA : l ≠ [] → A = some ⟨b, o, none⟩) (hl : ∀ x ∈ l, inB x) (hsz : l.length ≤ 9223372036854775807) :
    Fn 15 [.int .i64 sides,.slice A l.length c] [] [.seg b o (ints l)] fun v H'=>∃ (g : Gr) (A' : Option Addr) (c' : Nat),g.Right ∧ g.left ≤ 7 ∧ g.right ≤ 7 ∧ g.edges.length ≤ 24 ∧ v = grV g A' c' ∧ H' = [.own (.slice A' g.edges.length c') 64 2 g.edges.length (edgs g.edges)]:=by
  refine Fn_ofC Try.func15 rfl rfl fun w0=>?_
  have hs7 : inB (sides.tdiv 7):=by unfold inB at *; have:=tmod_cases sides (m:=7) (by decide); omega
  have b1:=pickZ_in (c:=sides) (n:=7) (by decide)
  have b2:=pickZ_in (c:=sides.tdiv 7) (n:=7) (by decide)
  obtain ⟨nl,hnl⟩ : ∃ x,x = 1 + pickZ sides 7:=⟨_,rfl⟩
  obtain ⟨nr,hnr⟩ : ∃ x,x = 1 + pickZ (sides.tdiv 7) 7:=⟨_,rfl⟩
  (repeat' (first | refine J_seq ?_ | refine J_skip ?_ | refine J_yes rfl ?_ | refine J_no rfl ?_))
  refine J_region ?_
  refine JL_alloc rfl rfl rfl (fun _=>rfl) fun b4=>?_
  refine JL_nil ?_
  (repeat' (first | refine J_seq ?_ | refine J_skip ?_ | refine J_yes rfl ?_ | refine J_no rfl ?_))
  refine J_region ?_
  refine JL_run [] rfl ?_
  refine JL_callR [] (pick17_fn hs (by decide)) rfl rfl rfl rfl (by kernel_rfl) trivial (fun _=>rfl) ?_
  rintro v H' ⟨rfl,rfl⟩
  refine ⟨rfl,?_⟩
  refine JL_run [] rfl ?_
  refine JL_set 9 (v':=.int .i64 nl) rfl (congrArg (Value.int .i64) ((w64 (by omega)).trans hnl.symm)) ?_
  refine JL_set 11 (v':=.int .i64 (sides.tdiv 7)) rfl (congrArg (Value.int .i64) (w64 hs7)) ?_
  refine JL_callR [] (pick17_fn hs7 (by decide)) rfl rfl rfl rfl (by kernel_rfl) trivial (fun _=>rfl) ?_
  rintro v H' ⟨rfl,rfl⟩
  refine ⟨rfl,?_⟩
  refine JL_run [] rfl ?_
  refine JL_set 13 (v':=.int .i64 nr) rfl (congrArg (Value.int .i64) ((w64 (by omega)).trans hnr.symm)) ?_
  refine JL_val [] (OpV_build rfl rfl rfl rfl rfl rfl) rfl ?_
  refine JL_alloc rfl rfl rfl (fun _=>rfl) fun b5=>?_
  refine JL_store 0 rfl rfl rfl rfl rfl [] rfl ?_
  refine JL_nil ?_
  (repeat' (first | refine J_seq ?_ | refine J_skip ?_ | refine J_yes rfl ?_ | refine J_no rfl ?_))
  refine J_region ?_
  refine JL_all [] rfl ?_
  (repeat' (first | refine J_seq ?_ | refine J_skip ?_ | refine J_yes rfl ?_ | refine J_no rfl ?_))
  refine J_block ?_
  refine J_addnil 64 2 ?_
  refine J_loop (σ:=Nat × Option Addr × Nat × List Edg) (fun s=>[(6,.int .i64 s.1),(5,.pointer (some ⟨b5,0,none⟩)),(1,.slice A l.length c),(4,.pointer (some ⟨b4,0,none⟩))])
    (fun s=>[.own (.slice s.2.1 s.2.2.2.length s.2.2.1) 64 2 s.2.2.2.length (edgs s.2.2.2),blk b5 44 [.int .i64 nl,.int .i64 nr,.slice s.2.1 s.2.2.2.length s.2.2.1],blk b4 44 [.int .i64 0,.int .i64 0,.slice none 0 0],.seg b o (ints l)])
    (fun s=>s.1 ≤ l.length ∧ s.1 ≤ 24 ∧ s.2.2.2.length = s.1 ∧ ∀ a ∈ s.2.2.2,(1 ≤ a.l ∧ a.l ≤ nl) ∧ (1 ≤ a.r ∧ a.r ≤ nr)) (fun s=>l.length - s.1)
    (0,none,0,[]) [0,1,2,3] ⟨rfl,rfl,rfl,rfl,trivial⟩ (by decide) rfl ⟨Nat.zero_le _,Nat.zero_le _,rfl,fun a ha=>by cases ha⟩ ?_
  rintro ⟨k,A1,c1,r⟩ ⟨hk,hk24,hrk,hr⟩
  simp only at hk hk24 hrk hr ⊢
  refine J_seq ?_
  refine J_cut [(22,.bool (cdec (k < l.length ∧ k < 24))),(6,.int .i64 k),(5,.pointer (some ⟨b5,0,none⟩)),(1,.slice A l.length c),(4,.pointer (some ⟨b4,0,none⟩))]
    [.own (.slice A1 r.length c1) 64 2 r.length (edgs r),blk b5 44 [.int .i64 nl,.int .i64 nr,.slice A1 r.length c1],blk b4 44 [.int .i64 0,.int .i64 0,.slice none 0 0],.seg b o (ints l)] ?_ ?_
  · (repeat' (first | refine J_seq ?_ | refine J_skip ?_ | refine J_yes rfl ?_ | refine J_no rfl ?_))
    refine J_region ?_
    refine JL_run [] rfl ?_
    by_cases h1 : k < l.length
    · refine JL_set 19 (v':=.bool true) rfl (congrArg Value.bool (cdec_yes (by omega))) ?_
      refine JL_all [4] rfl ?_
      refine ⟨[0,1,2,3],⟨?_,rfl,rfl,rfl,rfl,trivial⟩,by decide,rfl⟩
      exact congrArg some (congrArg Value.bool (cdec_iff (by omega)))
    · refine JL_set 19 (v':=.bool false) rfl (congrArg Value.bool (cdec_no (by omega))) ?_
      refine JL_all [4] rfl ?_
      refine ⟨[0,1,2,3],⟨?_,rfl,rfl,rfl,rfl,trivial⟩,by decide,rfl⟩
      exact congrArg some (congrArg Value.bool (cdec_no (by omega)).symm)
  refine J_dec rfl (fun hlt=>J_skip ?_) (fun hge=>J_exit ?_)
  · obtain ⟨hlt,hlt24⟩:=hlt
    obtain rfl:=hA (by rintro rfl; simp at hlt)
    obtain ⟨x,hx⟩ : ∃ x,l[k]? = some x:=⟨l[k],List.getElem?_eq_getElem hlt⟩
    have hB:=hl _ (List.mem_of_getElem? hx)
    have hB7 : inB (x.tdiv 7):=by unfold inB at *; have:=tmod_cases x (m:=7) (by decide); omega
    have f1:=pickZ_in (c:=x) (n:=nl) (by omega)
    have f2:=pickZ_in (c:=x.tdiv 7) (n:=nr) (by omega)
    refine J_seq (J_block ?_)
    (repeat' (first | refine J_seq ?_ | refine J_skip ?_ | refine J_yes rfl ?_ | refine J_no rfl ?_))
    refine J_walk 22 [(0,true),(1,true),(2,true),(3,true),(4,true),(5,true),(6,true),(7,true),(10,true),(11,true),(12,true),(13,true),(14,true),(15,true),(16,true),(8,false),(9,true),(17,false),(18,true),(19,true),(20,false),(21,false)] [1,3] (by kernel_rfl) (by decide) rfl ?_
    refine JW_run [] rfl ?_
    refine JW_still [] rfl (OpV_blk 0 rfl rfl rfl rfl) rfl ?_
    refine JW_run [] rfl ?_
    refine JW_still [] rfl (idx1 rfl rfl rfl rfl rfl hlt) rfl ?_
    refine JW_still [] rfl (ldseg 1 rfl rfl rfl rfl (readT_int' hx)) rfl ?_
    refine JW_run [] rfl ?_
    refine JW_still [] rfl (OpV_blk 0 rfl rfl rfl rfl) rfl ?_
    refine JW_run [] rfl ?_
    refine JW_still [] rfl (idx1 rfl rfl rfl rfl rfl hlt) rfl ?_
    refine JW_still [] rfl (ldseg 1 rfl rfl rfl rfl (readT_int' hx)) rfl ?_
    refine JW_run [] rfl ?_
    refine JW_set 39 (v':=.int .i64 (x.tdiv 7)) rfl (congrArg (Value.int .i64) (w64 hB7)) ?_
    refine JW_still [] rfl (OpV_blk 0 rfl rfl rfl rfl) rfl ?_
    refine JW_eff rfl ?_
    refine JL_callR [] (pick17_fn hB (by omega : 0 < nl)) rfl rfl rfl rfl (by kernel_rfl) trivial (fun _=>rfl) ?_
    rintro v H' ⟨rfl,rfl⟩
    refine ⟨rfl,JL_nil ⟨⟨[1,3],by decide,rfl⟩,?_⟩⟩
    refine JW_run [] rfl ?_
    refine JW_set 34 (v':=.int .i64 (1 + pickZ x nl)) rfl (congrArg (Value.int .i64) (w64 (by omega))) ?_
    refine JW_eff rfl ?_
    refine JL_callR [] (pick17_fn hB7 (by omega : 0 < nr)) rfl rfl rfl rfl (by kernel_rfl) trivial (fun _=>rfl) ?_
    rintro v H' ⟨rfl,rfl⟩
    refine ⟨rfl,JL_nil ⟨⟨[1,3],by decide,rfl⟩,?_⟩⟩
    refine JW_run [] rfl ?_
    refine JW_set 43 (v':=.int .i64 (1 + pickZ (x.tdiv 7) nr)) rfl (congrArg (Value.int .i64) (w64 (by omega))) ?_
    refine JW_still [] rfl (OpV_build rfl rfl rfl rfl rfl rfl) rfl ?_
    refine JW_eff rfl ?_
    refine JL_lit rfl rfl rfl rfl rfl rfl rfl (fun _=>rfl) fun g=>?_
    refine JL_nil ⟨⟨[2,4],by decide,rfl⟩,?_⟩
    refine JW_eff rfl ?_
    refine JL_appendS (off:=0) (m:=1) (news:=edgs [⟨1 + pickZ x nl,1 + pickZ (x.tdiv 7) nr⟩]) 1 0 rfl rfl rfl rfl rfl rfl (by decide) rfl rfl (shows_blk g _ _ (0,0)) (fun _=>rfl) rfl rfl (by omega) (by omega) (fun _ _=>rfl) fun A2 c2=>?_
    refine JL_nil ⟨⟨[2,4],by decide,rfl⟩,?_⟩
    refine JW_nil ?_
    refine JL_run [] rfl ?_
    refine JL_store 2 rfl rfl rfl rfl rfl [] rfl ?_
    refine JL_nil ?_
    (repeat' (first | refine J_seq ?_ | refine J_skip ?_ | refine J_yes rfl ?_ | refine J_no rfl ?_))
    refine J_region ?_
    refine JL_all [] rfl ?_
    refine ⟨(k + 1,A2,c2,r ++ [⟨1 + pickZ x nl,1 + pickZ (x.tdiv 7) nr⟩]),[1,2,3,4],⟨?_,rfl,rfl,rfl,trivial⟩,by decide,?_,⟨by simp only; omega,by simp only; omega,by simp only [List.length_append]; simp; omega,?_⟩,by simp only; omega⟩
    · show some (Value.int .i64 (IntKind.i64.wrap ((k : Int) + 1))) = _
      rw [w64 (by omega)]; rfl
    · simp only [edgs_app,List.length_append]; rfl
    · intro a ha
      rcases List.mem_append.1 ha with ha | ha
      · exact hr a ha
      · obtain rfl:=List.mem_singleton.1 ha
        simp only; omega
  · (repeat' (first | refine J_seq ?_ | refine J_skip ?_ | refine J_yes rfl ?_ | refine J_no rfl ?_))
    refine J_region ?_
    refine JL_val [] (OpV_blk 1 rfl rfl rfl rfl) rfl ?_
    refine JL_store 2 rfl rfl rfl rfl rfl [] rfl ?_
    refine JL_nil ?_
    refine J_ret ?_
    exact ⟨[grV ⟨nl,nr,r⟩ A1 c1],[0],_,⟨⟨b4,2,_,_,rfl,rfl,rfl⟩,trivial⟩,by decide,rfl,⟨nl,nr,r⟩,A1,c1,⟨by simp only; omega,by simp only; omega,by simp only; omega,hr⟩,by simp only; omega,by simp only; omega,by simp only; omega,rfl,rfl⟩
end Go.Proofs.Ytdhenmmmkdhonaa


/- Chapter 16's example. -/
set_option linter.unusedVariables false
set_option linter.unusedSimpArgs false
namespace Go.Proofs.Ytdhenmmmkdhonaa
def ex16 : Gr:=⟨2,2,[⟨1,1⟩,⟨1,2⟩,⟨2,1⟩]⟩
theorem ex16_right : ex16.Right:=⟨by decide,by decide,by decide,fun e he=>(by
  simp only [ex16,List.mem_cons,List.not_mem_nil,or_false] at he
  rcases he with rfl | rfl | rfl <;> decide)⟩
theorem ex16_match : IsMatch ex16 [1,2]:=by
  refine ⟨by decide,fun x hx=>?_,?_⟩
  · simp only [List.mem_cons,List.not_mem_nil,or_false] at hx
    rcases hx with rfl | rfl <;> decide
  · rw [List.pairwise_cons]
    refine ⟨fun y hy a b ha hb=>?_,List.pairwise_singleton _ _⟩
    rw [List.mem_singleton.1 hy] at hb
    have e1 : (⟨1,2⟩ : Edg) = a:=Option.some.inj ha
    have e2 : (⟨2,1⟩ : Edg) = b:=Option.some.inj hb
    rw [← e1,← e2]
    decide
end Go.Proofs.Ytdhenmmmkdhonaa


/- Chapter 17's example. -/
set_option linter.unusedVariables false
set_option linter.unusedSimpArgs false
namespace Go.Proofs.Ytdhenmmmkdhonaa
open Go.RowKit
theorem ex16_alt : ∀ v,¬ AltL ex16 [1,2] v:=by
  intro v h
  induction h with
  | free v h1 h2 hno =>
    have h2' : (v : Int) ≤ 2:=h2
    have hv : v = 1 ∨ v = 2:=by omega
    rcases hv with rfl | rfl
    · exact hno ⟨1,by decide,⟨1,2⟩,rfl,rfl⟩
    · exact hno ⟨2,by decide,⟨2,1⟩,rfl,rfl⟩
  | step e a x _ _ _ _ _ ih=>exact ih
theorem shown17_fn : Fn 14 [] [] [] fun v H'=>v = .bool true ∧ H' = []:=by
  refine Fn_of Try.func14 rfl rfl fun w0=>?_
  (repeat' (first | refine J_seq ?_ | refine J_skip ?_ | refine J_yes rfl ?_ | refine J_no rfl ?_))
  refine J_region ?_
  refine JL_all [] rfl ?_
  (repeat' (first | refine J_seq ?_ | refine J_skip ?_ | refine J_yes rfl ?_ | refine J_no rfl ?_))
  refine J_region ?_
  refine JL_val [] (OpV_build rfl rfl rfl rfl rfl rfl) rfl ?_
  refine JL_val [] (OpV_build rfl rfl rfl rfl rfl rfl) rfl ?_
  refine JL_val [] (OpV_build rfl rfl rfl rfl rfl rfl) rfl ?_
  refine JL_lit rfl rfl rfl rfl rfl rfl rfl (fun _=>rfl) fun g=>?_
  refine JL_val [] (OpV_build rfl rfl rfl rfl rfl rfl) rfl ?_
  refine JL_lit rfl rfl rfl rfl rfl rfl rfl (fun _=>rfl) fun g2=>?_
  refine JL_callR [] (cof_fn ex16 ex16_right (some ⟨g,0,none⟩) 3 g 0 (fun _=>rfl) [1,2] (by decide) (fun x hx=>by simp at hx; unfold inB; omega) (some ⟨g2,0,none⟩) 2 g2 0 (fun _=>rfl)) rfl rfl rfl rfl (by kernel_rfl) ⟨⟨1,_,by simp,rfl,shows_blk _ _ _ (0,0),.inr rfl⟩,⟨0,_,by simp,rfl,shows_blk _ _ _ (0,0),.inr rfl⟩,trivial⟩ (fun _=>rfl) ?_
  rintro v H' (⟨_,_,sl,sr,Al,Ar,cl,cr,hsl,hsr,hl,hr,rfl,rfl⟩ | ⟨_,⟨w,⟨e,_,ha,_⟩,_⟩,_,_⟩ | ⟨hM,_,_⟩)
  rotate_left
  · exact absurd ha (ex16_alt _)
  · exact absurd ex16_match hM
  refine ⟨rfl,?_⟩
  have h1 : sl = [1,2]:=rise_eq hsl.rise (by decide) fun x=>by
    constructor
    · intro hx
      have h5 : 1 ≤ x ∧ x ≤ 2:=hsl.rng x hx
      have : x = 1 ∨ x = 2:=by omega
      simpa using this
    · intro hx
      have hx' : x = 1 ∨ x = 2:=by simpa using hx
      rcases hx' with rfl | rfl
      · exact (hl 1 (by decide) (by decide)).2 (ex16_alt _)
      · exact (hl 2 (by decide) (by decide)).2 (ex16_alt _)
  have h2 : sr = []:=rise_eq hsr.rise (by decide) fun x=>by
    constructor
    · intro hx
      have h5 : 1 ≤ x ∧ x ≤ 2:=hsr.rng x hx
      obtain ⟨e,_,ha,_⟩:=(hr x.toNat (by omega) (by show ((x.toNat : Nat) : Int) ≤ 2; omega)).1 (by rw [show ((x.toNat : Nat) : Int) = x by omega]; exact hx)
      exact absurd ha (ex16_alt _)
    · intro hx; cases hx
  subst h1 h2
  refine JL_know (own_is 1 rfl) fun ⟨_,_,hA,hl1⟩=>?_
  obtain ⟨g3,hA⟩:=own_at hA hl1
  refine JL_run [] rfl ?_
  refine JL_alloc rfl rfl rfl (fun _=>rfl) fun p1=>?_
  refine JL_store 0 rfl rfl rfl rfl rfl [] rfl ?_
  refine JL_all [] rfl ?_
  (repeat' (first | refine J_seq ?_ | refine J_skip ?_ | refine J_yes rfl ?_ | refine J_no rfl ?_))
  refine J_region ?_
  refine JL_run [] rfl ?_
  refine JL_set 15 (v':=.bool true) rfl (congrArg Value.bool (cdec_yes rfl)) ?_
  refine JL_run [2] rfl ?_
  (first | refine JL_val [2] (OpV_blk 0 rfl rfl rfl rfl) rfl ?_ | refine JL_val [2] (OpV_blk 1 rfl rfl rfl rfl) rfl ?_ | refine JL_val [2] (OpV_blk 2 rfl rfl rfl rfl) rfl ?_ | refine JL_val [2] (OpV_blk 3 rfl rfl rfl rfl) rfl ?_ | refine JL_val [2] (OpV_blk 4 rfl rfl rfl rfl) rfl ?_ | refine JL_val [2] (OpV_blk 5 rfl rfl rfl rfl) rfl ?_ | refine JL_val [2] (OpV_blk 6 rfl rfl rfl rfl) rfl ?_ | refine JL_val [2] (OpV_blk 7 rfl rfl rfl rfl) rfl ?_)
  refine JL_litG [2] rfl rfl rfl rfl rfl rfl rfl (fun _=>rfl) fun g4=>?_
  refine JL_callR [2] (same17_fn Al cl g3 0 [1,2] (fun _=>hA (by decide)) (by decide) (some ⟨g4,0,none⟩) 2 g4 0 [1,2] (fun _=>rfl)) rfl rfl rfl rfl (by kernel_rfl) ⟨⟨3,_,by simp,rfl,shows_ownS hA,seen_ownS hA⟩,⟨0,_,by simp,rfl,shows_blk _ _ _ (0,0),.inr rfl⟩,trivial⟩ (fun _=>rfl) ?_
  rintro v H' ⟨rfl,rfl⟩
  refine ⟨rfl,?_⟩
  refine JL_set 19 (v':=.bool true) rfl (congrArg Value.bool (cdec_yes rfl)) ?_
  refine JL_run [2] rfl ?_
  refine JL_run [8] rfl ?_
  (first | refine JL_val [8] (OpV_blk 0 rfl rfl rfl rfl) rfl ?_ | refine JL_val [8] (OpV_blk 1 rfl rfl rfl rfl) rfl ?_ | refine JL_val [8] (OpV_blk 2 rfl rfl rfl rfl) rfl ?_ | refine JL_val [8] (OpV_blk 3 rfl rfl rfl rfl) rfl ?_ | refine JL_val [8] (OpV_blk 4 rfl rfl rfl rfl) rfl ?_ | refine JL_val [8] (OpV_blk 5 rfl rfl rfl rfl) rfl ?_ | refine JL_val [8] (OpV_blk 6 rfl rfl rfl rfl) rfl ?_ | refine JL_val [8] (OpV_blk 7 rfl rfl rfl rfl) rfl ?_)
  refine JL_all [8] rfl ?_
  refine J_drop [] (by decide) rfl (J_ret ⟨_,rfl,congrArg Value.bool (cdec_yes rfl),rfl⟩)
end Go.Proofs.Ytdhenmmmkdhonaa

/- From a function's promise to a law's row. -/
set_option linter.unusedVariables false
set_option linter.unusedSimpArgs false
namespace Go.Proofs.Ytdhenmmmkdhonaa
open Go.RowKit
def SegsIn (w : World) : Heap → Prop
  | []=>True
  | .seg b o vs :: S=>(Chunk.seg b o vs).holds w ∧ SegsIn w S
  | _=>False
theorem SegsIn.spec {w : World} : ∀ {S : Heap},SegsIn w S → ∀ c ∈ S,c.holds w ∧ c.mine = none
  | [],_,c,hc=>by cases hc
  | .seg b o vs :: S,h,c,hc=>by
    rcases List.mem_cons.1 hc with rfl | hc
    · exact ⟨h.1,rfl⟩
    · exact SegsIn.spec h.2 c hc
  | .obj .. :: _,h,_,_=>h.elim
  | .own .. :: _,h,_,_=>h.elim
theorem SegsIn.has {w : World} {S : Heap} (h : SegsIn w S) : Has w [] w S:=by
  refine ⟨rfl,rfl,rfl,Nat.le_refl _,fun _ _ _=>rfl,fun c hc=>(h.spec c hc).1,fun c hc b hb=>(by rw [(h.spec c hc).2] at hb; simp at hb),?_⟩
  rw [List.pairwise_iff_getElem]
  intro i j hi hj _
  have h1:=(h.spec _ (List.getElem_mem hi)).2
  have h2:=(h.spec _ (List.getElem_mem hj)).2
  exact ⟨fun b hb=>by rw [h1] at hb; simp at hb,fun b hb=>by rw [h2] at hb; simp at hb⟩
theorem Fn.row {f : FuncId} {args : List Value} {S : Heap} (h : Fn f args [] S (fun v _ => v = .bool true)) (w : World) (hS : SegsIn w S) :
    Calls Try.prog f args.toArray w fun e w'=>e = .returned (.bool true) ∧ Below w.heap.size w w':=by
  refine (h w hS.has).mono ?_
  rintro e w' ⟨v,H',he,hH,hv⟩
  rw [he,hv]
  exact ⟨rfl,⟨hH.os,hH.tape,hH.output,hH.size,fun k hk=>hH.keep k hk (by simp)⟩⟩
theorem inB_of {n : Int} (h : (Lit.int .i64 n).wf = true) : inB n:=by
  simp [Lit.wf,IntKind.min,IntKind.max,IntKind.signed,IntKind.bits] at h
  exact h
end Go.Proofs.Ytdhenmmmkdhonaa
