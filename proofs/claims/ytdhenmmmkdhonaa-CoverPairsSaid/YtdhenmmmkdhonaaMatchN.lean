
/- The network of a graph, step by step. -/
import Derived.Test.YtdhenmmmkdhonaaMatchG
set_option linter.unusedVariables false
set_option linter.unusedSimpArgs false
namespace Go.Proofs.Ytdhenmmmkdhonaa
open Go.RowKit
theorem lay_fn (p5 : Nat) (x y z : Int) (l : List Arc) (Ar : Option Addr) (cr : Nat) (hl : l.length ≤ 3000) (fr to_ : Int) :
    Fn 36 [.int .i64 fr,.int .i64 to_,.pointer (some ⟨p5,0,none⟩)] (mines [blk p5 24 [.int .i64 x,.int .i64 y,.int .i64 z,.slice Ar l.length cr],.own (.slice Ar l.length cr) 39 3 l.length (arcs l)])
      ([] ++ [blk p5 24 [.int .i64 x,.int .i64 y,.int .i64 z,.slice Ar l.length cr],.own (.slice Ar l.length cr) 39 3 l.length (arcs l)]) fun _ H'=>∃ (A' : Option Addr) (c' : Nat),
        H' = [blk p5 24 [.int .i64 x,.int .i64 y,.int .i64 z,.slice A' (l ++ [Arc.mk fr to_ 1]).length c'],.own (.slice A' (l ++ [Arc.mk fr to_ 1]).length c') 39 3 (l ++ [Arc.mk fr to_ 1]).length (arcs (l ++ [Arc.mk fr to_ 1]))]:=by
  generalize hM : mines _ = M
  refine Fn_of Try.func36 rfl rfl fun w0=>?_
  (repeat' (first | refine J_seq ?_ | refine J_skip ?_ | refine J_yes rfl ?_ | refine J_no rfl ?_))
  refine J_region ?_
  refine JL_run [] rfl ?_
  refine JL_val [] (OpV_blk (v:=.slice Ar l.length cr) 0 rfl rfl rfl rfl) rfl ?_
  refine JL_run [] rfl ?_
  refine JL_val [] (OpV_build rfl rfl rfl rfl rfl rfl) rfl ?_
  refine JL_lit rfl rfl rfl rfl rfl rfl rfl (fun _=>rfl) fun g=>?_
  refine JL_appendS (n:=l.length) (m:=1) (off:=0) (news:=arcs [Arc.mk fr to_ 1]) 2 0 rfl rfl rfl rfl rfl rfl (by decide) rfl rfl (shows_blk g _ _ (0,0)) (fun _=>rfl) rfl rfl (by omega) (by omega) (fun _ _=>rfl) fun A2 c2=>?_
  refine JL_run [] rfl ?_
  refine JL_store 1 rfl rfl rfl rfl rfl [] rfl ?_
  refine JL_fit (Fit.picks [1,2] (by decide) rfl) ?_
  refine JL_nil ?_
  rw [← arcs_app,show l.length + 1 = (l ++ [Arc.mk fr to_ 1]).length by simp]
  exact ⟨_,rfl,A2,c2,rfl⟩
set_option maxHeartbeats 1000000 in
theorem gnet_fn (g : Gr) (hg : g.Right) (A : Option Addr) (c b o : Nat) (hA : g.edges ≠ [] → A = some ⟨b, o, none⟩) : Fn 18 [grV g A c] [] [.seg b o (edgs g.edges)] fun v H' => ∃ (A' : Option Addr) (c' : Nat), v = .tuple #[netV (gnet g) A' c', .int .i64 0] ∧
    H' = [.own (.slice A' (gnet g).arcs.length c') 39 3 (gnet g).arcs.length (arcs (gnet g).arcs)]:=by
  have h1:=hg.left
  have h2:=hg.right
  have h3:=hg.len
  obtain ⟨nl,hnl⟩ : ∃ n : Nat,g.left = n:=⟨g.left.toNat,by omega⟩
  obtain ⟨nr,hnr⟩ : ∃ n : Nat,g.right = n:=⟨g.right.toNat,by omega⟩
  obtain ⟨L1,hL1⟩ : ∃ L1 : Nat → List Arc,L1 = fun k=>(List.range k).map fun (i : Nat)=>Arc.mk 1 (3 + i) 1:=⟨_,rfl⟩
  obtain ⟨L2,hL2⟩ : ∃ L2 : Nat → List Arc,L2 = fun k=>L1 nl ++ (g.edges.take k).map fun e=>Arc.mk (2 + e.l) (2 + g.left + e.r) 1:=⟨_,rfl⟩
  obtain ⟨L3,hL3⟩ : ∃ L3 : Nat → List Arc,L3 = fun k=>L2 g.edges.length ++ (List.range k).map fun (i : Nat)=>Arc.mk (3 + g.left + i) 2 1:=⟨_,rfl⟩
  have l1 : ∀ k,(L1 k).length = k:=fun k=>by rw [hL1]; simp
  have l2 : ∀ k,k ≤ g.edges.length → (L2 k).length = nl + k:=fun k hk=>by rw [hL2]; simp only [List.length_append,l1,List.length_map,List.length_take]; omega
  have l3 : ∀ k,(L3 k).length = nl + g.edges.length + k:=fun k=>by rw [hL3]; simp only [List.length_append,l2 _ (Nat.le_refl _),List.length_map,List.length_range]
  have s1 : ∀ k,L1 (k + 1) = L1 k ++ [Arc.mk 1 (3 + k) 1]:=fun k=>by rw [hL1]; simp [List.range_succ]
  have s2 : ∀ k e,g.edges[k]? = some e → L2 (k + 1) = L2 k ++ [Arc.mk (2 + e.l) (2 + g.left + e.r) 1]:=fun k e he=>by rw [hL2]; simp only [List.take_add_one,he,List.map_append,List.append_assoc]; rfl
  have s3 : ∀ k,L3 (k + 1) = L3 k ++ [Arc.mk (3 + g.left + k) 2 1]:=fun k=>by rw [hL3]; simp [List.range_succ]
  have hfin : L3 nr = (gnet g).arcs:=by
    rw [hL3,hL2,hL1]
    show _ = ((List.range g.left.toNat).map _ ++ g.edges.map _) ++ (List.range g.right.toNat).map _
    rw [hnl,hnr,Int.toNat_natCast,Int.toNat_natCast]
    simp only [List.take_length]
  refine Fn_ofC Try.func18 rfl rfl fun w0=>?_
  (repeat' (first | refine J_seq ?_ | refine J_skip ?_ | refine J_yes rfl ?_ | refine J_no rfl ?_))
  refine J_region ?_
  refine JL_box (cs:=grC g A c) rfl rfl rfl (fun _=>rfl) fun p1=>?_
  refine JL_alloc rfl rfl rfl (fun _=>rfl) fun p2=>?_
  refine JL_all [] rfl ?_
  (repeat' (first | refine J_seq ?_ | refine J_skip ?_ | refine J_yes rfl ?_ | refine J_no rfl ?_))
  refine J_region ?_
  refine JL_val [] (v:=grV g A c) (OpV_blk 1 rfl rfl rfl rfl) rfl ?_
  refine JL_callR [] (gcheck_fn g hg A c b o hA) rfl rfl rfl rfl (by kernel_rfl) ⟨⟨2,_,by simp,rfl,shows_seg _ _ _,seen_seg⟩,trivial⟩ (fun _=>rfl) ?_
  rintro v H' ⟨rfl,rfl⟩
  refine ⟨rfl,?_⟩
  refine JL_all [] rfl ?_
  (repeat' (first | refine J_seq ?_ | refine J_skip ?_ | refine J_yes rfl ?_ | refine J_no rfl ?_))
  refine J_region ?_
  refine JL_all [] rfl ?_
  refine J_dec rfl (fun h=>absurd rfl h) (fun _=>J_skip ?_)
  (repeat' (first | refine J_seq ?_ | refine J_skip ?_ | refine J_yes rfl ?_ | refine J_no rfl ?_))
  refine J_region ?_
  refine JL_run [] rfl ?_
  (first | refine JL_val [] (OpV_blk 0 rfl rfl rfl rfl) rfl ?_ | refine JL_val [] (OpV_blk 1 rfl rfl rfl rfl) rfl ?_ | refine JL_val [] (OpV_blk 2 rfl rfl rfl rfl) rfl ?_ | refine JL_val [] (OpV_blk 3 rfl rfl rfl rfl) rfl ?_ | refine JL_val [] (OpV_blk 4 rfl rfl rfl rfl) rfl ?_ | refine JL_val [] (OpV_blk 5 rfl rfl rfl rfl) rfl ?_ | refine JL_val [] (OpV_blk 6 rfl rfl rfl rfl) rfl ?_ | refine JL_val [] (OpV_blk 7 rfl rfl rfl rfl) rfl ?_)
  refine JL_run [] rfl ?_
  (first | refine JL_val [] (OpV_blk 0 rfl rfl rfl rfl) rfl ?_ | refine JL_val [] (OpV_blk 1 rfl rfl rfl rfl) rfl ?_ | refine JL_val [] (OpV_blk 2 rfl rfl rfl rfl) rfl ?_ | refine JL_val [] (OpV_blk 3 rfl rfl rfl rfl) rfl ?_ | refine JL_val [] (OpV_blk 4 rfl rfl rfl rfl) rfl ?_ | refine JL_val [] (OpV_blk 5 rfl rfl rfl rfl) rfl ?_ | refine JL_val [] (OpV_blk 6 rfl rfl rfl rfl) rfl ?_ | refine JL_val [] (OpV_blk 7 rfl rfl rfl rfl) rfl ?_)
  refine JL_run [] rfl ?_
  refine JL_set 22 (v':=.int .i64 (2 + g.left + g.right)) rfl (congrArg (Value.int .i64) (by rw [w64 (n:=2 + g.left) (by omega),w64 (by omega)])) ?_
  refine JL_val [] (OpV_build rfl rfl rfl rfl rfl rfl) rfl ?_
  refine JL_alloc rfl rfl rfl (fun _=>rfl) fun p5=>?_
  refine JL_store 0 rfl rfl rfl rfl rfl [] rfl ?_
  refine JL_nil ?_
  (repeat' (first | refine J_seq ?_ | refine J_skip ?_ | refine J_yes rfl ?_ | refine J_no rfl ?_))
  refine J_region ?_
  refine JL_all [] rfl ?_
  (repeat' (first | refine J_seq ?_ | refine J_skip ?_ | refine J_yes rfl ?_ | refine J_no rfl ?_))
  refine J_region ?_
  refine JL_run [] rfl ?_
  (first | refine JL_val [] (OpV_blk 0 rfl rfl rfl rfl) rfl ?_ | refine JL_val [] (OpV_blk 1 rfl rfl rfl rfl) rfl ?_ | refine JL_val [] (OpV_blk 2 rfl rfl rfl rfl) rfl ?_ | refine JL_val [] (OpV_blk 3 rfl rfl rfl rfl) rfl ?_ | refine JL_val [] (OpV_blk 4 rfl rfl rfl rfl) rfl ?_ | refine JL_val [] (OpV_blk 5 rfl rfl rfl rfl) rfl ?_ | refine JL_val [] (OpV_blk 6 rfl rfl rfl rfl) rfl ?_ | refine JL_val [] (OpV_blk 7 rfl rfl rfl rfl) rfl ?_)
  refine JL_set 26 (v':=.int .i64 (nl : Int)) rfl (congrArg (Value.int .i64) hnl) ?_
  refine JL_all [] rfl ?_
  refine J_addnil 39 3 ?_
  refine J_block ?_
  refine J_loop (σ:=Nat × Option Addr × Nat) (fun s=>[(27,.int .i64 s.1),(26,.int .i64 nl),(6,.func (.func 36) #[] #[.pointer (some ⟨p5,0,none⟩)]),(5,.pointer (some ⟨p5,0,none⟩)),(2,.pointer (some ⟨p2,0,none⟩)),(1,.pointer (some ⟨p1,0,none⟩))])
    (fun s=>[blk p5 24 [.int .i64 (2 + g.left + g.right),.int .i64 1,.int .i64 2,.slice s.2.1 (L1 s.1).length s.2.2],.own (.slice s.2.1 (L1 s.1).length s.2.2) 39 3 (L1 s.1).length (arcs (L1 s.1)),blk p2 24 [.int .i64 0,.int .i64 0,.int .i64 0,.slice none 0 0],blk p1 44 (grC g A c),.seg b o (edgs g.edges)])
    (fun s=>s.1 ≤ nl) (fun s=>nl - s.1) (0,none,0) [1,0,2,3,4] ⟨rfl,rfl,rfl,rfl,rfl,rfl,trivial⟩ (by decide) (by rw [hL1]; rfl) (Nat.zero_le _) ?_
  rintro ⟨k,Ar,cr⟩ hk
  simp only at hk ⊢
  have hlk:=l1 k
  (repeat' (first | refine J_seq ?_ | refine J_skip ?_ | refine J_yes rfl ?_ | refine J_no rfl ?_))
  refine J_region ?_
  refine JL_all [] rfl ?_
  refine J_seq (J_dec rfl (fun hlt=>J_skip ?_) (fun hge=>J_exit ?_))
  · refine J_seq (J_block ?_)
    (repeat' (first | refine J_seq ?_ | refine J_skip ?_ | refine J_yes rfl ?_ | refine J_no rfl ?_))
    refine J_region ?_
    refine JL_all [] rfl ?_
    (repeat' (first | refine J_seq ?_ | refine J_skip ?_ | refine J_yes rfl ?_ | refine J_no rfl ?_))
    refine J_region ?_
    refine JL_run [] rfl ?_
    refine JL_set 32 (v':=.int .i64 (3 + k)) rfl (congrArg (Value.int .i64) (w64 (by omega))) ?_
    show JL _ _ _ _ _ ([_,_] ++ [_,_,_])
    refine JL_callK (fst:=[]) (cap:=[.pointer (some ⟨p5,0,none⟩)]) [] (lay_fn p5 (2 + g.left + g.right) 1 2 (L1 k) Ar cr (by omega) (1) ((3 + k))) rfl rfl rfl rfl (by kernel_rfl) Fit.refl trivial (fun _=>rfl) ?_
    rintro v H' ⟨A2,c2,rfl⟩
    refine ⟨rfl,?_⟩
    refine JL_nil ?_
    (repeat' (first | refine J_seq ?_ | refine J_skip ?_ | refine J_yes rfl ?_ | refine J_no rfl ?_))
    refine J_region ?_
    refine JL_all [] rfl ?_
    exact ⟨(k + 1,A2,c2),[0,1,2,3,4],⟨congrArg some (congrArg (Value.int .i64) (w64 (by omega))),rfl,rfl,rfl,rfl,rfl,trivial⟩,by decide,by simp only [s1]; rfl,by simp only; omega,by simp only; omega⟩
  obtain rfl : k = nl:=by omega
  have hl20 : L1 k = L2 0:=by rw [hL2]; simp
  rw [hl20] at hlk ⊢
  (repeat' (first | refine J_seq ?_ | refine J_skip ?_ | refine J_yes rfl ?_ | refine J_no rfl ?_))
  refine J_region ?_
  refine JL_run [] rfl ?_
  (first | refine JL_val [] (OpV_blk 0 rfl rfl rfl rfl) rfl ?_ | refine JL_val [] (OpV_blk 1 rfl rfl rfl rfl) rfl ?_ | refine JL_val [] (OpV_blk 2 rfl rfl rfl rfl) rfl ?_ | refine JL_val [] (OpV_blk 3 rfl rfl rfl rfl) rfl ?_ | refine JL_val [] (OpV_blk 4 rfl rfl rfl rfl) rfl ?_ | refine JL_val [] (OpV_blk 5 rfl rfl rfl rfl) rfl ?_ | refine JL_val [] (OpV_blk 6 rfl rfl rfl rfl) rfl ?_ | refine JL_val [] (OpV_blk 7 rfl rfl rfl rfl) rfl ?_)
  refine JL_all [] rfl ?_
  refine J_block ?_
  refine J_loop (σ:=Nat × Option Addr × Nat) (fun s=>[(38,.int .i64 s.1),(37,.int .i64 g.edges.length),(36,.slice A g.edges.length c),(6,.func (.func 36) #[] #[.pointer (some ⟨p5,0,none⟩)]),(5,.pointer (some ⟨p5,0,none⟩)),(2,.pointer (some ⟨p2,0,none⟩)),(1,.pointer (some ⟨p1,0,none⟩))])
    (fun s=>[blk p5 24 [.int .i64 (2 + g.left + g.right),.int .i64 1,.int .i64 2,.slice s.2.1 (L2 s.1).length s.2.2],.own (.slice s.2.1 (L2 s.1).length s.2.2) 39 3 (L2 s.1).length (arcs (L2 s.1)),blk p2 24 [.int .i64 0,.int .i64 0,.int .i64 0,.slice none 0 0],blk p1 44 (grC g A c),.seg b o (edgs g.edges)])
    (fun s=>s.1 ≤ g.edges.length) (fun s=>g.edges.length - s.1) (0,Ar,cr) [0,1,2,3,4] ⟨rfl,rfl,rfl,rfl,rfl,rfl,rfl,trivial⟩ (by decide) rfl (Nat.zero_le _) ?_
  clear hlk hl20
  rintro ⟨j,Ar,cr⟩ hj
  simp only at hj ⊢
  have hlj:=l2 j hj
  (repeat' (first | refine J_seq ?_ | refine J_skip ?_ | refine J_yes rfl ?_ | refine J_no rfl ?_))
  refine J_region ?_
  refine JL_all [] rfl ?_
  refine J_seq (J_dec rfl (fun hlt=>J_skip ?_) (fun hge=>J_exit ?_))
  · have hlt : j < g.edges.length:=by omega
    obtain rfl:=hA (by intro h0; rw [h0] at hlt; simp at hlt)
    obtain ⟨e,he⟩ : ∃ e,g.edges[j]? = some e:=⟨g.edges[j],List.getElem?_eq_getElem hlt⟩
    have her:=hg.edge e (List.mem_of_getElem? he)
    refine J_seq (J_block ?_)
    (repeat' (first | refine J_seq ?_ | refine J_skip ?_ | refine J_yes rfl ?_ | refine J_no rfl ?_))
    refine J_region ?_
    refine JL_run [] rfl ?_
    refine JL_val [] (idxN rfl rfl rfl rfl rfl hlt) rfl ?_
    refine JL_val [] (ldseg 4 rfl rfl rfl rfl (readT_edg he)) rfl ?_
    refine JL_alloc rfl rfl rfl (fun _=>rfl) fun p9=>?_
    refine JL_run [] rfl ?_
    refine JL_store 0 rfl rfl rfl rfl rfl [] rfl ?_
    refine JL_nil ?_
    (repeat' (first | refine J_seq ?_ | refine J_skip ?_ | refine J_yes rfl ?_ | refine J_no rfl ?_))
    refine J_region ?_
    refine JL_run [] rfl ?_
    refine JL_val [] (OpV_blk (v:=.int .i64 e.l) 0 rfl rfl rfl rfl) rfl ?_
    refine JL_run [] rfl ?_
    (first | refine JL_val [] (OpV_blk 0 rfl rfl rfl rfl) rfl ?_ | refine JL_val [] (OpV_blk 1 rfl rfl rfl rfl) rfl ?_ | refine JL_val [] (OpV_blk 2 rfl rfl rfl rfl) rfl ?_ | refine JL_val [] (OpV_blk 3 rfl rfl rfl rfl) rfl ?_ | refine JL_val [] (OpV_blk 4 rfl rfl rfl rfl) rfl ?_ | refine JL_val [] (OpV_blk 5 rfl rfl rfl rfl) rfl ?_ | refine JL_val [] (OpV_blk 6 rfl rfl rfl rfl) rfl ?_ | refine JL_val [] (OpV_blk 7 rfl rfl rfl rfl) rfl ?_)
    refine JL_run [] rfl ?_
    refine JL_val [] (OpV_blk (v:=.int .i64 e.r) 0 rfl rfl rfl rfl) rfl ?_
    refine JL_run [] rfl ?_
    refine JL_set 45 (v':=.int .i64 (2 + e.l)) rfl (congrArg (Value.int .i64) (w64 (by omega))) ?_
    refine JL_set 51 (v':=.int .i64 (2 + g.left + e.r)) rfl (congrArg (Value.int .i64) (by rw [w64 (n:=2 + g.left) (by omega),w64 (by omega)])) ?_
    refine JL_fit (Fit.picks [1,2,3,4,5] (by decide) rfl) ?_
    show JL _ _ _ _ _ ([_,_] ++ [_,_,_])
    refine JL_callK (fst:=[]) (cap:=[.pointer (some ⟨p5,0,none⟩)]) [] (lay_fn p5 (2 + g.left + g.right) 1 2 (L2 j) Ar cr (by omega) ((2 + e.l)) ((2 + g.left + e.r))) rfl rfl rfl rfl (by kernel_rfl) Fit.refl trivial (fun _=>rfl) ?_
    rintro v H' ⟨A2,c2,rfl⟩
    refine ⟨rfl,?_⟩
    refine JL_nil ?_
    (repeat' (first | refine J_seq ?_ | refine J_skip ?_ | refine J_yes rfl ?_ | refine J_no rfl ?_))
    refine J_region ?_
    refine JL_all [] rfl ?_
    exact ⟨(j + 1,A2,c2),[0,1,2,3,4],⟨congrArg some (congrArg (Value.int .i64) (w64 (by omega))),rfl,rfl,rfl,rfl,rfl,rfl,trivial⟩,by decide,by simp only [s2 j e he]; rfl,by simp only; omega,by simp only; omega⟩
  obtain rfl : j = g.edges.length:=by omega
  have hl30 : L2 g.edges.length = L3 0:=by rw [hL3]; simp
  rw [hl30] at hlj ⊢
  (repeat' (first | refine J_seq ?_ | refine J_skip ?_ | refine J_yes rfl ?_ | refine J_no rfl ?_))
  refine J_region ?_
  refine JL_run [] rfl ?_
  (first | refine JL_val [] (OpV_blk 0 rfl rfl rfl rfl) rfl ?_ | refine JL_val [] (OpV_blk 1 rfl rfl rfl rfl) rfl ?_ | refine JL_val [] (OpV_blk 2 rfl rfl rfl rfl) rfl ?_ | refine JL_val [] (OpV_blk 3 rfl rfl rfl rfl) rfl ?_ | refine JL_val [] (OpV_blk 4 rfl rfl rfl rfl) rfl ?_ | refine JL_val [] (OpV_blk 5 rfl rfl rfl rfl) rfl ?_ | refine JL_val [] (OpV_blk 6 rfl rfl rfl rfl) rfl ?_ | refine JL_val [] (OpV_blk 7 rfl rfl rfl rfl) rfl ?_)
  refine JL_set 55 (v':=.int .i64 (nr : Int)) rfl (congrArg (Value.int .i64) hnr) ?_
  refine JL_all [] rfl ?_
  refine J_block ?_
  refine J_loop (σ:=Nat × Option Addr × Nat) (fun s=>[(56,.int .i64 s.1),(55,.int .i64 nr),(6,.func (.func 36) #[] #[.pointer (some ⟨p5,0,none⟩)]),(5,.pointer (some ⟨p5,0,none⟩)),(2,.pointer (some ⟨p2,0,none⟩)),(1,.pointer (some ⟨p1,0,none⟩))])
    (fun s=>[blk p5 24 [.int .i64 (2 + g.left + g.right),.int .i64 1,.int .i64 2,.slice s.2.1 (L3 s.1).length s.2.2],.own (.slice s.2.1 (L3 s.1).length s.2.2) 39 3 (L3 s.1).length (arcs (L3 s.1)),blk p2 24 [.int .i64 0,.int .i64 0,.int .i64 0,.slice none 0 0],blk p1 44 (grC g A c),.seg b o (edgs g.edges)])
    (fun s=>s.1 ≤ nr) (fun s=>nr - s.1) (0,Ar,cr) [0,1,2,3,4] ⟨rfl,rfl,rfl,rfl,rfl,rfl,trivial⟩ (by decide) rfl (Nat.zero_le _) ?_
  clear hlj hl30
  rintro ⟨i,Ar,cr⟩ hi
  simp only at hi ⊢
  have hli:=l3 i
  (repeat' (first | refine J_seq ?_ | refine J_skip ?_ | refine J_yes rfl ?_ | refine J_no rfl ?_))
  refine J_region ?_
  refine JL_all [] rfl ?_
  refine J_seq (J_dec rfl (fun hlt=>J_skip ?_) (fun hge=>J_exit ?_))
  · refine J_seq (J_block ?_)
    (repeat' (first | refine J_seq ?_ | refine J_skip ?_ | refine J_yes rfl ?_ | refine J_no rfl ?_))
    refine J_region ?_
    refine JL_all [] rfl ?_
    (repeat' (first | refine J_seq ?_ | refine J_skip ?_ | refine J_yes rfl ?_ | refine J_no rfl ?_))
    refine J_region ?_
    refine JL_run [] rfl ?_
    (first | refine JL_val [] (OpV_blk 0 rfl rfl rfl rfl) rfl ?_ | refine JL_val [] (OpV_blk 1 rfl rfl rfl rfl) rfl ?_ | refine JL_val [] (OpV_blk 2 rfl rfl rfl rfl) rfl ?_ | refine JL_val [] (OpV_blk 3 rfl rfl rfl rfl) rfl ?_ | refine JL_val [] (OpV_blk 4 rfl rfl rfl rfl) rfl ?_ | refine JL_val [] (OpV_blk 5 rfl rfl rfl rfl) rfl ?_ | refine JL_val [] (OpV_blk 6 rfl rfl rfl rfl) rfl ?_ | refine JL_val [] (OpV_blk 7 rfl rfl rfl rfl) rfl ?_)
    refine JL_run [] rfl ?_
    refine JL_set 65 (v':=.int .i64 (3 + g.left + i)) rfl (congrArg (Value.int .i64) (by rw [w64 (n:=2 + g.left) (by omega),w64 (n:=2 + g.left + 1) (by omega),w64 (by omega)]; omega)) ?_
    show JL _ _ _ _ _ ([_,_] ++ [_,_,_])
    refine JL_callK (fst:=[]) (cap:=[.pointer (some ⟨p5,0,none⟩)]) [] (lay_fn p5 (2 + g.left + g.right) 1 2 (L3 i) Ar cr (by omega) ((3 + g.left + i)) (2)) rfl rfl rfl rfl (by kernel_rfl) Fit.refl trivial (fun _=>rfl) ?_
    rintro v H' ⟨A2,c2,rfl⟩
    refine ⟨rfl,?_⟩
    refine JL_nil ?_
    (repeat' (first | refine J_seq ?_ | refine J_skip ?_ | refine J_yes rfl ?_ | refine J_no rfl ?_))
    refine J_region ?_
    refine JL_all [] rfl ?_
    exact ⟨(i + 1,A2,c2),[0,1,2,3,4],⟨congrArg some (congrArg (Value.int .i64) (w64 (by omega))),rfl,rfl,rfl,rfl,rfl,trivial⟩,by decide,by simp only [s3]; rfl,by simp only; omega,by simp only; omega⟩
  obtain rfl : i = nr:=by omega
  rw [hfin]
  (repeat' (first | refine J_seq ?_ | refine J_skip ?_ | refine J_yes rfl ?_ | refine J_no rfl ?_))
  refine J_region ?_
  refine JL_val [] (v:=netV (gnet g) Ar cr) (OpV_blk 0 rfl rfl rfl rfl) rfl ?_
  refine JL_store 2 rfl rfl rfl rfl rfl [] rfl ?_
  refine JL_all [] rfl ?_
  refine J_ret ?_
  exact ⟨[_,_],[1],_,⟨⟨p2,2,_,_,rfl,rfl,rfl⟩,rfl,trivial⟩,by decide,rfl,Ar,cr,rfl,rfl⟩
end Go.Proofs.Ytdhenmmmkdhonaa
