/- The engine and the words that all chapters share: several texts in one. -/
import Derived.Test.YtpbmihpjgjbndaaGreatQX30
/- The network of a graph, step by step. -/
set_option linter.unusedVariables false
set_option linter.unusedSimpArgs false
namespace Go.Proofs.YtpbmihpjgjbndaaGreat
open Go.RowKit
theorem qT (p5:Nat) (x y z:Int) (l:List dQ) (Ar:Option Addr) (cr:Nat) (hl:l.length≤3000) (fr to_:Int):
 Fn 49 [.int .i64 fr,.int .i64 to_,.pointer (some ⟨p5,0,none⟩)] (aX [blk p5 50 [.int .i64 x,.int .i64 y,.int .i64 z,.slice Ar l.length cr],.own (.slice Ar l.length cr) 112 3 l.length (arcs l)])
  ([]++[blk p5 50 [.int .i64 x,.int .i64 y,.int .i64 z,.slice Ar l.length cr],.own (.slice Ar l.length cr) 112 3 l.length (arcs l)]) fun _ H'=>∃ (A':Option Addr) (c':Nat),
    H'=[blk p5 50 [.int .i64 x,.int .i64 y,.int .i64 z,.slice A' (l++[dQ.mk fr to_ 1]).length c'],.own (.slice A' (l++[dQ.mk fr to_ 1]).length c') 112 3 (l++[dQ.mk fr to_ 1]).length (arcs (l++[dQ.mk fr to_ 1]))]:=by
 generalize hM:aX _=M
 refine aM Tryz.func49 rfl rfl fun w0=>?_
 refine aa (ah [] rfl ?_)
 refine ab [] (ad (v:=.slice Ar l.length cr) 0 rfl rfl rfl rfl) rfl ?_
 refine ah [] rfl ?_
 refine ab [] (bg rfl rfl rfl rfl rfl rfl) rfl ?_
 refine b8 rfl rfl rfl rfl rfl rfl rfl (fun _=>rfl) fun g=>?_
 refine a9 (n:=l.length) (m:=1) (off:=0) (news:=arcs [dQ.mk fr to_ 1]) 2 0 rfl rfl rfl rfl rfl rfl (by decide) rfl rfl (aR g _ _ (0,0)) (fun _=>rfl) rfl rfl (by omega) (by omega) (fun _ _=>rfl) fun A2 c2=>?_
 refine ah [] rfl ?_
 refine aD 1 rfl rfl rfl rfl rfl [] rfl ?_
 refine b6 (aH.picks [1,2] (by decide) rfl) ?_
 refine aj ?_
 rw[← kg,show l.length+1=(l++[dQ.mk fr to_ 1]).length by simp]
 exact⟨_,rfl,A2,c2,rfl⟩
set_option maxHeartbeats 1000000 in
theorem rV (g:Gr) (hg:g.Right) (A:Option Addr) (c b o:Nat) (hA:g.edges≠[]→A=some ⟨b,o,none⟩):Fn 29 [j7 g A c] [] [.seg b o (cd g.edges)] fun v H'=>∃ (A':Option Addr) (c':Nat),v=.tuple #[bi (b5 g) A' c',.int .i64 0]∧
 H'=[.own (.slice A' (b5 g).arcs.length c') 112 3 (b5 g).arcs.length (arcs (b5 g).arcs)]:=by
 have h1:=hg.left
 have h2:=hg.right
 have h3:=hg.len
 obtain⟨nl,hnl⟩:∃ n:Nat,g.left=n:=⟨g.left.toNat,by omega⟩
 obtain⟨nr,hnr⟩:∃ n:Nat,g.right=n:=⟨g.right.toNat,by omega⟩
 obtain⟨L1,hL1⟩:∃ L1:Nat→List dQ,L1=fun k=>(List.range k).map fun (i:Nat)=>dQ.mk 1 (3+i) 1:=⟨_,rfl⟩
 obtain⟨L2,hL2⟩:∃ L2:Nat→List dQ,L2=fun k=>L1 nl++(g.edges.take k).map fun e=>dQ.mk (2+e.l) (2+g.left+e.r) 1:=⟨_,rfl⟩
 obtain⟨L3,hL3⟩:∃ L3:Nat→List dQ,L3=fun k=>L2 g.edges.length++(List.range k).map fun (i:Nat)=>dQ.mk (3+g.left+i) 2 1:=⟨_,rfl⟩
 have l1:∀ k,(L1 k).length=k:=fun k=>by rw[hL1];simp
 have l2:∀ k,k≤g.edges.length→(L2 k).length=nl+k:=fun k hk=>by rw[hL2];simp only[List.length_append,l1,List.length_map,List.length_take];omega
 have l3:∀ k,(L3 k).length=nl+g.edges.length+k:=fun k=>by rw[hL3];simp only[List.length_append,l2 _ (Nat.le_refl _),List.length_map,List.length_range]
 have s1:∀ k,L1 (k+1)=L1 k++[dQ.mk 1 (3+k) 1]:=fun k=>by rw[hL1];simp[List.range_succ]
 have s2:∀ k e,g.edges[k]?=some e→L2 (k+1)=L2 k++[dQ.mk (2+e.l) (2+g.left+e.r) 1]:=fun k e he=>by rw[hL2];simp only[List.take_add_one,he,List.map_append,List.append_assoc];rfl
 have s3:∀ k,L3 (k+1)=L3 k++[dQ.mk (3+g.left+k) 2 1]:=fun k=>by rw[hL3];simp[List.range_succ]
 have hfin:L3 nr=(b5 g).arcs:=by
  rw[hL3,hL2,hL1]
  show _=((List.range g.left.toNat).map _++g.edges.map _)++(List.range g.right.toNat).map _
  rw[hnl,hnr,Int.toNat_natCast,Int.toNat_natCast]
  simp only[List.take_length]
 refine em Tryz.func29 rfl rfl fun w0=>?_
 refine ae (aa ?_)
 refine a6 (cs:=eE g A c) rfl rfl rfl (fun _=>rfl) fun p1=>?_
 refine aQ rfl rfl rfl (fun _=>rfl) fun p2=>?_
 refine af [] rfl ?_
 refine ae (ae (aa ?_))
 refine ab [] (v:=j7 g A c) (ad 1 rfl rfl rfl rfl) rfl ?_
 refine ax [] (gR g hg A c b o hA) rfl rfl rfl rfl (by kernel_rfl) ⟨⟨2,_,by simp,rfl,ak _ _ _,ap⟩,trivial⟩ (fun _=>rfl) ?_
 rintro v H' ⟨rfl,rfl⟩
 refine⟨rfl,?_⟩
 refine af [] rfl ?_
 refine ae (aa (af [] rfl ?_))
 refine aC rfl (fun h=>absurd rfl h) (fun _=>aq ?_)
 refine ae (aa (ah [] rfl ?_))
 (first|refine ab [] (ad 0 rfl rfl rfl rfl) rfl ?_|refine ab [] (ad 1 rfl rfl rfl rfl) rfl ?_|refine ab [] (ad 2 rfl rfl rfl rfl) rfl ?_|refine ab [] (ad 3 rfl rfl rfl rfl) rfl ?_|refine ab [] (ad 4 rfl rfl rfl rfl) rfl ?_|refine ab [] (ad 5 rfl rfl rfl rfl) rfl ?_|refine ab [] (ad 6 rfl rfl rfl rfl) rfl ?_|refine ab [] (ad 7 rfl rfl rfl rfl) rfl ?_)
 refine ah [] rfl ?_
 (first|refine ab [] (ad 0 rfl rfl rfl rfl) rfl ?_|refine ab [] (ad 1 rfl rfl rfl rfl) rfl ?_|refine ab [] (ad 2 rfl rfl rfl rfl) rfl ?_|refine ab [] (ad 3 rfl rfl rfl rfl) rfl ?_|refine ab [] (ad 4 rfl rfl rfl rfl) rfl ?_|refine ab [] (ad 5 rfl rfl rfl rfl) rfl ?_|refine ab [] (ad 6 rfl rfl rfl rfl) rfl ?_|refine ab [] (ad 7 rfl rfl rfl rfl) rfl ?_)
 refine ah [] rfl ?_
 refine av 22 (v':=.int .i64 (2+g.left+g.right)) rfl (congrArg (Value.int .i64) (by rw[bK (n:=2+g.left) (by omega),bK (by omega)])) ?_
 refine ab [] (bg rfl rfl rfl rfl rfl rfl) rfl ?_
 refine aQ rfl rfl rfl (fun _=>rfl) fun p5=>?_
 refine aD 0 rfl rfl rfl rfl rfl [] rfl ?_
 refine aj ?_
 refine ae (aa (af [] rfl ?_))
 refine ae (ae (aa (ah [] rfl ?_)))
 (first|refine ab [] (ad 0 rfl rfl rfl rfl) rfl ?_|refine ab [] (ad 1 rfl rfl rfl rfl) rfl ?_|refine ab [] (ad 2 rfl rfl rfl rfl) rfl ?_|refine ab [] (ad 3 rfl rfl rfl rfl) rfl ?_|refine ab [] (ad 4 rfl rfl rfl rfl) rfl ?_|refine ab [] (ad 5 rfl rfl rfl rfl) rfl ?_|refine ab [] (ad 6 rfl rfl rfl rfl) rfl ?_|refine ab [] (ad 7 rfl rfl rfl rfl) rfl ?_)
 refine av 26 (v':=.int .i64 (nl:Int)) rfl (congrArg (Value.int .i64) hnl) ?_
 refine af [] rfl ?_
 refine bO 112 3 ?_
 refine au ?_
 refine bu (σ:=Nat×Option Addr×Nat) (fun s=>[(27,.int .i64 s.1),(26,.int .i64 nl),(6,.func (.func 49) #[] #[.pointer (some ⟨p5,0,none⟩)]),(5,.pointer (some ⟨p5,0,none⟩)),(2,.pointer (some ⟨p2,0,none⟩)),(1,.pointer (some ⟨p1,0,none⟩))])
  (fun s=>[blk p5 50 [.int .i64 (2+g.left+g.right),.int .i64 1,.int .i64 2,.slice s.2.1 (L1 s.1).length s.2.2],.own (.slice s.2.1 (L1 s.1).length s.2.2) 112 3 (L1 s.1).length (arcs (L1 s.1)),blk p2 50 [.int .i64 0,.int .i64 0,.int .i64 0,.slice none 0 0],blk p1 24 (eE g A c),.seg b o (cd g.edges)])
  (fun s=>s.1≤nl) (fun s=>nl-s.1) (0,none,0) [1,0,2,3,4] ⟨rfl,rfl,rfl,rfl,rfl,rfl,trivial⟩ (by decide) (by rw[hL1];rfl) (Nat.zero_le _) ?_
 rintro⟨k,Ar,cr⟩ hk
 simp only at hk ⊢
 have hlk:=l1 k
 refine ae (aa (af [] rfl ?_))
 refine ae (aC rfl (fun hlt=>aq ?_) (fun hge=>aO ?_))
 ·refine ae (au ?_)
  refine ae (aa (af [] rfl ?_))
  refine aa (ah [] rfl ?_)
  refine av 32 (v':=.int .i64 (3+k)) rfl (congrArg (Value.int .i64) (bK (by omega))) ?_
  show JL _ _ _ _ _ ([_,_]++[_,_,_])
  refine ay (fst:=[]) (cap:=[.pointer (some ⟨p5,0,none⟩)]) [] (qT p5 (2+g.left+g.right) 1 2 (L1 k) Ar cr (by omega) (1) ((3+k))) rfl rfl rfl rfl (by kernel_rfl) aH.refl trivial (fun _=>rfl) ?_
  rintro v H' ⟨A2,c2,rfl⟩
  refine⟨rfl,?_⟩
  refine aj ?_
  refine aa (af [] rfl ?_)
  exact⟨(k+1,A2,c2),[0,1,2,3,4],⟨congrArg some (congrArg (Value.int .i64) (bK (by omega))),rfl,rfl,rfl,rfl,rfl,trivial⟩,by decide,by simp only[s1];rfl,by simp only;omega,by simp only;omega⟩
 obtain rfl:k=nl:=by omega
 have hl20:L1 k=L2 0:=by rw[hL2];simp
 rw[hl20] at hlk ⊢
 refine ae (ae (aa (ah [] rfl ?_)))
 (first|refine ab [] (ad 0 rfl rfl rfl rfl) rfl ?_|refine ab [] (ad 1 rfl rfl rfl rfl) rfl ?_|refine ab [] (ad 2 rfl rfl rfl rfl) rfl ?_|refine ab [] (ad 3 rfl rfl rfl rfl) rfl ?_|refine ab [] (ad 4 rfl rfl rfl rfl) rfl ?_|refine ab [] (ad 5 rfl rfl rfl rfl) rfl ?_|refine ab [] (ad 6 rfl rfl rfl rfl) rfl ?_|refine ab [] (ad 7 rfl rfl rfl rfl) rfl ?_)
 refine af [] rfl ?_
 refine au ?_
 refine bu (σ:=Nat×Option Addr×Nat) (fun s=>[(38,.int .i64 s.1),(37,.int .i64 g.edges.length),(36,.slice A g.edges.length c),(6,.func (.func 49) #[] #[.pointer (some ⟨p5,0,none⟩)]),(5,.pointer (some ⟨p5,0,none⟩)),(2,.pointer (some ⟨p2,0,none⟩)),(1,.pointer (some ⟨p1,0,none⟩))])
  (fun s=>[blk p5 50 [.int .i64 (2+g.left+g.right),.int .i64 1,.int .i64 2,.slice s.2.1 (L2 s.1).length s.2.2],.own (.slice s.2.1 (L2 s.1).length s.2.2) 112 3 (L2 s.1).length (arcs (L2 s.1)),blk p2 50 [.int .i64 0,.int .i64 0,.int .i64 0,.slice none 0 0],blk p1 24 (eE g A c),.seg b o (cd g.edges)])
  (fun s=>s.1≤g.edges.length) (fun s=>g.edges.length-s.1) (0,Ar,cr) [0,1,2,3,4] ⟨rfl,rfl,rfl,rfl,rfl,rfl,rfl,trivial⟩ (by decide) rfl (Nat.zero_le _) ?_
 clear hlk hl20
 rintro⟨j,Ar,cr⟩ hj
 simp only at hj ⊢
 have hlj:=l2 j hj
 refine ae (aa (af [] rfl ?_))
 refine ae (aC rfl (fun hlt=>aq ?_) (fun hge=>aO ?_))
 ·have hlt:j<g.edges.length:=by omega
  obtain rfl:=hA (by intro h0;rw[h0] at hlt;simp at hlt)
  obtain⟨e,he⟩:∃ e,g.edges[j]?=some e:=⟨g.edges[j],List.getElem?_eq_getElem hlt⟩
  have her:=hg.edge e (List.mem_of_getElem? he)
  refine ae (au ?_)
  refine ae (aa (ah [] rfl ?_))
  refine ab [] (eH rfl rfl rfl rfl rfl hlt) rfl ?_
  refine ab [] (aU 4 rfl rfl rfl rfl (eF he)) rfl ?_
  refine aQ rfl rfl rfl (fun _=>rfl) fun p9=>?_
  refine ah [] rfl ?_
  refine aD 0 rfl rfl rfl rfl rfl [] rfl ?_
  refine aj ?_
  refine aa (ah [] rfl ?_)
  refine ab [] (ad (v:=.int .i64 e.l) 0 rfl rfl rfl rfl) rfl ?_
  refine ah [] rfl ?_
  (first|refine ab [] (ad 0 rfl rfl rfl rfl) rfl ?_|refine ab [] (ad 1 rfl rfl rfl rfl) rfl ?_|refine ab [] (ad 2 rfl rfl rfl rfl) rfl ?_|refine ab [] (ad 3 rfl rfl rfl rfl) rfl ?_|refine ab [] (ad 4 rfl rfl rfl rfl) rfl ?_|refine ab [] (ad 5 rfl rfl rfl rfl) rfl ?_|refine ab [] (ad 6 rfl rfl rfl rfl) rfl ?_|refine ab [] (ad 7 rfl rfl rfl rfl) rfl ?_)
  refine ah [] rfl ?_
  refine ab [] (ad (v:=.int .i64 e.r) 0 rfl rfl rfl rfl) rfl ?_
  refine ah [] rfl ?_
  refine av 45 (v':=.int .i64 (2+e.l)) rfl (congrArg (Value.int .i64) (bK (by omega))) ?_
  refine av 51 (v':=.int .i64 (2+g.left+e.r)) rfl (congrArg (Value.int .i64) (by rw[bK (n:=2+g.left) (by omega),bK (by omega)])) ?_
  refine b6 (aH.picks [1,2,3,4,5] (by decide) rfl) ?_
  show JL _ _ _ _ _ ([_,_]++[_,_,_])
  refine ay (fst:=[]) (cap:=[.pointer (some ⟨p5,0,none⟩)]) [] (qT p5 (2+g.left+g.right) 1 2 (L2 j) Ar cr (by omega) ((2+e.l)) ((2+g.left+e.r))) rfl rfl rfl rfl (by kernel_rfl) aH.refl trivial (fun _=>rfl) ?_
  rintro v H' ⟨A2,c2,rfl⟩
  refine⟨rfl,?_⟩
  refine aj ?_
  refine aa (af [] rfl ?_)
  exact⟨(j+1,A2,c2),[0,1,2,3,4],⟨congrArg some (congrArg (Value.int .i64) (bK (by omega))),rfl,rfl,rfl,rfl,rfl,rfl,trivial⟩,by decide,by simp only[s2 j e he];rfl,by simp only;omega,by simp only;omega⟩
 obtain rfl:j=g.edges.length:=by omega
 have hl30:L2 g.edges.length=L3 0:=by rw[hL3];simp
 rw[hl30] at hlj ⊢
 refine ae (ae (aa (ah [] rfl ?_)))
 (first|refine ab [] (ad 0 rfl rfl rfl rfl) rfl ?_|refine ab [] (ad 1 rfl rfl rfl rfl) rfl ?_|refine ab [] (ad 2 rfl rfl rfl rfl) rfl ?_|refine ab [] (ad 3 rfl rfl rfl rfl) rfl ?_|refine ab [] (ad 4 rfl rfl rfl rfl) rfl ?_|refine ab [] (ad 5 rfl rfl rfl rfl) rfl ?_|refine ab [] (ad 6 rfl rfl rfl rfl) rfl ?_|refine ab [] (ad 7 rfl rfl rfl rfl) rfl ?_)
 refine av 55 (v':=.int .i64 (nr:Int)) rfl (congrArg (Value.int .i64) hnr) ?_
 refine af [] rfl ?_
 refine au ?_
 refine bu (σ:=Nat×Option Addr×Nat) (fun s=>[(56,.int .i64 s.1),(55,.int .i64 nr),(6,.func (.func 49) #[] #[.pointer (some ⟨p5,0,none⟩)]),(5,.pointer (some ⟨p5,0,none⟩)),(2,.pointer (some ⟨p2,0,none⟩)),(1,.pointer (some ⟨p1,0,none⟩))])
  (fun s=>[blk p5 50 [.int .i64 (2+g.left+g.right),.int .i64 1,.int .i64 2,.slice s.2.1 (L3 s.1).length s.2.2],.own (.slice s.2.1 (L3 s.1).length s.2.2) 112 3 (L3 s.1).length (arcs (L3 s.1)),blk p2 50 [.int .i64 0,.int .i64 0,.int .i64 0,.slice none 0 0],blk p1 24 (eE g A c),.seg b o (cd g.edges)])
  (fun s=>s.1≤nr) (fun s=>nr-s.1) (0,Ar,cr) [0,1,2,3,4] ⟨rfl,rfl,rfl,rfl,rfl,rfl,trivial⟩ (by decide) rfl (Nat.zero_le _) ?_
 clear hlj hl30
 rintro⟨i,Ar,cr⟩ hi
 simp only at hi ⊢
 have hli:=l3 i
 refine ae (aa (af [] rfl ?_))
 refine ae (aC rfl (fun hlt=>aq ?_) (fun hge=>aO ?_))
 ·refine ae (au ?_)
  refine ae (aa (af [] rfl ?_))
  refine aa (ah [] rfl ?_)
  (first|refine ab [] (ad 0 rfl rfl rfl rfl) rfl ?_|refine ab [] (ad 1 rfl rfl rfl rfl) rfl ?_|refine ab [] (ad 2 rfl rfl rfl rfl) rfl ?_|refine ab [] (ad 3 rfl rfl rfl rfl) rfl ?_|refine ab [] (ad 4 rfl rfl rfl rfl) rfl ?_|refine ab [] (ad 5 rfl rfl rfl rfl) rfl ?_|refine ab [] (ad 6 rfl rfl rfl rfl) rfl ?_|refine ab [] (ad 7 rfl rfl rfl rfl) rfl ?_)
  refine ah [] rfl ?_
  refine av 65 (v':=.int .i64 (3+g.left+i)) rfl (congrArg (Value.int .i64) (by rw[bK (n:=2+g.left) (by omega),bK (n:=2+g.left+1) (by omega),bK (by omega)];omega)) ?_
  show JL _ _ _ _ _ ([_,_]++[_,_,_])
  refine ay (fst:=[]) (cap:=[.pointer (some ⟨p5,0,none⟩)]) [] (qT p5 (2+g.left+g.right) 1 2 (L3 i) Ar cr (by omega) ((3+g.left+i)) (2)) rfl rfl rfl rfl (by kernel_rfl) aH.refl trivial (fun _=>rfl) ?_
  rintro v H' ⟨A2,c2,rfl⟩
  refine⟨rfl,?_⟩
  refine aj ?_
  refine aa (af [] rfl ?_)
  exact⟨(i+1,A2,c2),[0,1,2,3,4],⟨congrArg some (congrArg (Value.int .i64) (bK (by omega))),rfl,rfl,rfl,rfl,rfl,trivial⟩,by decide,by simp only[s3];rfl,by simp only;omega,by simp only;omega⟩
 obtain rfl:i=nr:=by omega
 rw[hfin]
 refine ae (aa ?_)
 refine ab [] (v:=bi (b5 g) Ar cr) (ad 0 rfl rfl rfl rfl) rfl ?_
 refine aD 2 rfl rfl rfl rfl rfl [] rfl ?_
 refine af [] rfl ?_
 refine aB ?_
 exact⟨[_,_],[1],_,⟨⟨p2,2,_,_,rfl,rfl,rfl⟩,rfl,trivial⟩,by decide,rfl,Ar,cr,rfl,rfl⟩
end Go.Proofs.YtpbmihpjgjbndaaGreat
/- The pairs of a graph, by walks, and whether edges are a matching. -/
set_option linter.unusedVariables false
set_option linter.unusedSimpArgs false
namespace Go.Proofs.YtpbmihpjgjbndaaGreat
open Go.RowKit
section
variable {X:Cx} {E:Env} {H:Heap}
theorem uN {o:Oper} {t e n c i j sz' by':Nat} {x lo hi:Operand} {A:Option Addr} {z:Option Value} {et:TI} {k k':IntKind} (ho:o.op=.slice t x (some lo) (some hi) none) (hx:val E x=some (.slice A n c)) (hlo:val E lo=some (.int k (i:Int))) (hhi:val E hi=some (.int k' (j:Int)))
 (ht:tab t=some ⟨.slice e,sz',by',z⟩) (he:tab e=some et) (hij:i≤j) (hj:j≤c):jC X o E H (.slice (hZ A c i et.size) (j-i) (c-i)):=by
 intro a w hA hH
 have h1:=my ht
 have h2:=run_slice_lh (P:=Tryz.prog) (w:=w) t A n c h1 k k' (i:Int) (j:Int) (by omega) (by omega) (by omega)
 rw[kM ht] at h2
 simp[execOp,ho,hA.val hx,hA.val hlo,hA.val hhi,run_sliceAt_slice w t _ _ _ _ h1,h2,cK he,sliced,hZ]
end
def bX (f:List Int) (nl k:Nat):List Int:=((List.range k).filter fun (i:Nat)=>decide (0<f.getD (nl+i) 0)).map fun (i:Nat)=>(i:Int)
theorem iN (f:List Int) (nl k:Nat):bX f nl (k+1)=bX f nl k++(if 0<f.getD (nl+k) 0 then [(k:Int)] else []):=by
 unfold bX
 rw[List.range_succ,List.filter_append,List.map_append]
 congr 1
 by_cases h:0<f.getD (nl+k) 0
 ·rw[if_pos h,List.filter_cons,if_pos (decide_eq_true h)];rfl
 ·rw[if_neg h,List.filter_cons,if_neg (by simpa using h)];rfl
theorem gO (f:List Int) (nl k:Nat):(bX f nl k).length≤k:=by
 unfold bX
 rw[List.length_map]
 exact Nat.le_trans (List.length_filter_le _ _) (by simp)
def lR (N:bt) (f:List Int):Prop:=aT N f∧¬ tj N (aK (N.arcs.zip f)) 1 N.snk
end Go.Proofs.YtpbmihpjgjbndaaGreat
