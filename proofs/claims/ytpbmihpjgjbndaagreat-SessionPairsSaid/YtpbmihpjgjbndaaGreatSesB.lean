/- Graphs handed over to the reference; the reference's network of a graph. -/
import Derived.Test.YtpbmihpjgjbndaaGreatSesA
import Derived.Test.YtpbmihpjgjbndaaGreatQX24
set_option linter.unusedVariables false
set_option linter.unusedSimpArgs false
namespace Go.Proofs.YtpbmihpjgjbndaaGreat
open Go.RowKit
set_option maxHeartbeats 1000000 in
theorem mD (g:Gr) (hl:g.edges.length≤1500) (A:Option Addr) (c b o:Nat) (hA:g.edges≠[]→A=some ⟨b,o,none⟩):Fn 7 [j7 g A c] [] [.seg b o (cd g.edges)] fun v H'=>∃ (A':Option Addr) (c':Nat),v=jG g A' c'∧
 H'=[.own (.slice A' g.edges.length c') 55 2 g.edges.length (cd g.edges)]:=by
 refine em Tryz.func7 rfl rfl fun w0=>?_
 refine ae (aa ?_)
 refine a6 (cs:=eE g A c) rfl rfl rfl (fun _=>rfl) fun p1=>?_
 refine aQ rfl rfl rfl (fun _=>rfl) fun p2=>?_
 refine af [] rfl ?_
 refine ae (aa ?_)
 (repeat' (first
  |refine aj ?_
  |refine ao (gs:=[999]) rfl ?_
  |refine ab [999] (ad 0 rfl rfl rfl rfl) rfl ?_
  |refine ab [999] (a7 rfl rfl rfl rfl rfl (by first|assumption|omega)) rfl ?_
  |refine ab [999] (OpV_arr (m:=0) rfl rfl rfl rfl rfl (by decide)) rfl ?_
  |refine ab [999] (OpV_arr (m:=1) rfl rfl rfl rfl rfl (by decide)) rfl ?_
  |refine ab [999] (OpV_dn 1 rfl rfl rfl rfl (by first|assumption|omega) (by first|assumption|omega)) rfl ?_
  |refine ab [999] (OpV_nd 1 rfl rfl rfl rfl rfl (by first|assumption|omega) rfl rfl) rfl ?_))
 refine ab [] (v:=.int .i64 g.left) (ad 1 rfl rfl rfl rfl) rfl ?_
 (repeat' (first
  |refine aj ?_
  |refine ao (gs:=[999]) rfl ?_
  |refine ab [999] (ad 0 rfl rfl rfl rfl) rfl ?_
  |refine ab [999] (a7 rfl rfl rfl rfl rfl (by first|assumption|omega)) rfl ?_
  |refine ab [999] (OpV_arr (m:=0) rfl rfl rfl rfl rfl (by decide)) rfl ?_
  |refine ab [999] (OpV_arr (m:=1) rfl rfl rfl rfl rfl (by decide)) rfl ?_
  |refine ab [999] (OpV_dn 1 rfl rfl rfl rfl (by first|assumption|omega) (by first|assumption|omega)) rfl ?_
  |refine ab [999] (OpV_nd 1 rfl rfl rfl rfl rfl (by first|assumption|omega) rfl rfl) rfl ?_))
 refine ab [] (v:=.int .i64 g.right) (ad 1 rfl rfl rfl rfl) rfl ?_
 refine ab [] (bg rfl rfl rfl rfl rfl rfl) rfl ?_
 refine aQ rfl rfl rfl (fun _=>rfl) fun p3=>?_
 refine aD 0 rfl rfl rfl rfl rfl [] rfl ?_
 refine aj ?_
 refine ae (ae (aa (af [] rfl ?_)))
 refine bO 55 2 ?_
 refine au ?_
 refine bM (σ:=Nat×(Option Addr×Nat)) (fun t=>[(4,.int .i64 (t.1:Int)),(3,.pointer (some ⟨p3,0,none⟩)),(2,.pointer (some ⟨p2,0,none⟩)),(1,.pointer (some ⟨p1,0,none⟩))])
  (fun t=>[blk p3 32 [.int .i64 g.left,.int .i64 g.right,.slice t.2.1 t.1 t.2.2],.own (.slice t.2.1 t.1 t.2.2) 55 2 t.1 (cd (g.edges.take t.1)),blk p2 32 [.int .i64 0,.int .i64 0,.slice none 0 0],blk p1 24 (eE g A c),.seg b o (cd g.edges)])
  (fun t=>t.1≤g.edges.length) (fun t=>g.edges.length-t.1) (0,(none,0)) ⟨rfl,rfl,rfl,rfl,trivial⟩ (aH.picks [1,0,2,3,4] (by decide) rfl) (Nat.zero_le _) ?_
 rintro⟨k,A1,c1⟩ hk
 simp only at hk ⊢
 refine ae (ae (aa ?_))
 (repeat' (first
  |refine aj ?_
  |refine ao (gs:=[999]) rfl ?_
  |refine ab [999] (ad 0 rfl rfl rfl rfl) rfl ?_
  |refine ab [999] (a7 rfl rfl rfl rfl rfl (by first|assumption|omega)) rfl ?_
  |refine ab [999] (OpV_arr (m:=0) rfl rfl rfl rfl rfl (by decide)) rfl ?_
  |refine ab [999] (OpV_arr (m:=1) rfl rfl rfl rfl rfl (by decide)) rfl ?_
  |refine ab [999] (OpV_dn 1 rfl rfl rfl rfl (by first|assumption|omega) (by first|assumption|omega)) rfl ?_
  |refine ab [999] (OpV_nd 1 rfl rfl rfl rfl rfl (by first|assumption|omega) rfl rfl) rfl ?_))
 refine ab [] (v:=.slice A g.edges.length c) (ad 3 rfl rfl rfl rfl) rfl ?_
 refine af [] rfl ?_
 refine aC rfl (fun hlt=>aq ?_) (fun hge=>aO ?_)
 ·have hkl:k<g.edges.length:=by omega
  obtain⟨e,he⟩:∃ e,g.edges[k]?=some e:=⟨g.edges[k],List.getElem?_eq_getElem hkl⟩
  obtain rfl:=hA (by intro h;rw[h] at hkl;simp at hkl)
  obtain⟨eg1,eg2⟩:=fw he
  refine ae (au ?_)
  refine bq 18 [(0,true),(1,true),(2,true),(3,true),(4,true),(5,true),(6,true),(7,true),(8,true),(9,true),(10,true),(11,true),(12,true),(13,true),(14,true),(15,false),(16,false),(17,true)] [0,3,4] (by kernel_rfl) (by decide) rfl ?_
  refine aL (gs:=[999]) rfl rfl ?_
  refine ai [] rfl (ad (v:=.slice A1 k c1) 0 rfl rfl rfl rfl) rfl ?_
  refine aL (gs:=[999]) rfl rfl ?_
  refine ai [] rfl (ad (v:=.slice (some ⟨b,o,none⟩) g.edges.length c) 1 rfl rfl rfl rfl) rfl ?_
  refine aL (gs:=[999]) rfl rfl ?_
  refine ai [] rfl (eH rfl rfl rfl rfl rfl hkl) rfl ?_
  refine aL (gs:=[999]) rfl rfl ?_
  refine ai [] rfl (aU (v:=.int .i64 e.l) 2 rfl rfl rfl rfl eg1) rfl ?_
  refine aL (gs:=[999]) rfl rfl ?_
  refine ai [] rfl (ad (v:=.slice (some ⟨b,o,none⟩) g.edges.length c) 1 rfl rfl rfl rfl) rfl ?_
  refine aL (gs:=[999]) rfl rfl ?_
  refine ai [] rfl (eH rfl rfl rfl rfl rfl hkl) rfl ?_
  refine aL (gs:=[999]) rfl rfl ?_
  refine ai [] rfl (aU (v:=.int .i64 e.r) 2 rfl rfl rfl rfl eg2) rfl ?_
  refine ai [] rfl (bg rfl rfl rfl rfl rfl rfl) rfl ?_
  refine bc rfl ?_
  refine b8 rfl rfl rfl rfl rfl rfl rfl (fun _=>rfl) fun g3=>?_
  refine aj ⟨⟨[1,4,5],by decide,rfl⟩,?_⟩
  refine bc rfl ?_
  refine a9 (n:=k) (m:=1) (off:=0) (news:=cd [e]) 2 0 rfl rfl rfl rfl rfl rfl (by decide) rfl rfl (aR g3 _ _ (0,0)) (fun _=>rfl) rfl rfl (by omega) (by omega) (fun _ _=>rfl) fun A4 c4=>?_
  refine aj ⟨⟨[1,4,5],by decide,rfl⟩,?_⟩
  refine aL (gs:=[999]) rfl rfl ?_
  refine bB ?_
  refine aD 1 rfl rfl rfl rfl rfl [] rfl ?_
  refine aj ?_
  refine aa (af [] rfl ?_)
  have t1:cd (g.edges.take k)++cd [e]=cd (g.edges.take (k+1)):=by rw[← tG,List.take_add_one,he];rfl
  refine⟨(k+1,(A4,c4)),⟨?_,rfl,rfl,rfl,trivial⟩,?_,hkl,by show g.edges.length-(k+1)<g.edges.length-k;omega⟩
  ·show some (Value.int .i64 (IntKind.i64.wrap ((k:Int)+1)))=_
   rw[bK (by omega)];rfl
  ·refine aH.trans (aH.sub (List.sublist_cons_self _ _)) ?_
   simp only[← t1]
   exact aH.refl
 obtain rfl:k=g.edges.length:=by omega
 rw[List.take_length]
 refine ae (aa ?_)
 refine ab [] (v:=jG g A1 c1) (ad 0 rfl rfl rfl rfl) rfl ?_
 refine aD 2 rfl rfl rfl rfl rfl [] rfl ?_
 refine aj ?_
 refine aB ?_
 exact⟨[_],[1],_,⟨⟨p2,2,_,_,rfl,rfl,rfl⟩,trivial⟩,by decide,rfl,A1,c1,rfl,rfl⟩
def wM (g:Gr) (v:Value) (H':Heap):Prop:=(cO g=0∧∃ (A':Option Addr) (c':Nat),v=.tuple #[bi (b5 g) A' c',.int .i64 0]∧H'=[.own (.slice A' (b5 g).arcs.length c') 112 3 (b5 g).arcs.length (arcs (b5 g).arcs)])∨
 (cO g≠0∧v=.tuple #[bi ⟨0,0,0,[]⟩ none 0,.int .i64 (cO g)]∧H'=[])
set_option maxHeartbeats 1000000 in
theorem uQ (g:Gr) (hg:g.Fits) (A:Option Addr) (c b o:Nat) (hA:g.edges≠[]→A=some ⟨b,o,none⟩):Fn 32 [jG g A c] [] [.seg b o (cd g.edges)] (wM g):=by
 refine em Tryz.func32 rfl rfl fun w0=>?_
 refine ae (aa ?_)
 refine a6 (cs:=eE g A c) rfl rfl rfl (fun _=>rfl) fun p1=>?_
 refine aQ rfl rfl rfl (fun _=>rfl) fun p2=>?_
 refine af [] rfl ?_
 refine ae (aa ?_)
 refine ab [] (v:=jG g A c) (ad 1 rfl rfl rfl rfl) rfl ?_
 refine ax [] (iv g hg A c b o hA) rfl rfl rfl rfl (by kernel_rfl) ⟨⟨2,_,by simp,rfl,ak _ _ _,ap⟩,trivial⟩ (fun _=>rfl) ?_
 rintro v H' ⟨rfl,rfl⟩
 refine⟨rfl,?_⟩
 refine af [] rfl ?_
 refine ae (ae (aa (af [] rfl ?_)))
 refine aC rfl (fun hz=>?_) (fun hz=>aq ?_)
 ·refine ae (aa ?_)
  refine ab [] (bg rfl rfl rfl rfl rfl rfl) rfl ?_
  (repeat' (first
   |refine aj ?_
   |refine ao (gs:=[999]) rfl ?_
   |refine ab [999] (ad 0 rfl rfl rfl rfl) rfl ?_
   |refine ab [999] (a7 rfl rfl rfl rfl rfl (by first|assumption|omega)) rfl ?_
   |refine ab [999] (OpV_arr (m:=0) rfl rfl rfl rfl rfl (by decide)) rfl ?_
   |refine ab [999] (OpV_arr (m:=1) rfl rfl rfl rfl rfl (by decide)) rfl ?_
   |refine ab [999] (OpV_dn 1 rfl rfl rfl rfl (by first|assumption|omega) (by first|assumption|omega)) rfl ?_
   |refine ab [999] (OpV_nd 1 rfl rfl rfl rfl rfl (by first|assumption|omega) rfl rfl) rfl ?_))
  refine aD 0 rfl rfl rfl rfl rfl [] rfl ?_
  refine af [] rfl ?_
  refine aB ?_
  exact⟨[_,_],[],_,⟨⟨p2,0,_,_,rfl,rfl,rfl⟩,rfl,trivial⟩,by decide,rfl,.inr ⟨hz,rfl,rfl⟩⟩
 have hz:cO g=0:=Classical.not_not.1 hz
 have hR:=(da hg).1 hz
 have h1:=hR.left
 have h2:=hR.right
 have h3:=hR.len
 obtain⟨nl,hnl⟩:∃ n:Nat,g.left=n:=⟨g.left.toNat,by omega⟩
 obtain⟨nr,hnr⟩:∃ n:Nat,g.right=n:=⟨g.right.toNat,by omega⟩
 obtain⟨L1,hL1⟩:∃ L1:Nat→List dQ,L1=fun k=>(List.range k).map fun (i:Nat)=>dQ.mk 1 (3+i) 1:=⟨_,rfl⟩
 obtain⟨L2,hL2⟩:∃ L2:Nat→List dQ,L2=fun k=>L1 nl++(g.edges.take k).map fun e=>dQ.mk (2+e.l) (2+g.left+e.r) 1:=⟨_,rfl⟩
 obtain⟨L3,hL3⟩:∃ L3:Nat→List dQ,L3=fun k=>L2 g.edges.length++(List.range k).map fun (i:Nat)=>dQ.mk (3+g.left+i) 2 1:=⟨_,rfl⟩
 have l1:∀ k,(L1 k).length=k:=fun k=>by rw[hL1];simp
 have l2:∀ k,k≤g.edges.length→(L2 k).length=nl+k:=fun k hk=>by rw[hL2];simp only[List.length_append,l1,List.length_map,List.length_take];omega
 have l3:∀ k,(L3 k).length=nl+g.edges.length+k:=fun k=>by rw[hL3];simp only[List.length_append,l2 _ (Nat.le_refl _),List.length_map,List.length_range]
 have s1:∀ k,L1 (k+1)=L1 k++[dQ.mk 1 (3+k) 1]:=fun k=>by rw[hL1];simp[List.range_succ]
 have s2:∀ k e,g.edges[k]?=some e→L2 (k+1)=L2 k++[dQ.mk (2+e.l) (2+g.left+e.r) 1]:=fun k e he=>by rw[hL2];simp only[List.take_add_one,he,List.map_append,List.append_assoc];rfl
 have s3:∀ k,L3 (k+1)=L3 k++[dQ.mk (3+g.left+k) 2 1]:=fun k=>by rw[hL3];simp[List.range_succ]
 have hfin:L3 nr=(b5 g).arcs:=by
  rw[hL3,hL2,hL1]
  show _=((List.range g.left.toNat).map _++g.edges.map _)++(List.range g.right.toNat).map _
  rw[hnl,hnr,Int.toNat_natCast,Int.toNat_natCast]
  simp only[List.take_length]
 refine ae (aa (ah [] rfl ?_))
 (first|refine ab [] (ad 0 rfl rfl rfl rfl) rfl ?_|refine ab [] (ad 1 rfl rfl rfl rfl) rfl ?_|refine ab [] (ad 2 rfl rfl rfl rfl) rfl ?_|refine ab [] (ad 3 rfl rfl rfl rfl) rfl ?_|refine ab [] (ad 4 rfl rfl rfl rfl) rfl ?_|refine ab [] (ad 5 rfl rfl rfl rfl) rfl ?_|refine ab [] (ad 6 rfl rfl rfl rfl) rfl ?_|refine ab [] (ad 7 rfl rfl rfl rfl) rfl ?_)
 refine ah [] rfl ?_
 (first|refine ab [] (ad 0 rfl rfl rfl rfl) rfl ?_|refine ab [] (ad 1 rfl rfl rfl rfl) rfl ?_|refine ab [] (ad 2 rfl rfl rfl rfl) rfl ?_|refine ab [] (ad 3 rfl rfl rfl rfl) rfl ?_|refine ab [] (ad 4 rfl rfl rfl rfl) rfl ?_|refine ab [] (ad 5 rfl rfl rfl rfl) rfl ?_|refine ab [] (ad 6 rfl rfl rfl rfl) rfl ?_|refine ab [] (ad 7 rfl rfl rfl rfl) rfl ?_)
 refine ah [] rfl ?_
 refine av 20 (v':=.int .i64 (2+g.left+g.right)) rfl (congrArg (Value.int .i64) (by rw[bK (n:=2+g.left) (by omega),bK (by omega)])) ?_
 refine ab [] (bg rfl rfl rfl rfl rfl rfl) rfl ?_
 refine aQ rfl rfl rfl (fun _=>rfl) fun p5=>?_
 refine aD 0 rfl rfl rfl rfl rfl [] rfl ?_
 refine aj ?_
 refine ae (ae (aa (af [] rfl ?_)))
 refine bO 112 3 ?_
 refine au ?_
 refine bu (σ:=Nat×Option Addr×Nat) (fun s=>[(6,.int .i64 (s.1+1)),(5,.pointer (some ⟨p5,0,none⟩)),(2,.pointer (some ⟨p2,0,none⟩)),(1,.pointer (some ⟨p1,0,none⟩))])
  (fun s=>[blk p5 50 [.int .i64 (2+g.left+g.right),.int .i64 1,.int .i64 2,.slice s.2.1 (L1 s.1).length s.2.2],.own (.slice s.2.1 (L1 s.1).length s.2.2) 112 3 (L1 s.1).length (arcs (L1 s.1)),blk p2 50 [.int .i64 0,.int .i64 0,.int .i64 0,.slice none 0 0],blk p1 32 (eE g A c),.seg b o (cd g.edges)])
  (fun s=>s.1≤nl) (fun s=>nl-s.1) (0,none,0) [1,0,2,3,4] ⟨rfl,rfl,rfl,rfl,trivial⟩ (by decide) (by rw[hL1];rfl) (Nat.zero_le _) ?_
 rintro⟨k,Ar,cr⟩ hk
 simp only at hk ⊢
 have hlk:=l1 k
 refine ae (ae (aa (ah [] rfl ?_)))
 (first|refine ab [] (ad 0 rfl rfl rfl rfl) rfl ?_|refine ab [] (ad 1 rfl rfl rfl rfl) rfl ?_|refine ab [] (ad 2 rfl rfl rfl rfl) rfl ?_|refine ab [] (ad 3 rfl rfl rfl rfl) rfl ?_|refine ab [] (ad 4 rfl rfl rfl rfl) rfl ?_|refine ab [] (ad 5 rfl rfl rfl rfl) rfl ?_|refine ab [] (ad 6 rfl rfl rfl rfl) rfl ?_|refine ab [] (ad 7 rfl rfl rfl rfl) rfl ?_)
 refine af [] rfl ?_
 refine aC rfl (fun hlt=>aq ?_) (fun hge=>aO ?_)
 ·refine ae (au ?_)
  refine aa (ah [] rfl ?_)
  refine ab [] (ad (v:=.slice Ar (L1 k).length cr) 0 rfl rfl rfl rfl) rfl ?_
  refine ah [] rfl ?_
  refine av 31 (v':=.int .i64 (3+k)) rfl (congrArg (Value.int .i64) ((bK (by omega)).trans (by omega))) ?_
  refine ab [] (bg rfl rfl rfl rfl rfl rfl) rfl ?_
  refine b8 rfl rfl rfl rfl rfl rfl rfl (fun _=>rfl) fun g3=>?_
  refine a9 (n:=(L1 k).length) (m:=1) (off:=0) (news:=arcs [dQ.mk 1 (3+k) 1]) 2 0 rfl rfl rfl rfl rfl rfl (by decide) rfl rfl (aR g3 _ _ (0,0)) (fun _=>rfl) rfl rfl (by omega) (by omega) (fun _ _=>rfl) fun A2 c2=>?_
  refine ah [] rfl ?_
  refine aD 1 rfl rfl rfl rfl rfl [] rfl ?_
  refine aj ?_
  refine aa (af [] rfl ?_)
  rw[← kg,show (L1 k).length+1=(L1 (k+1)).length by rw[s1];simp,← s1]
  exact⟨(k+1,A2,c2),[1,2,3,4,5],⟨congrArg some (congrArg (Value.int .i64) (bK (by omega))),rfl,rfl,rfl,trivial⟩,by decide,rfl,by simp only;omega,by simp only;omega⟩
 obtain rfl:k=nl:=by omega
 have hl20:L1 k=L2 0:=by rw[hL2];simp
 rw[hl20] at hlk ⊢
 refine ae (ae (aa (af [] rfl ?_)))
 refine au ?_
 refine bu (σ:=Nat×Option Addr×Nat) (fun s=>[(7,.int .i64 s.1),(5,.pointer (some ⟨p5,0,none⟩)),(2,.pointer (some ⟨p2,0,none⟩)),(1,.pointer (some ⟨p1,0,none⟩))])
  (fun s=>[blk p5 50 [.int .i64 (2+g.left+g.right),.int .i64 1,.int .i64 2,.slice s.2.1 (L2 s.1).length s.2.2],.own (.slice s.2.1 (L2 s.1).length s.2.2) 112 3 (L2 s.1).length (arcs (L2 s.1)),blk p2 50 [.int .i64 0,.int .i64 0,.int .i64 0,.slice none 0 0],blk p1 32 (eE g A c),.seg b o (cd g.edges)])
  (fun s=>s.1≤g.edges.length) (fun s=>g.edges.length-s.1) (0,Ar,cr) [0,1,2,3,4] ⟨rfl,rfl,rfl,rfl,trivial⟩ (by decide) rfl (Nat.zero_le _) ?_
 clear hlk hl20
 rintro⟨j,Ar,cr⟩ hj
 simp only at hj ⊢
 have hlj:=l2 j hj
 refine ae (ae (aa (ah [] rfl ?_)))
 refine ab [] (v:=.slice A g.edges.length c) (ad 3 rfl rfl rfl rfl) rfl ?_
 refine af [] rfl ?_
 refine aC rfl (fun hlt=>aq ?_) (fun hge=>aO ?_)
 ·have hlt:j<g.edges.length:=by omega
  obtain rfl:=hA (by intro h0;rw[h0] at hlt;simp at hlt)
  obtain⟨e,he⟩:∃ e,g.edges[j]?=some e:=⟨g.edges[j],List.getElem?_eq_getElem hlt⟩
  have her:=hR.edge e (List.mem_of_getElem? he)
  obtain⟨eg1,eg2⟩:=fw he
  refine ae (au ?_)
  refine bq 23 [(0,true),(1,true),(2,true),(3,true),(4,true),(5,true),(6,true),(7,true),(8,true),(9,true),(10,true),(11,true),(12,true),(13,true),(14,true),(15,true),(16,true),(17,true),(18,true),(19,true),(20,false),(21,false),(22,true)] [0,3,4] (by kernel_rfl) (by decide) rfl ?_
  (repeat' (first
   |refine aL (gs:=[999]) rfl rfl ?_
   |refine ai [999] rfl (ad (v:=.slice Ar (L2 j).length cr) 0 rfl rfl rfl rfl) rfl ?_
   |refine ai [999] rfl (ad (v:=.slice (some ⟨b,o,none⟩) g.edges.length c) 1 rfl rfl rfl rfl) rfl ?_
   |refine ai [999] rfl (ad (v:=.int .i64 g.left) 1 rfl rfl rfl rfl) rfl ?_
   |refine ai [999] rfl (eH rfl rfl rfl rfl rfl hlt) rfl ?_
   |refine ai [999] rfl (aU (v:=.int .i64 e.l) 2 rfl rfl rfl rfl eg1) rfl ?_
   |refine ai [999] rfl (aU (v:=.int .i64 e.r) 2 rfl rfl rfl rfl eg2) rfl ?_))
  refine bH 51 (v':=.int .i64 (2+e.l)) rfl (congrArg (Value.int .i64) (bK (by omega))) ?_
  refine bH 61 (v':=.int .i64 (2+g.left+e.r)) rfl (congrArg (Value.int .i64) (by rw[bK (n:=2+g.left) (by omega),bK (by omega)])) ?_
  refine ai [] rfl (bg rfl rfl rfl rfl rfl rfl) rfl ?_
  refine bc rfl ?_
  refine b8 rfl rfl rfl rfl rfl rfl rfl (fun _=>rfl) fun g3=>?_
  refine aj ⟨⟨[1,4,5],by decide,rfl⟩,?_⟩
  refine bc rfl ?_
  refine a9 (n:=(L2 j).length) (m:=1) (off:=0) (news:=arcs [dQ.mk (2+e.l) (2+g.left+e.r) 1]) 2 0 rfl rfl rfl rfl rfl rfl (by decide) rfl rfl (aR g3 _ _ (0,0)) (fun _=>rfl) rfl rfl (by omega) (by omega) (fun _ _=>rfl) fun A2 c2=>?_
  refine aj ⟨⟨[1,4,5],by decide,rfl⟩,?_⟩
  refine aL (gs:=[999]) rfl rfl ?_
  refine bB ?_
  refine aD 1 rfl rfl rfl rfl rfl [] rfl ?_
  refine aj ?_
  refine aa (af [] rfl ?_)
  rw[← kg,show (L2 j).length+1=(L2 (j+1)).length by rw[s2 j e he];simp,← s2 j e he]
  exact⟨(j+1,A2,c2),[1,2,3,4,5],⟨congrArg some (congrArg (Value.int .i64) (bK (by omega))),rfl,rfl,rfl,trivial⟩,by decide,rfl,by simp only;omega,by simp only;omega⟩
 obtain rfl:j=g.edges.length:=by omega
 have hl30:L2 g.edges.length=L3 0:=by rw[hL3];simp
 rw[hl30] at hlj ⊢
 refine ae (ae (aa (af [] rfl ?_)))
 refine au ?_
 refine bu (σ:=Nat×Option Addr×Nat) (fun s=>[(8,.int .i64 (s.1+1)),(5,.pointer (some ⟨p5,0,none⟩)),(2,.pointer (some ⟨p2,0,none⟩)),(1,.pointer (some ⟨p1,0,none⟩))])
  (fun s=>[blk p5 50 [.int .i64 (2+g.left+g.right),.int .i64 1,.int .i64 2,.slice s.2.1 (L3 s.1).length s.2.2],.own (.slice s.2.1 (L3 s.1).length s.2.2) 112 3 (L3 s.1).length (arcs (L3 s.1)),blk p2 50 [.int .i64 0,.int .i64 0,.int .i64 0,.slice none 0 0],blk p1 32 (eE g A c),.seg b o (cd g.edges)])
  (fun s=>s.1≤nr) (fun s=>nr-s.1) (0,Ar,cr) [0,1,2,3,4] ⟨rfl,rfl,rfl,rfl,trivial⟩ (by decide) rfl (Nat.zero_le _) ?_
 clear hlj hl30
 rintro⟨i,Ar,cr⟩ hi
 simp only at hi ⊢
 have hli:=l3 i
 refine ae (ae (aa (ah [] rfl ?_)))
 (first|refine ab [] (ad 0 rfl rfl rfl rfl) rfl ?_|refine ab [] (ad 1 rfl rfl rfl rfl) rfl ?_|refine ab [] (ad 2 rfl rfl rfl rfl) rfl ?_|refine ab [] (ad 3 rfl rfl rfl rfl) rfl ?_|refine ab [] (ad 4 rfl rfl rfl rfl) rfl ?_|refine ab [] (ad 5 rfl rfl rfl rfl) rfl ?_|refine ab [] (ad 6 rfl rfl rfl rfl) rfl ?_|refine ab [] (ad 7 rfl rfl rfl rfl) rfl ?_)
 refine af [] rfl ?_
 refine aC rfl (fun hlt=>aq ?_) (fun hge=>aO ?_)
 ·refine ae (au ?_)
  refine aa (ah [] rfl ?_)
  refine ab [] (ad (v:=.slice Ar (L3 i).length cr) 0 rfl rfl rfl rfl) rfl ?_
  refine ah [] rfl ?_
  refine ab [] (ad (v:=.int .i64 g.left) 3 rfl rfl rfl rfl) rfl ?_
  refine ah [] rfl ?_
  refine av 78 (v':=.int .i64 (3+g.left+i)) rfl (congrArg (Value.int .i64) (by rw[bK (n:=2+g.left) (by omega),bK (by omega)];omega)) ?_
  refine ab [] (bg rfl rfl rfl rfl rfl rfl) rfl ?_
  refine b8 rfl rfl rfl rfl rfl rfl rfl (fun _=>rfl) fun g3=>?_
  refine a9 (n:=(L3 i).length) (m:=1) (off:=0) (news:=arcs [dQ.mk (3+g.left+i) 2 1]) 2 0 rfl rfl rfl rfl rfl rfl (by decide) rfl rfl (aR g3 _ _ (0,0)) (fun _=>rfl) rfl rfl (by omega) (by omega) (fun _ _=>rfl) fun A2 c2=>?_
  refine ah [] rfl ?_
  refine aD 1 rfl rfl rfl rfl rfl [] rfl ?_
  refine aj ?_
  refine aa (af [] rfl ?_)
  rw[← kg,show (L3 i).length+1=(L3 (i+1)).length by rw[s3];simp,← s3]
  exact⟨(i+1,A2,c2),[1,2,3,4,5],⟨congrArg some (congrArg (Value.int .i64) (bK (by omega))),rfl,rfl,rfl,trivial⟩,by decide,rfl,by simp only;omega,by simp only;omega⟩
 obtain rfl:i=nr:=by omega
 rw[hfin]
 refine ae (aa ?_)
 refine ab [] (v:=bi (b5 g) Ar cr) (ad 0 rfl rfl rfl rfl) rfl ?_
 refine aD 2 rfl rfl rfl rfl rfl [] rfl ?_
 refine af [] rfl ?_
 refine aB ?_
 exact⟨[_,_],[1],_,⟨⟨p2,2,_,_,rfl,rfl,rfl⟩,rfl,trivial⟩,by decide,rfl,.inl ⟨hz,Ar,cr,rfl,rfl⟩⟩
theorem vd (g:Gr) (hg:g.Fits) (A:Option Addr) (c b o:Nat) (hA:g.edges≠[]→A=some ⟨b,o,none⟩):Fn 29 [j7 g A c] [] [.seg b o (cd g.edges)] (wM g):=by
 by_cases hz:cO g=0
 ·refine (rV g ((da hg).1 hz) A c b o hA).mono ?_
  rintro v H' ⟨A',c',rfl,rfl⟩
  exact .inl ⟨hz,A',c',rfl,rfl⟩
 refine em Tryz.func29 rfl rfl fun w0=>?_
 refine ae (aa ?_)
 refine a6 (cs:=eE g A c) rfl rfl rfl (fun _=>rfl) fun p1=>?_
 refine aQ rfl rfl rfl (fun _=>rfl) fun p2=>?_
 refine af [] rfl ?_
 refine ae (ae (aa ?_))
 refine ab [] (v:=j7 g A c) (ad 1 rfl rfl rfl rfl) rfl ?_
 refine ax [] (qp g hg A c b o hA) rfl rfl rfl rfl (by kernel_rfl) ⟨⟨2,_,by simp,rfl,ak _ _ _,ap⟩,trivial⟩ (fun _=>rfl) ?_
 rintro v H' ⟨rfl,rfl⟩
 refine⟨rfl,?_⟩
 refine af [] rfl ?_
 refine ae (aa (af [] rfl ?_))
 refine aC rfl (fun _=>?_) (fun h=>absurd hz h)
 refine ae (aa ?_)
 refine ab [] (bg rfl rfl rfl rfl rfl rfl) rfl ?_
 (repeat' (first
  |refine aj ?_
  |refine ao (gs:=[999]) rfl ?_
  |refine ab [999] (ad 0 rfl rfl rfl rfl) rfl ?_
  |refine ab [999] (a7 rfl rfl rfl rfl rfl (by first|assumption|omega)) rfl ?_
  |refine ab [999] (OpV_arr (m:=0) rfl rfl rfl rfl rfl (by decide)) rfl ?_
  |refine ab [999] (OpV_arr (m:=1) rfl rfl rfl rfl rfl (by decide)) rfl ?_
  |refine ab [999] (OpV_dn 1 rfl rfl rfl rfl (by first|assumption|omega) (by first|assumption|omega)) rfl ?_
  |refine ab [999] (OpV_nd 1 rfl rfl rfl rfl rfl (by first|assumption|omega) rfl rfl) rfl ?_))
 refine aD 0 rfl rfl rfl rfl rfl [] rfl ?_
 refine af [] rfl ?_
 refine aB ?_
 exact⟨[_,_],[],_,⟨⟨p2,0,_,_,rfl,rfl,rfl⟩,rfl,trivial⟩,by decide,rfl,.inr ⟨hz,rfl,rfl⟩⟩
end Go.Proofs.YtpbmihpjgjbndaaGreat
