/- The engine and the words that all chapters share: several texts in one. -/
import Derived.Test.YtpbmihpjgjbndaaGreatQF
import Derived.Test.YtpbmihpjgjbndaaGreatQB
import Derived.Test.YtpbmihpjgjbndaaGreatQX20
import Derived.Test.YtpbmihpjgjbndaaGreatQX31
/- Networks turned, and the greatest cut of a flow. -/
set_option linter.unusedVariables false
set_option linter.unusedSimpArgs false
namespace Go.Proofs.YtpbmihpjgjbndaaGreat
open Go.RowKit
end Go.Proofs.YtpbmihpjgjbndaaGreat
/- The least and the greatest cut of a flow that no track leads on, in plain terms. -/
set_option linter.unusedVariables false
set_option linter.unusedSimpArgs false
namespace Go.Proofs.YtpbmihpjgjbndaaGreat
open Go.RowKit
def oh (N:bt) (f:List Int) (s:List Int):Prop:=∀ r,r<2*N.arcs.length→1≤(aK (N.arcs.zip f)).getD r 0→(cL N r).1∈s→(cL N r).2∈s
theorem eC (l:List Bool) (is:Bool):∀ k,(be l is k).Pairwise (·<·)
 |0=>by simp[be]
 |k+1=>by
  rw[gE]
  split
  ·refine kj (eC l is k) fun x hx=>?_
   obtain⟨v,h1,_,_,rfl⟩:=dK.1 hx
   omega
  ·rw[List.append_nil];exact eC l is k
section
variable {N:bt} {f:List Int} {n:Nat} {l:List Bool}
theorem gU (hn:N.nodes=n) (hlr:∀ v:Nat,l[v]?=some true↔v≤n∧tj N (aK (N.arcs.zip f)) 1 v) {x:Int}:x∈be l true (n+1)↔1≤x∧x≤N.nodes∧tj N (aK (N.arcs.zip f)) 1 x:=by
 rw[dK]
 constructor
 ·rintro⟨v,h1,h2,h3,rfl⟩;exact⟨by omega,by omega,((hlr v).1 h3).2⟩
 ·rintro⟨h1,h2,h3⟩
  have e:((x.toNat:Nat):Int)=x:=by omega
  exact⟨x.toNat,by omega,by omega,(hlr _).2 ⟨by omega,by rw[e];exact h3⟩,e.symm⟩
theorem th (hR:N.Right) (hf:aT N f) (hn:N.nodes=n) (hno:¬ tj N (aK (N.arcs.zip f)) 1 N.snk) (hlr:∀ v:Nat,l[v]?=some true↔v≤n∧tj N (aK (N.arcs.zip f)) 1 v):wO N (be l true (n+1))∧oh N f (be l true (n+1)):=by
 have hsr:=hR.src
 refine⟨⟨eC _ _ _,fun x hx=>?_,(gU hn hlr).2 ⟨hsr.1,hsr.2,.src⟩,fun h=>hno ((gU hn hlr).1 h).2.2⟩,fun r hr h1 hin=>?_⟩
 ·have:=(gU hn hlr).1 hx;exact⟨this.1,this.2.1⟩
 ·have h2:=(gU hn hlr).1 hin
  have h3:=iP hR hr
  exact (gU hn hlr).2 ⟨h3.2.1,h3.2.2,.step _ r h2.2.2 (by rw[b7,List.length_zip,hf.len,Nat.min_self];exact hr) rfl h1⟩
end
theorem ru:∀ {l m:List Int},l.Pairwise (·<·)→m.Pairwise (·<·)→(∀ x,x∈l↔x∈m)→l=m
 |[],[],_,_,_=>rfl
 |[],y::m,_,_,h=>by have:=(h y).2 (by simp);simp at this
 |x::l,[],_,_,h=>by have:=(h x).1 (by simp);simp at this
 |x::l,y::m,hl,hm,h=>by
  obtain⟨l1,l2⟩:=List.pairwise_cons.1 hl
  obtain⟨m1,m2⟩:=List.pairwise_cons.1 hm
  have e:x=y:=by
   rcases List.mem_cons.1 ((h x).1 (by simp)) with e|e
   ·exact e
   ·rcases List.mem_cons.1 ((h y).2 (by simp)) with e2|e2
    ·exact e2.symm
    ·have:=m1 x e;have:=l1 y e2;omega
  subst e
  congr 1
  refine ru l2 m2 fun z=>⟨fun hz=>?_,fun hz=>?_⟩
  ·rcases List.mem_cons.1 ((h z).1 (by simp[hz])) with e|e
   ·have:=l1 z hz;omega
   ·exact e
  ·rcases List.mem_cons.1 ((h z).2 (by simp[hz])) with e|e
   ·have:=m1 z hz;omega
   ·exact e
theorem bt.Right.fits' {N:bt} (h:N.Right):N.Fits:=by
 have h1:=h.nodes
 have h2:=h.src
 have h3:=h.snk
 have h4:=h.len
 refine⟨by unfold dw;omega,by unfold dw;omega,by unfold dw;omega,by omega,fun a ha=>?_⟩
 have:=h.arc a ha
 have:=h.cap ha
 unfold dw
 omega
end Go.Proofs.YtpbmihpjgjbndaaGreat
/- Graphs of two sides, and their networks. -/
set_option linter.unusedVariables false
set_option linter.unusedSimpArgs false
namespace Go.Proofs.YtpbmihpjgjbndaaGreat
open Go.RowKit
structure fJ where
 l:Int
 r:Int
structure Gr where
 left:Int
 right:Int
 edges:List fJ
def cd (l:List fJ):List Value:=l.flatMap fun e=>[.int .i64 e.l,.int .i64 e.r]
theorem kJ (e:fJ) (l:List fJ):cd (e::l)=.int .i64 e.l::.int .i64 e.r::cd l:=by simp[cd]
theorem ja:∀ l:List fJ,(cd l).length=l.length*2
 |[]=>rfl
 |e::l=>by rw[kJ,List.length_cons,List.length_cons,ja l,List.length_cons];omega
theorem tG (l r:List fJ):cd (l++r)=cd l++cd r:=by simp[cd]
theorem fw:∀ {l:List fJ} {i:Nat} {x:fJ},l[i]?=some x→(cd l)[i*2]?=some (.int .i64 x.l)∧(cd l)[i*2+1]?=some (.int .i64 x.r)
 |[],i,x,h=>by simp at h
 |a::l,0,x,h=>by
  simp only[List.getElem?_cons_zero,Option.some.injEq] at h
  subst h;rw[kJ];exact⟨rfl,rfl⟩
 |a::l,i+1,x,h=>by
  have ih:=fw (l:=l) (i:=i) (x:=x) (by simpa using h)
  rw[kJ,show (i+1)*2=i*2+1+1 by omega]
  exact⟨ih.1,ih.2⟩
theorem eF {l:List fJ} {m:Nat} {a:fJ} (h:l[m]?=some a):eq 56 (cd l) (m*2)=some (.agg #[.int .i64 a.l,.int .i64 a.r]):=by
 obtain⟨h1,h2⟩:=fw h
 show (match dL (cd l) (m*2) 2 with|some l=>some (Value.agg l.toArray)|none=>none)=_
 have:dL (cd l) (m*2) 2=some [.int .i64 a.l,.int .i64 a.r]:=by
  unfold dL;rw[h1]
  unfold dL;rw[h2]
  unfold dL;rfl
 rw[this]
structure Gr.Right (g:Gr):Prop where
 left:1≤g.left∧g.left≤200
 right:1≤g.right∧g.right≤200
 len:g.edges.length≤1500
 edge:∀ e∈g.edges,(1≤e.l∧e.l≤g.left)∧(1≤e.r∧e.r≤g.right)
def j7 (g:Gr) (A:Option Addr) (c:Nat):Value:=.agg #[.int .i64 g.left,.int .i64 g.right,.slice A g.edges.length c]
def eE (g:Gr) (A:Option Addr) (c:Nat):List Value:=[.int .i64 g.left,.int .i64 g.right,.slice A g.edges.length c]
theorem en (v m:Int):Fn 36 [.int .i64 v,.int .i64 m] [] [] fun u H'=>u=.bool (cU (1≤v∧v≤m))∧H'=[]:=by
 refine aM Tryz.func36 rfl rfl fun w0=>?_
 refine ae (aa (af [] rfl ?_))
 refine ae (aa (ah [] rfl ?_))
 by_cases h:1≤v
 ·refine av 7 (v':=.bool true) rfl (congrArg Value.bool (az h)) ?_
  refine af [2] rfl ?_
  exact aB ⟨_,rfl,congrArg Value.bool (db ⟨fun k=>⟨h,k⟩,fun k=>k.2⟩),rfl⟩
 ·refine av 7 (v':=.bool false) rfl (congrArg Value.bool (aA h)) ?_
  refine af [2] rfl ?_
  exact aB ⟨_,rfl,congrArg Value.bool (aA (fun k=>h k.1)).symm,rfl⟩
theorem gR (g:Gr) (hg:g.Right) (A:Option Addr) (c b o:Nat) (hA:g.edges≠[]→A=some ⟨b,o,none⟩):Fn 18 [j7 g A c] [] [.seg b o (cd g.edges)] fun v H'=>v=.int .i64 0∧H'=[]:=by
 have h1:=hg.left
 have h2:=hg.right
 have h3:=hg.len
 refine aM Tryz.func18 rfl rfl fun w0=>?_
 refine ae (aa ?_)
 refine a6 (cs:=eE g A c) rfl rfl rfl (fun _=>rfl) fun p=>?_
 refine af [] rfl ?_
 refine ae (au (ae (aa (ah [] rfl ?_))))
 (first|refine ab [] (ad 0 rfl rfl rfl rfl) rfl ?_|refine ab [] (ad 1 rfl rfl rfl rfl) rfl ?_|refine ab [] (ad 2 rfl rfl rfl rfl) rfl ?_|refine ab [] (ad 3 rfl rfl rfl rfl) rfl ?_|refine ab [] (ad 4 rfl rfl rfl rfl) rfl ?_|refine ab [] (ad 5 rfl rfl rfl rfl) rfl ?_|refine ab [] (ad 6 rfl rfl rfl rfl) rfl ?_|refine ab [] (ad 7 rfl rfl rfl rfl) rfl ?_)
 refine ax [] (en g.left 200) rfl rfl rfl rfl (by kernel_rfl) trivial (fun _=>rfl) ?_
 rintro v H' ⟨rfl,rfl⟩
 refine⟨rfl,?_⟩
 refine ah [] rfl ?_
 refine av 10 (v':=.bool false) rfl (congrArg Value.bool (by rw[az h1];rfl)) ?_
 refine ah [4] rfl ?_
 (first|refine ab [4] (ad 0 rfl rfl rfl rfl) rfl ?_|refine ab [4] (ad 1 rfl rfl rfl rfl) rfl ?_|refine ab [4] (ad 2 rfl rfl rfl rfl) rfl ?_|refine ab [4] (ad 3 rfl rfl rfl rfl) rfl ?_|refine ab [4] (ad 4 rfl rfl rfl rfl) rfl ?_|refine ab [4] (ad 5 rfl rfl rfl rfl) rfl ?_|refine ab [4] (ad 6 rfl rfl rfl rfl) rfl ?_|refine ab [4] (ad 7 rfl rfl rfl rfl) rfl ?_)
 refine ax [4] (en g.right 200) rfl rfl rfl rfl (by kernel_rfl) trivial (fun _=>rfl) ?_
 rintro v H' ⟨rfl,rfl⟩
 refine⟨rfl,?_⟩
 refine ah [4] rfl ?_
 refine av 5 (v':=.bool false) rfl (congrArg Value.bool (by rw[az h2];rfl)) ?_
 refine aj ?_
 refine bP rfl ?_
 refine ae (aa (ah [] rfl ?_))
 (first|refine ab [] (ad 0 rfl rfl rfl rfl) rfl ?_|refine ab [] (ad 1 rfl rfl rfl rfl) rfl ?_|refine ab [] (ad 2 rfl rfl rfl rfl) rfl ?_|refine ab [] (ad 3 rfl rfl rfl rfl) rfl ?_|refine ab [] (ad 4 rfl rfl rfl rfl) rfl ?_|refine ab [] (ad 5 rfl rfl rfl rfl) rfl ?_|refine ab [] (ad 6 rfl rfl rfl rfl) rfl ?_|refine ab [] (ad 7 rfl rfl rfl rfl) rfl ?_)
 refine af [] rfl ?_
 refine aC rfl (fun h=>absurd h (by omega)) (fun _=>aq ?_)
 refine ae (ae (aa (ah [] rfl ?_)))
 (first|refine ab [] (ad 0 rfl rfl rfl rfl) rfl ?_|refine ab [] (ad 1 rfl rfl rfl rfl) rfl ?_|refine ab [] (ad 2 rfl rfl rfl rfl) rfl ?_|refine ab [] (ad 3 rfl rfl rfl rfl) rfl ?_|refine ab [] (ad 4 rfl rfl rfl rfl) rfl ?_|refine ab [] (ad 5 rfl rfl rfl rfl) rfl ?_|refine ab [] (ad 6 rfl rfl rfl rfl) rfl ?_|refine ab [] (ad 7 rfl rfl rfl rfl) rfl ?_)
 refine af [] rfl ?_
 refine au ?_
 refine bu (σ:=Nat) (fun k=>[(24,.int .i64 k),(23,.int .i64 g.edges.length),(22,.slice A g.edges.length c),(1,.pointer (some ⟨p,0,none⟩))])
  (fun _=>[blk p 24 (eE g A c),.seg b o (cd g.edges)]) (fun k=>k≤g.edges.length) (fun k=>g.edges.length-k) 0 [0,1] ⟨rfl,rfl,rfl,rfl,trivial⟩ (by decide) rfl (Nat.zero_le _) ?_
 intro k hk
 refine ae (aa (af [] rfl ?_))
 refine ae (aC rfl (fun hlt=>aq ?_) (fun hge=>aO ?_))
 ·have hlt:k<g.edges.length:=by omega
  obtain rfl:=hA (by intro h0;rw[h0] at hlt;simp at hlt)
  obtain⟨e,he⟩:∃ e,g.edges[k]?=some e:=⟨g.edges[k],List.getElem?_eq_getElem hlt⟩
  have her:=hg.edge e (List.mem_of_getElem? he)
  refine ae (au ?_)
  refine ae (aa (ah [] rfl ?_))
  refine ab [] (eH rfl rfl rfl rfl rfl hlt) rfl ?_
  refine ab [] (aU 1 rfl rfl rfl rfl (eF he)) rfl ?_
  refine aQ rfl rfl rfl (fun _=>rfl) fun p4=>?_
  refine ah [] rfl ?_
  refine aD 0 rfl rfl rfl rfl rfl [] rfl ?_
  refine aj ?_
  refine ae (aa (ah [] rfl ?_))
  (first|refine ab [] (ad 0 rfl rfl rfl rfl) rfl ?_|refine ab [] (ad 1 rfl rfl rfl rfl) rfl ?_|refine ab [] (ad 2 rfl rfl rfl rfl) rfl ?_|refine ab [] (ad 3 rfl rfl rfl rfl) rfl ?_|refine ab [] (ad 4 rfl rfl rfl rfl) rfl ?_|refine ab [] (ad 5 rfl rfl rfl rfl) rfl ?_|refine ab [] (ad 6 rfl rfl rfl rfl) rfl ?_|refine ab [] (ad 7 rfl rfl rfl rfl) rfl ?_)
  refine ah [] rfl ?_
  (first|refine ab [] (ad 0 rfl rfl rfl rfl) rfl ?_|refine ab [] (ad 1 rfl rfl rfl rfl) rfl ?_|refine ab [] (ad 2 rfl rfl rfl rfl) rfl ?_|refine ab [] (ad 3 rfl rfl rfl rfl) rfl ?_|refine ab [] (ad 4 rfl rfl rfl rfl) rfl ?_|refine ab [] (ad 5 rfl rfl rfl rfl) rfl ?_|refine ab [] (ad 6 rfl rfl rfl rfl) rfl ?_|refine ab [] (ad 7 rfl rfl rfl rfl) rfl ?_)
  refine ax [] (en e.l g.left) rfl rfl rfl rfl (by kernel_rfl) trivial (fun _=>rfl) ?_
  rintro v H' ⟨rfl,rfl⟩
  refine⟨rfl,?_⟩
  refine ah [] rfl ?_
  refine av 34 (v':=.bool false) rfl (congrArg Value.bool (by rw[az her.1];rfl)) ?_
  refine ah [6] rfl ?_
  (first|refine ab [6] (ad 0 rfl rfl rfl rfl) rfl ?_|refine ab [6] (ad 1 rfl rfl rfl rfl) rfl ?_|refine ab [6] (ad 2 rfl rfl rfl rfl) rfl ?_|refine ab [6] (ad 3 rfl rfl rfl rfl) rfl ?_|refine ab [6] (ad 4 rfl rfl rfl rfl) rfl ?_|refine ab [6] (ad 5 rfl rfl rfl rfl) rfl ?_|refine ab [6] (ad 6 rfl rfl rfl rfl) rfl ?_|refine ab [6] (ad 7 rfl rfl rfl rfl) rfl ?_)
  refine ah [6] rfl ?_
  (first|refine ab [6] (ad 0 rfl rfl rfl rfl) rfl ?_|refine ab [6] (ad 1 rfl rfl rfl rfl) rfl ?_|refine ab [6] (ad 2 rfl rfl rfl rfl) rfl ?_|refine ab [6] (ad 3 rfl rfl rfl rfl) rfl ?_|refine ab [6] (ad 4 rfl rfl rfl rfl) rfl ?_|refine ab [6] (ad 5 rfl rfl rfl rfl) rfl ?_|refine ab [6] (ad 6 rfl rfl rfl rfl) rfl ?_|refine ab [6] (ad 7 rfl rfl rfl rfl) rfl ?_)
  refine ax [6] (en e.r g.right) rfl rfl rfl rfl (by kernel_rfl) trivial (fun _=>rfl) ?_
  rintro v H' ⟨rfl,rfl⟩
  refine⟨rfl,?_⟩
  refine ah [6] rfl ?_
  refine av 41 (v':=.bool false) rfl (congrArg Value.bool (by rw[az her.2];rfl)) ?_
  refine aj ?_
  refine bP rfl (aq ?_)
  refine aa (af [] rfl ?_)
  refine⟨k+1,[1,2],⟨?_,rfl,rfl,rfl,trivial⟩,by decide,rfl,by omega,by omega⟩
  show some (Value.int .i64 (IntKind.i64.wrap ((k:Int)+1)))=_
  rw[bK (by omega)];rfl
 ·refine ae (aa (af [] rfl ?_))
  exact aE [] (by decide) rfl (aB ⟨_,rfl,rfl,rfl⟩)
def b5 (g:Gr):bt:=⟨2+g.left+g.right,1,2,((List.range g.left.toNat).map fun (i:Nat)=>(⟨1,3+i,1⟩:dQ))++(g.edges.map fun e=>(⟨2+e.l,2+g.left+e.r,1⟩:dQ))++((List.range g.right.toNat).map fun (i:Nat)=>(⟨3+g.left+i,2,1⟩:dQ))⟩
theorem kI {α:Type} (f:α→dQ) (h:∀ x,(f x).cap=1):∀ l:List α,((l.map f).map (·.cap)).sum=l.length
 |[]=>rfl
 |x::l=>by simp only[List.map_cons,List.sum_cons,kI f h l,h,List.length_cons];omega
theorem iS (g:Gr):(b5 g).arcs.length=g.left.toNat+g.edges.length+g.right.toNat:=by simp[b5];omega
theorem oH {g:Gr}:∀ a∈(b5 g).arcs,a.cap=1:=by
 intro a ha
 rcases List.mem_append.1 ha with ha|ha
 ·rcases List.mem_append.1 ha with ha|ha
  ·obtain⟨i,_,rfl⟩:=List.mem_map.1 ha;rfl
  ·obtain⟨e,_,rfl⟩:=List.mem_map.1 ha;rfl
 ·obtain⟨i,_,rfl⟩:=List.mem_map.1 ha;rfl
theorem fU {g:Gr} (hg:g.Right):(b5 g).Right:=by
 have h1:=hg.left
 have h2:=hg.right
 have h3:=hg.len
 have hl:=iS g
 refine⟨by show 2≤2+g.left+g.right∧2+g.left+g.right≤500;omega,by show 1≤1∧1≤2+g.left+g.right;omega,by show 1≤2∧2≤2+g.left+g.right;omega,by show (1:Int)≠2;decide,by omega,fun a ha=>?_,?_⟩
 ·show (1≤a.fr∧a.fr≤2+g.left+g.right)∧(1≤a.to∧a.to≤2+g.left+g.right)∧0≤a.cap
  rcases List.mem_append.1 ha with ha|ha
  ·rcases List.mem_append.1 ha with ha|ha
   ·obtain⟨i,hi,rfl⟩:=List.mem_map.1 ha
    have:=List.mem_range.1 hi
    simp only;omega
   ·obtain⟨e,he,rfl⟩:=List.mem_map.1 ha
    have:=hg.edge e he
    simp only;omega
  ·obtain⟨i,hi,rfl⟩:=List.mem_map.1 ha
   have:=List.mem_range.1 hi
   simp only;omega
 ·have:((b5 g).arcs.map (·.cap)).sum=(b5 g).arcs.length:=by
   show ((_++_++_:List dQ).map (·.cap)).sum=_
   rw[List.map_append,List.map_append,List.sum_append,List.sum_append,kI _ (fun _=>rfl),kI _ (fun _=>rfl),kI _ (fun _=>rfl),iS]
   simp
  rw[this];omega
end Go.Proofs.YtpbmihpjgjbndaaGreat
