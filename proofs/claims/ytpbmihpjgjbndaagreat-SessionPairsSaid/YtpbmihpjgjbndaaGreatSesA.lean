/- Graphs, and what is wrong with them: the program's word and the reference's. -/
import Derived.Test.YtpbmihpjgjbndaaGreatQX30
set_option linter.unusedVariables false
set_option linter.unusedSimpArgs false
namespace Go.Proofs.YtpbmihpjgjbndaaGreat
open Go.RowKit
structure Gr.Fits (g:Gr):Prop where
 left:dw g.left
 right:dw g.right
 len:g.edges.length≤1500
 edge:∀ e∈g.edges,dw e.l∧dw e.r
def tD (g:Gr) (e:fJ):Prop:=(1≤e.l∧e.l≤g.left)∧(1≤e.r∧e.r≤g.right)
open Classical in
noncomputable def cO (g:Gr):Int:=if ¬ ((1≤g.left∧g.left≤200)∧(1≤g.right∧g.right≤200)) then 3 else if ∀ e∈g.edges,tD g e then 0 else 4
theorem da {g:Gr} (h:g.Fits):cO g=0↔g.Right:=by
 unfold cO
 constructor
 ·intro hz
  split at hz
  ·exact absurd hz (by decide)
  ·rename_i h1
   have h1:=Classical.not_not.1 h1
   split at hz
   ·rename_i h2
    exact⟨h1.1,h1.2,h.len,h2⟩
   ·exact absurd hz (by decide)
 ·intro hR
  rw[if_neg (fun k=>k ⟨hR.left,hR.right⟩),if_pos (show ∀ e∈g.edges,tD g e from hR.edge)]
theorem ly {g:Gr} (h:¬ ((1≤g.left∧g.left≤200)∧(1≤g.right∧g.right≤200))):cO g=3:=by unfold cO;rw[if_pos h]
theorem lg {g:Gr} (h:(1≤g.left∧g.left≤200)∧(1≤g.right∧g.right≤200)) {e:fJ} (he:e∈g.edges) (hn:¬ tD g e):cO g=4:=by unfold cO;rw[if_neg (fun k=>k h),if_neg (fun k=>hn (k e he))]
theorem lu {g:Gr} (h:(1≤g.left∧g.left≤200)∧(1≤g.right∧g.right≤200)) (he:∀ e∈g.edges,tD g e):cO g=0:=by unfold cO;rw[if_neg (fun k=>k h),if_pos he]
theorem qp (g:Gr) (hg:g.Fits) (A:Option Addr) (c b o:Nat) (hA:g.edges≠[]→A=some ⟨b,o,none⟩):Fn 18 [j7 g A c] [] [.seg b o (cd g.edges)] fun v H'=>v=.int .i64 (cO g)∧H'=[]:=by
 have h3:=hg.len
 refine aM Tryz.func18 rfl rfl fun w0=>?_
 refine ae (aa ?_)
 refine a6 (cs:=eE g A c) rfl rfl rfl (fun _=>rfl) fun p=>?_
 refine af [] rfl ?_
 refine ae (au ?_)
 refine dg [(5,.bool (!cU ((1≤g.left∧g.left≤200)∧(1≤g.right∧g.right≤200)))),(1,.pointer (some ⟨p,0,none⟩))] [blk p 24 (eE g A c),.seg b o (cd g.edges)] ?_ ?_
 ·skip
  refine aa (ah [] rfl ?_)
  (first|refine ab [] (ad 0 rfl rfl rfl rfl) rfl ?_|refine ab [] (ad 1 rfl rfl rfl rfl) rfl ?_|refine ab [] (ad 2 rfl rfl rfl rfl) rfl ?_|refine ab [] (ad 3 rfl rfl rfl rfl) rfl ?_|refine ab [] (ad 4 rfl rfl rfl rfl) rfl ?_|refine ab [] (ad 5 rfl rfl rfl rfl) rfl ?_|refine ab [] (ad 6 rfl rfl rfl rfl) rfl ?_|refine ab [] (ad 7 rfl rfl rfl rfl) rfl ?_)
  refine ax [] (en g.left 200) rfl rfl rfl rfl (by kernel_rfl) trivial (fun _=>rfl) ?_
  rintro v H' ⟨rfl,rfl⟩
  refine⟨rfl,?_⟩
  refine ah [] rfl ?_
  by_cases h1:1≤g.left∧g.left≤200
  ·refine av 10 (v':=.bool false) rfl (congrArg Value.bool (by rw[az h1];rfl)) ?_
   refine ah [4] rfl ?_
   (first|refine ab [4] (ad 0 rfl rfl rfl rfl) rfl ?_|refine ab [4] (ad 1 rfl rfl rfl rfl) rfl ?_|refine ab [4] (ad 2 rfl rfl rfl rfl) rfl ?_|refine ab [4] (ad 3 rfl rfl rfl rfl) rfl ?_|refine ab [4] (ad 4 rfl rfl rfl rfl) rfl ?_|refine ab [4] (ad 5 rfl rfl rfl rfl) rfl ?_|refine ab [4] (ad 6 rfl rfl rfl rfl) rfl ?_|refine ab [4] (ad 7 rfl rfl rfl rfl) rfl ?_)
   refine ax [4] (en g.right 200) rfl rfl rfl rfl (by kernel_rfl) trivial (fun _=>rfl) ?_
   rintro v H' ⟨rfl,rfl⟩
   refine⟨rfl,?_⟩
   refine ah [4] rfl ?_
   refine aj ⟨[0,1],⟨?_,rfl,trivial⟩,by decide,rfl⟩
   show some (Value.bool (!cU _))=_
   rw[db (q:=(1≤g.left∧g.left≤200)∧(1≤g.right∧g.right≤200)) ⟨fun h=>⟨h1,h⟩,fun h=>h.2⟩]
  ·refine av 10 (v':=.bool true) rfl (congrArg Value.bool (by rw[aA h1];rfl)) ?_
   refine ah [4] rfl ?_
   refine aj ⟨[0,1],⟨?_,rfl,trivial⟩,by decide,rfl⟩
   show some (Value.bool true)=_
   rw[aA (fun h=>h1 h.1)]
   rfl
 by_cases hs:(1≤g.left∧g.left≤200)∧(1≤g.right∧g.right≤200)
 case neg=>
  refine aV 5 (v':=.bool true) rfl (congrArg Value.bool (by rw[aA hs];rfl)) ?_
  refine bz rfl ?_
  refine ae (aa (af [] rfl ?_))
  exact aE [] (by decide) rfl (aB ⟨_,rfl,by rw[ly hs];rfl,rfl⟩)
 refine aV 5 (v':=.bool false) rfl (congrArg Value.bool (by rw[az hs];rfl)) ?_
 refine bP rfl ?_
 refine ae (aa (ah [] rfl ?_))
 (first|refine ab [] (ad 0 rfl rfl rfl rfl) rfl ?_|refine ab [] (ad 1 rfl rfl rfl rfl) rfl ?_|refine ab [] (ad 2 rfl rfl rfl rfl) rfl ?_|refine ab [] (ad 3 rfl rfl rfl rfl) rfl ?_|refine ab [] (ad 4 rfl rfl rfl rfl) rfl ?_|refine ab [] (ad 5 rfl rfl rfl rfl) rfl ?_|refine ab [] (ad 6 rfl rfl rfl rfl) rfl ?_|refine ab [] (ad 7 rfl rfl rfl rfl) rfl ?_)
 refine af [] rfl ?_
 refine aC rfl (fun h=>absurd h (by omega)) (fun _=>aq ?_)
 refine ae (ae (aa (ah [] rfl ?_)))
 (first|refine ab [] (ad 0 rfl rfl rfl rfl) rfl ?_|refine ab [] (ad 1 rfl rfl rfl rfl) rfl ?_|refine ab [] (ad 2 rfl rfl rfl rfl) rfl ?_|refine ab [] (ad 3 rfl rfl rfl rfl) rfl ?_|refine ab [] (ad 4 rfl rfl rfl rfl) rfl ?_|refine ab [] (ad 5 rfl rfl rfl rfl) rfl ?_|refine ab [] (ad 6 rfl rfl rfl rfl) rfl ?_|refine ab [] (ad 7 rfl rfl rfl rfl) rfl ?_)
 refine af [] rfl ?_
 refine au ?_
 refine bu (σ:=Nat) (fun k=>[(24,.int .i64 k),(23,.int .i64 g.edges.length),(22,.slice A g.edges.length c),(1,.pointer (some ⟨p,0,none⟩))])
  (fun _=>[blk p 24 (eE g A c),.seg b o (cd g.edges)]) (fun k=>k≤g.edges.length∧∀ e∈g.edges.take k,tD g e) (fun k=>g.edges.length-k) 0 [0,1] ⟨rfl,rfl,rfl,rfl,trivial⟩ (by decide) rfl ⟨Nat.zero_le _,fun _ h=>absurd h (by simp)⟩ ?_
 rintro k ⟨hk,hI⟩
 refine ae (aa (af [] rfl ?_))
 refine ae (aC rfl (fun hlt=>aq ?_) (fun hge=>aO ?_))
 ·have hlt:k<g.edges.length:=by omega
  obtain rfl:=hA (by intro h0;rw[h0] at hlt;simp at hlt)
  obtain⟨e,he⟩:∃ e,g.edges[k]?=some e:=⟨g.edges[k],List.getElem?_eq_getElem hlt⟩
  refine ae (au ?_)
  refine ae (aa (ah [] rfl ?_))
  refine ab [] (eH rfl rfl rfl rfl rfl hlt) rfl ?_
  refine ab [] (aU 1 rfl rfl rfl rfl (eF he)) rfl ?_
  refine aQ rfl rfl rfl (fun _=>rfl) fun p4=>?_
  refine ah [] rfl ?_
  refine aD 0 rfl rfl rfl rfl rfl [] rfl ?_
  refine aj ?_
  refine dg [(41,.bool (!cU (tD g e))),(24,.int .i64 k),(23,.int .i64 g.edges.length),(22,.slice (some ⟨b,o,none⟩) g.edges.length c),(1,.pointer (some ⟨p,0,none⟩))] [blk p 24 (eE g (some ⟨b,o,none⟩) c),.seg b o (cd g.edges)] ?_ ?_
  ·skip
   refine aa (ah [] rfl ?_)
   (first|refine ab [] (ad 0 rfl rfl rfl rfl) rfl ?_|refine ab [] (ad 1 rfl rfl rfl rfl) rfl ?_|refine ab [] (ad 2 rfl rfl rfl rfl) rfl ?_|refine ab [] (ad 3 rfl rfl rfl rfl) rfl ?_|refine ab [] (ad 4 rfl rfl rfl rfl) rfl ?_|refine ab [] (ad 5 rfl rfl rfl rfl) rfl ?_|refine ab [] (ad 6 rfl rfl rfl rfl) rfl ?_|refine ab [] (ad 7 rfl rfl rfl rfl) rfl ?_)
   refine ah [] rfl ?_
   (first|refine ab [] (ad 0 rfl rfl rfl rfl) rfl ?_|refine ab [] (ad 1 rfl rfl rfl rfl) rfl ?_|refine ab [] (ad 2 rfl rfl rfl rfl) rfl ?_|refine ab [] (ad 3 rfl rfl rfl rfl) rfl ?_|refine ab [] (ad 4 rfl rfl rfl rfl) rfl ?_|refine ab [] (ad 5 rfl rfl rfl rfl) rfl ?_|refine ab [] (ad 6 rfl rfl rfl rfl) rfl ?_|refine ab [] (ad 7 rfl rfl rfl rfl) rfl ?_)
   refine ax [] (en e.l g.left) rfl rfl rfl rfl (by kernel_rfl) trivial (fun _=>rfl) ?_
   rintro v H' ⟨rfl,rfl⟩
   refine⟨rfl,?_⟩
   refine ah [] rfl ?_
   by_cases h1:1≤e.l∧e.l≤g.left
   ·refine av 34 (v':=.bool false) rfl (congrArg Value.bool (by rw[az h1];rfl)) ?_
    refine ah [6] rfl ?_
    (first|refine ab [6] (ad 0 rfl rfl rfl rfl) rfl ?_|refine ab [6] (ad 1 rfl rfl rfl rfl) rfl ?_|refine ab [6] (ad 2 rfl rfl rfl rfl) rfl ?_|refine ab [6] (ad 3 rfl rfl rfl rfl) rfl ?_|refine ab [6] (ad 4 rfl rfl rfl rfl) rfl ?_|refine ab [6] (ad 5 rfl rfl rfl rfl) rfl ?_|refine ab [6] (ad 6 rfl rfl rfl rfl) rfl ?_|refine ab [6] (ad 7 rfl rfl rfl rfl) rfl ?_)
    refine ah [6] rfl ?_
    (first|refine ab [6] (ad 0 rfl rfl rfl rfl) rfl ?_|refine ab [6] (ad 1 rfl rfl rfl rfl) rfl ?_|refine ab [6] (ad 2 rfl rfl rfl rfl) rfl ?_|refine ab [6] (ad 3 rfl rfl rfl rfl) rfl ?_|refine ab [6] (ad 4 rfl rfl rfl rfl) rfl ?_|refine ab [6] (ad 5 rfl rfl rfl rfl) rfl ?_|refine ab [6] (ad 6 rfl rfl rfl rfl) rfl ?_|refine ab [6] (ad 7 rfl rfl rfl rfl) rfl ?_)
    refine ax [6] (en e.r g.right) rfl rfl rfl rfl (by kernel_rfl) trivial (fun _=>rfl) ?_
    rintro v H' ⟨rfl,rfl⟩
    refine⟨rfl,?_⟩
    refine ah [6] rfl ?_
    refine aj ⟨[1,2],⟨?_,rfl,rfl,rfl,rfl,trivial⟩,by decide,rfl⟩
    show some (Value.bool (!cU _))=_
    rw[db (q:=tD g e) ⟨fun h=>⟨h1,h⟩,fun h=>h.2⟩]
   ·refine av 34 (v':=.bool true) rfl (congrArg Value.bool (by rw[aA h1];rfl)) ?_
    refine ah [6] rfl ?_
    refine aj ⟨[1,2],⟨?_,rfl,rfl,rfl,rfl,trivial⟩,by decide,rfl⟩
    show some (Value.bool true)=_
    rw[aA (fun h=>h1 h.1)]
    rfl
  by_cases hz:tD g e
  case neg=>
   refine aV 41 (v':=.bool true) rfl (congrArg Value.bool (by rw[aA hz];rfl)) ?_
   refine bz rfl ?_
   refine ae (aa (af [] rfl ?_))
   exact aE [] (by decide) rfl (aB ⟨_,rfl,by rw[lg hs (List.mem_of_getElem? he) hz];rfl,rfl⟩)
  refine aV 41 (v':=.bool false) rfl (congrArg Value.bool (by rw[az hz];rfl)) ?_
  refine bP rfl (aq ?_)
  refine aa (af [] rfl ?_)
  refine⟨k+1,[0,1],⟨?_,rfl,rfl,rfl,trivial⟩,by decide,rfl,⟨by omega,fun x hx=>?_⟩,by omega⟩
  ·show some (Value.int .i64 (IntKind.i64.wrap ((k:Int)+1)))=_
   rw[bK (by omega)];rfl
  ·rw[List.take_add_one,he] at hx
   rcases List.mem_append.1 hx with hx|hx
   ·exact hI x hx
   ·simp at hx;rw[hx];exact hz
 ·obtain rfl:k=g.edges.length:=by omega
  rw[List.take_length] at hI
  refine ae (aa (af [] rfl ?_))
  exact aE [] (by decide) rfl (aB ⟨_,rfl,by rw[lu hs hI];rfl,rfl⟩)
/-! ### The reference's graphs -/
def jG (g:Gr) (A:Option Addr) (c:Nat):Value:=.agg #[.int .i64 g.left,.int .i64 g.right,.slice A g.edges.length c]
theorem lZ {l:List fJ} {m:Nat} {a:fJ} (h:l[m]?=some a):eq 55 (cd l) (m*2)=some (.agg #[.int .i64 a.l,.int .i64 a.r]):=eF h
theorem iv (g:Gr) (hg:g.Fits) (A:Option Addr) (c b o:Nat) (hA:g.edges≠[]→A=some ⟨b,o,none⟩):Fn 6 [jG g A c] [] [.seg b o (cd g.edges)] fun v H'=>v=.int .i64 (cO g)∧H'=[]:=by
 have h3:=hg.len
 refine aM Tryz.func6 rfl rfl fun w0=>?_
 refine ae (aa ?_)
 refine a6 (cs:=eE g A c) rfl rfl rfl (fun _=>rfl) fun p=>?_
 refine af [] rfl ?_
 refine ae ?_
 refine dg [(22,.bool (!cU ((1≤g.left∧g.left≤200)∧(1≤g.right∧g.right≤200)))),(1,.pointer (some ⟨p,0,none⟩))] [blk p 32 (eE g A c),.seg b o (cd g.edges)] ?_ ?_
 ·skip
  refine aa (ah [] rfl ?_)
  (first|refine ab [] (ad 0 rfl rfl rfl rfl) rfl ?_|refine ab [] (ad 1 rfl rfl rfl rfl) rfl ?_|refine ab [] (ad 2 rfl rfl rfl rfl) rfl ?_|refine ab [] (ad 3 rfl rfl rfl rfl) rfl ?_|refine ab [] (ad 4 rfl rfl rfl rfl) rfl ?_|refine ab [] (ad 5 rfl rfl rfl rfl) rfl ?_|refine ab [] (ad 6 rfl rfl rfl rfl) rfl ?_|refine ab [] (ad 7 rfl rfl rfl rfl) rfl ?_)
  refine ah [] rfl ?_
  by_cases h1:g.left<1
  case pos=>
   refine av 8 (v':=.bool true) rfl (congrArg Value.bool (az h1)) ?_
   refine ah [3,8,13] rfl ?_
   refine aj ⟨[0,1],⟨?_,rfl,trivial⟩,by decide,rfl⟩
   show some (Value.bool true)=_
   rw[aA (fun h=>by omega)]
   rfl
  refine av 8 (v':=.bool false) rfl (congrArg Value.bool (aA h1)) ?_
  refine ah [3] rfl ?_
  (first|refine ab [3] (ad 0 rfl rfl rfl rfl) rfl ?_|refine ab [3] (ad 1 rfl rfl rfl rfl) rfl ?_|refine ab [3] (ad 2 rfl rfl rfl rfl) rfl ?_|refine ab [3] (ad 3 rfl rfl rfl rfl) rfl ?_|refine ab [3] (ad 4 rfl rfl rfl rfl) rfl ?_|refine ab [3] (ad 5 rfl rfl rfl rfl) rfl ?_|refine ab [3] (ad 6 rfl rfl rfl rfl) rfl ?_|refine ab [3] (ad 7 rfl rfl rfl rfl) rfl ?_)
  refine ah [3] rfl ?_
  by_cases h2:200<g.left
  case pos=>
   refine av 13 (v':=.bool true) rfl (congrArg Value.bool (az h2)) ?_
   refine ah [3,8,13] rfl ?_
   refine aj ⟨[0,1],⟨?_,rfl,trivial⟩,by decide,rfl⟩
   show some (Value.bool true)=_
   rw[aA (fun h=>by omega)]
   rfl
  refine av 13 (v':=.bool false) rfl (congrArg Value.bool (aA h2)) ?_
  refine ah [3,8] rfl ?_
  (first|refine ab [8] (ad 0 rfl rfl rfl rfl) rfl ?_|refine ab [8] (ad 1 rfl rfl rfl rfl) rfl ?_|refine ab [8] (ad 2 rfl rfl rfl rfl) rfl ?_|refine ab [8] (ad 3 rfl rfl rfl rfl) rfl ?_|refine ab [8] (ad 4 rfl rfl rfl rfl) rfl ?_|refine ab [8] (ad 5 rfl rfl rfl rfl) rfl ?_|refine ab [8] (ad 6 rfl rfl rfl rfl) rfl ?_|refine ab [8] (ad 7 rfl rfl rfl rfl) rfl ?_)
  refine ah [3,8] rfl ?_
  by_cases h3:g.right<1
  case pos=>
   refine av 18 (v':=.bool true) rfl (congrArg Value.bool (az h3)) ?_
   refine ah [3,8,13] rfl ?_
   refine aj ⟨[0,1],⟨?_,rfl,trivial⟩,by decide,rfl⟩
   show some (Value.bool true)=_
   rw[aA (fun h=>by omega)]
   rfl
  refine av 18 (v':=.bool false) rfl (congrArg Value.bool (aA h3)) ?_
  refine ah [3,8,13] rfl ?_
  (first|refine ab [13] (ad 0 rfl rfl rfl rfl) rfl ?_|refine ab [13] (ad 1 rfl rfl rfl rfl) rfl ?_|refine ab [13] (ad 2 rfl rfl rfl rfl) rfl ?_|refine ab [13] (ad 3 rfl rfl rfl rfl) rfl ?_|refine ab [13] (ad 4 rfl rfl rfl rfl) rfl ?_|refine ab [13] (ad 5 rfl rfl rfl rfl) rfl ?_|refine ab [13] (ad 6 rfl rfl rfl rfl) rfl ?_|refine ab [13] (ad 7 rfl rfl rfl rfl) rfl ?_)
  refine ah [3,8,13] rfl ?_
  refine aj ⟨[0,1],⟨?_,rfl,trivial⟩,by decide,rfl⟩
  show some (Value.bool (cU _))=_
  by_cases h4:200<g.right
  ·rw[az h4,aA (fun h=>by omega)];rfl
  ·rw[aA h4,az (by omega)];rfl
 by_cases hs:(1≤g.left∧g.left≤200)∧(1≤g.right∧g.right≤200)
 case neg=>
  refine aV 22 (v':=.bool true) rfl (congrArg Value.bool (by rw[aA hs];rfl)) ?_
  refine bz rfl ?_
  refine ae (aa (af [] rfl ?_))
  exact aE [] (by decide) rfl (aB ⟨_,rfl,by rw[ly hs];rfl,rfl⟩)
 refine aV 22 (v':=.bool false) rfl (congrArg Value.bool (by rw[az hs];rfl)) ?_
 refine bP rfl (aq ?_)
 refine ae (ae (aa (ah [] rfl ?_)))
 (first|refine ab [] (ad 0 rfl rfl rfl rfl) rfl ?_|refine ab [] (ad 1 rfl rfl rfl rfl) rfl ?_|refine ab [] (ad 2 rfl rfl rfl rfl) rfl ?_|refine ab [] (ad 3 rfl rfl rfl rfl) rfl ?_|refine ab [] (ad 4 rfl rfl rfl rfl) rfl ?_|refine ab [] (ad 5 rfl rfl rfl rfl) rfl ?_|refine ab [] (ad 6 rfl rfl rfl rfl) rfl ?_|refine ab [] (ad 7 rfl rfl rfl rfl) rfl ?_)
 refine af [] rfl ?_
 refine aC rfl (fun h=>absurd h (by omega)) (fun _=>aq ?_)
 refine ae (ae ?_)
 refine aa (af [] rfl ?_)
 refine au ?_
 refine bu (σ:=Nat) (fun k=>[(3,.int .i64 k),(1,.pointer (some ⟨p,0,none⟩))])
  (fun _=>[blk p 32 (eE g A c),.seg b o (cd g.edges)]) (fun k=>k≤g.edges.length∧∀ e∈g.edges.take k,tD g e) (fun k=>g.edges.length-k) 0 [0,1] ⟨rfl,rfl,trivial⟩ (by decide) rfl ⟨Nat.zero_le _,fun _ h=>absurd h (by simp)⟩ ?_
 rintro k ⟨hk,hI⟩
 refine ae (ae (aa (ah [] rfl ?_)))
 (first|refine ab [] (ad 0 rfl rfl rfl rfl) rfl ?_|refine ab [] (ad 1 rfl rfl rfl rfl) rfl ?_|refine ab [] (ad 2 rfl rfl rfl rfl) rfl ?_|refine ab [] (ad 3 rfl rfl rfl rfl) rfl ?_|refine ab [] (ad 4 rfl rfl rfl rfl) rfl ?_|refine ab [] (ad 5 rfl rfl rfl rfl) rfl ?_|refine ab [] (ad 6 rfl rfl rfl rfl) rfl ?_|refine ab [] (ad 7 rfl rfl rfl rfl) rfl ?_)
 refine af [] rfl ?_
 refine aC rfl (fun hlt=>aq ?_) (fun hge=>aO ?_)
 ·have hlt:k<g.edges.length:=by omega
  obtain rfl:=hA (by intro h0;rw[h0] at hlt;simp at hlt)
  obtain⟨e,he⟩:∃ e,g.edges[k]?=some e:=⟨g.edges[k],List.getElem?_eq_getElem hlt⟩
  refine ae (au ?_)
  refine ae (aa (ah [] rfl ?_))
  (first|refine ab [] (ad 0 rfl rfl rfl rfl) rfl ?_|refine ab [] (ad 1 rfl rfl rfl rfl) rfl ?_|refine ab [] (ad 2 rfl rfl rfl rfl) rfl ?_|refine ab [] (ad 3 rfl rfl rfl rfl) rfl ?_|refine ab [] (ad 4 rfl rfl rfl rfl) rfl ?_|refine ab [] (ad 5 rfl rfl rfl rfl) rfl ?_|refine ab [] (ad 6 rfl rfl rfl rfl) rfl ?_|refine ab [] (ad 7 rfl rfl rfl rfl) rfl ?_)
  refine ah [] rfl ?_
  refine ab [] (eH rfl rfl rfl rfl rfl hlt) rfl ?_
  refine ab [] (aU 1 rfl rfl rfl rfl (lZ he)) rfl ?_
  refine aQ rfl rfl rfl (fun _=>rfl) fun p4=>?_
  refine ah [] rfl ?_
  refine aD 0 rfl rfl rfl rfl rfl [] rfl ?_
  refine aj ?_
  refine dg [(60,.bool (!cU (tD g e))),(3,.int .i64 k),(1,.pointer (some ⟨p,0,none⟩))] [blk p 32 (eE g (some ⟨b,o,none⟩) c),.seg b o (cd g.edges)] ?_ ?_
  ·skip
   refine aa (ah [] rfl ?_)
   (first|refine ab [] (ad 0 rfl rfl rfl rfl) rfl ?_|refine ab [] (ad 1 rfl rfl rfl rfl) rfl ?_|refine ab [] (ad 2 rfl rfl rfl rfl) rfl ?_|refine ab [] (ad 3 rfl rfl rfl rfl) rfl ?_|refine ab [] (ad 4 rfl rfl rfl rfl) rfl ?_|refine ab [] (ad 5 rfl rfl rfl rfl) rfl ?_|refine ab [] (ad 6 rfl rfl rfl rfl) rfl ?_|refine ab [] (ad 7 rfl rfl rfl rfl) rfl ?_)
   refine ah [] rfl ?_
   by_cases h1:e.l<1
   case pos=>
    refine av 42 (v':=.bool true) rfl (congrArg Value.bool (az h1)) ?_
    refine ah [3,10,15] rfl ?_
    refine aj ⟨[1,2],⟨?_,rfl,rfl,trivial⟩,by decide,rfl⟩
    show some (Value.bool true)=_
    rw[aA (fun h=>by have:=h.1.1;omega)]
    rfl
   refine av 42 (v':=.bool false) rfl (congrArg Value.bool (aA h1)) ?_
   refine ah [3] rfl ?_
   (first|refine ab [3] (ad 0 rfl rfl rfl rfl) rfl ?_|refine ab [3] (ad 1 rfl rfl rfl rfl) rfl ?_|refine ab [3] (ad 2 rfl rfl rfl rfl) rfl ?_|refine ab [3] (ad 3 rfl rfl rfl rfl) rfl ?_|refine ab [3] (ad 4 rfl rfl rfl rfl) rfl ?_|refine ab [3] (ad 5 rfl rfl rfl rfl) rfl ?_|refine ab [3] (ad 6 rfl rfl rfl rfl) rfl ?_|refine ab [3] (ad 7 rfl rfl rfl rfl) rfl ?_)
   refine ah [3] rfl ?_
   (first|refine ab [3] (ad 0 rfl rfl rfl rfl) rfl ?_|refine ab [3] (ad 1 rfl rfl rfl rfl) rfl ?_|refine ab [3] (ad 2 rfl rfl rfl rfl) rfl ?_|refine ab [3] (ad 3 rfl rfl rfl rfl) rfl ?_|refine ab [3] (ad 4 rfl rfl rfl rfl) rfl ?_|refine ab [3] (ad 5 rfl rfl rfl rfl) rfl ?_|refine ab [3] (ad 6 rfl rfl rfl rfl) rfl ?_|refine ab [3] (ad 7 rfl rfl rfl rfl) rfl ?_)
   refine ah [3] rfl ?_
   by_cases h2:g.left<e.l
   case pos=>
    refine av 49 (v':=.bool true) rfl (congrArg Value.bool (az h2)) ?_
    refine ah [3,10,15] rfl ?_
    refine aj ⟨[1,2],⟨?_,rfl,rfl,trivial⟩,by decide,rfl⟩
    show some (Value.bool true)=_
    rw[aA (fun h=>by have:=h.1.2;omega)]
    rfl
   refine av 49 (v':=.bool false) rfl (congrArg Value.bool (aA h2)) ?_
   refine ah [3,10] rfl ?_
   (first|refine ab [10] (ad 0 rfl rfl rfl rfl) rfl ?_|refine ab [10] (ad 1 rfl rfl rfl rfl) rfl ?_|refine ab [10] (ad 2 rfl rfl rfl rfl) rfl ?_|refine ab [10] (ad 3 rfl rfl rfl rfl) rfl ?_|refine ab [10] (ad 4 rfl rfl rfl rfl) rfl ?_|refine ab [10] (ad 5 rfl rfl rfl rfl) rfl ?_|refine ab [10] (ad 6 rfl rfl rfl rfl) rfl ?_|refine ab [10] (ad 7 rfl rfl rfl rfl) rfl ?_)
   refine ah [3,10] rfl ?_
   by_cases h3:e.r<1
   case pos=>
    refine av 54 (v':=.bool true) rfl (congrArg Value.bool (az h3)) ?_
    refine ah [3,10,15] rfl ?_
    refine aj ⟨[1,2],⟨?_,rfl,rfl,trivial⟩,by decide,rfl⟩
    show some (Value.bool true)=_
    rw[aA (fun h=>by have:=h.2.1;omega)]
    rfl
   refine av 54 (v':=.bool false) rfl (congrArg Value.bool (aA h3)) ?_
   refine ah [3,10,15] rfl ?_
   (first|refine ab [15] (ad 0 rfl rfl rfl rfl) rfl ?_|refine ab [15] (ad 1 rfl rfl rfl rfl) rfl ?_|refine ab [15] (ad 2 rfl rfl rfl rfl) rfl ?_|refine ab [15] (ad 3 rfl rfl rfl rfl) rfl ?_|refine ab [15] (ad 4 rfl rfl rfl rfl) rfl ?_|refine ab [15] (ad 5 rfl rfl rfl rfl) rfl ?_|refine ab [15] (ad 6 rfl rfl rfl rfl) rfl ?_|refine ab [15] (ad 7 rfl rfl rfl rfl) rfl ?_)
   refine ah [3,10,15] rfl ?_
   (first|refine ab [15] (ad 0 rfl rfl rfl rfl) rfl ?_|refine ab [15] (ad 1 rfl rfl rfl rfl) rfl ?_|refine ab [15] (ad 2 rfl rfl rfl rfl) rfl ?_|refine ab [15] (ad 3 rfl rfl rfl rfl) rfl ?_|refine ab [15] (ad 4 rfl rfl rfl rfl) rfl ?_|refine ab [15] (ad 5 rfl rfl rfl rfl) rfl ?_|refine ab [15] (ad 6 rfl rfl rfl rfl) rfl ?_|refine ab [15] (ad 7 rfl rfl rfl rfl) rfl ?_)
   refine ah [3,10,15] rfl ?_
   refine aj ⟨[1,2],⟨?_,rfl,rfl,trivial⟩,by decide,rfl⟩
   show some (Value.bool (cU _))=_
   by_cases h4:g.right<e.r
   ·rw[az h4,aA (fun h=>by have:=h.2.2;omega)];rfl
   ·rw[aA h4,az (by unfold tD;omega)];rfl
  by_cases hz:tD g e
  case neg=>
   refine aV 60 (v':=.bool true) rfl (congrArg Value.bool (by rw[aA hz];rfl)) ?_
   refine bz rfl ?_
   refine ae (aa (af [] rfl ?_))
   exact aE [] (by decide) rfl (aB ⟨_,rfl,by rw[lg hs (List.mem_of_getElem? he) hz];rfl,rfl⟩)
  refine aV 60 (v':=.bool false) rfl (congrArg Value.bool (by rw[az hz];rfl)) ?_
  refine bP rfl (aq ?_)
  refine aa (af [] rfl ?_)
  refine⟨k+1,[0,1],⟨?_,rfl,trivial⟩,by decide,rfl,⟨by omega,fun x hx=>?_⟩,by omega⟩
  ·show some (Value.int .i64 (IntKind.i64.wrap ((k:Int)+1)))=_
   rw[bK (by omega)];rfl
  ·rw[List.take_add_one,he] at hx
   rcases List.mem_append.1 hx with hx|hx
   ·exact hI x hx
   ·simp at hx;rw[hx];exact hz
 ·obtain rfl:k=g.edges.length:=by omega
  rw[List.take_length] at hI
  refine ae (aa (af [] rfl ?_))
  exact aE [] (by decide) rfl (aB ⟨_,rfl,by rw[lu hs hI];rfl,rfl⟩)
end Go.Proofs.YtpbmihpjgjbndaaGreat
