/- SessionPairs: the pairs of a graph, and their cover, or what is wrong, are as the document's. No condition but what the row lists. -/
import Derived.Test.YtpbmihpjgjbndaaGreatQX13
set_option linter.unusedVariables false
set_option linter.unusedSimpArgs false
namespace Go.Proofs.YtpbmihpjgjbndaaGreat
open Go.RowKit
theorem oL {l:List fJ} {A B:Option Addr} (h:cd l≠[]→A=B) (hl:l≠[]):A=B:=h fun h0=>hl (List.length_eq_zero_iff.1 (by have:=ja l;rw[h0] at this;simp at this;omega))
theorem iU (A:Option Addr) (c b o:Nat) (l:List Int) (hA:l≠[]→A=some ⟨b,o,none⟩) (hl:l.length≤100000) (A2:Option Addr) (c2 b2 o2:Nat) (hA2:l≠[]→A2=some ⟨b2,o2,none⟩):
 Fn 10 [.slice A l.length c,.slice A2 l.length c2] [] [.seg b o (aw l),.seg b2 o2 (aw l)] fun u H'=>u=.bool true∧H'=[]:=by
 refine aM Tryz.func10 rfl rfl fun w0=>?_
 refine ae (aa (af [] rfl ?_))
 refine ae (ae (aa (af [] rfl ?_)))
 refine aC rfl (fun h=>absurd rfl h) (fun _=>aq ?_)
 refine ae (ae (aa (af [] rfl ?_)))
 refine au ?_
 refine bu (σ:=Nat) (fun k=>[(5,.int .i64 k),(0,.slice A l.length c),(1,.slice A2 l.length c2)]) (fun k=>[.seg b o (aw l),.seg b2 o2 (aw l)]) (fun k=>k≤l.length) (fun k=>l.length-k)
  0 [0,1] ⟨rfl,rfl,rfl,trivial⟩ (by decide) rfl (Nat.zero_le _) ?_
 intro k hk
 refine ae (ae (aa (af [] rfl ?_)))
 refine aC rfl (fun hlt=>aq ?_) (fun hge=>aO ?_)
 ·have hlt:k<l.length:=by omega
  have hne:l≠[]:=by rintro rfl;simp at hlt
  obtain rfl:=hA hne
  obtain rfl:=hA2 hne
  obtain⟨x,hx⟩:∃ x,l[k]?=some x:=⟨l[k],List.getElem?_eq_getElem hlt⟩
  refine ae (au ?_)
  refine ae ?_
  refine bq 9 [(0,true),(1,true),(2,true),(3,true),(4,true),(5,true),(6,true),(7,true),(8,true)] [0,1] (by kernel_rfl) (by decide) rfl ?_
  refine aJ [] rfl ?_
  refine ai [] rfl (cW rfl rfl rfl rfl rfl hlt) rfl ?_
  refine ai [] rfl (aU 0 rfl rfl rfl rfl (aN hx)) rfl ?_
  refine aJ [] rfl ?_
  refine ai [] rfl (cW rfl rfl rfl rfl rfl hlt) rfl ?_
  refine ai [] rfl (aU 1 rfl rfl rfl rfl (aN hx)) rfl ?_
  refine cA [] rfl ?_
  refine aj ?_
  refine aC rfl (fun h=>absurd rfl h) (fun _=>aq ?_)
  refine aa (af [] rfl ?_)
  refine⟨k+1,[0,1],⟨?_,rfl,rfl,trivial⟩,by decide,rfl,by omega,by omega⟩
  show some (Value.int .i64 (IntKind.i64.wrap ((k:Int)+1)))=_
  rw[bK (by omega)];rfl
 ·refine ae (aa (af [] rfl ?_))
  exact aE [] (by decide) rfl (aB ⟨_,rfl,rfl,rfl⟩)
set_option maxHeartbeats 2000000 in
theorem sessionPairs_fn (x:Int) (hx:dw x) (y:Int) (hy:dw y) (A:Option Addr) (c b o:Nat) (l:List fJ) (hA:l≠[]→A=some ⟨b,o,none⟩) (hl:∀ a∈l,dw a.l∧dw a.r) (hs:l.length*16≤140737488351232) (sg:Int):
 Fn 3 [.agg #[.int .i64 x,.int .i64 y,.slice A l.length c],.int .u8 sg] [] [.seg b o (cd l)] fun v _=>v=.bool true:=by
 obtain⟨g,hg⟩:∃ g:Gr,g=⟨x,y,l⟩:=⟨_,rfl⟩
 have hgv:Value.agg #[.int .i64 x,.int .i64 y,.slice A l.length c]=j7 g A c:=by rw[hg];rfl
 have hge:g.edges=l:=by rw[hg]
 rw[hgv,← hge]
 rw[← hge] at hA hl hs
 have hgl:dw g.left:=by rw[hg];exact hx
 have hgr:dw g.right:=by rw[hg];exact hy
 clear hg hgv hge
 refine aM Tryz.func3 rfl rfl fun w0=>?_
 refine ae (aa ?_)
 refine a6 (cs:=eE g A c) rfl rfl rfl (fun _=>rfl) fun p2=>?_
 refine af [] rfl ?_
 refine ae (aa (ah [] rfl ?_))
 refine ax [] rd rfl rfl rfl rfl (by kernel_rfl) trivial (fun _=>rfl) ?_
 rintro v H' ⟨rfl,rfl⟩
 refine⟨rfl,?_⟩
 refine af [] rfl ?_
 refine ae (aa (ah [] rfl ?_))
 refine ax [] rB rfl rfl rfl rfl (by kernel_rfl) trivial (fun _=>rfl) ?_
 rintro v H' ⟨p,rfl,rfl⟩
 refine⟨rfl,?_⟩
 refine af [] rfl ?_
 refine ae ?_
 obtain⟨q,hq⟩:∃ q:Bool,q=cU (60<g.edges.length∨cO g=0∧40<g.left+g.right):=⟨_,rfl⟩
 refine dg [(40,.bool q),(6,.pointer (some ⟨p,0,none⟩)),(5,.bool true),(2,.pointer (some ⟨p2,0,none⟩)),(1,.int .u8 sg)] [blk p2 24 (eE g A c),.seg b o (cd g.edges),blk p 53 tZ.cells] ?_ ?_
 ·skip
  refine aa (ah [] rfl ?_)
  refine ah [2] rfl ?_
  refine ab [2] (v:=.bool false) (pT rfl rfl rfl (by kernel_rfl)) rfl ?_
  refine ah [2,6] rfl ?_
  refine ab [2,6] (v:=.slice A g.edges.length c) (ad 1 rfl rfl rfl rfl) rfl ?_
  refine ah [2,6] rfl ?_
  by_cases h1:60<g.edges.length
  ·refine av 27 (v':=.bool true) rfl (congrArg Value.bool (az (by omega))) ?_
   refine ah [2,6,12,17] rfl ?_
   refine aj ⟨[1,2,0],⟨?_,rfl,rfl,rfl,rfl,trivial⟩,by decide,rfl⟩
   exact congrArg (fun z=>some (Value.bool z)) (hq.trans (az (.inl h1))).symm
  have hF:g.Fits:=⟨hgl,hgr,by omega,hl⟩
  refine av 27 (v':=.bool false) rfl (congrArg Value.bool (aA (by omega))) ?_
  refine ah [2,6,12] rfl ?_
  refine ab [2,6,12] (v:=j7 g A c) (ad 1 rfl rfl rfl rfl) rfl ?_
  refine ax [2,6,12] (mD g (by omega) A c b o hA) rfl rfl rfl rfl (by kernel_rfl) ⟨⟨2,_,by simp,rfl,ak _ _ _,ap⟩,trivial⟩ (fun _=>rfl) ?_
  rintro v H' ⟨A1,c1,rfl,rfl⟩
  refine⟨rfl,?_⟩
  refine fG (bp 0 rfl) fun ⟨_,_,hA1,hl1⟩=>?_
  obtain⟨g1,hA1⟩:=bQ hA1 hl1
  refine ax [2,6,12] (iv g hF A1 c1 g1 0 (oL hA1)) rfl rfl rfl rfl (by kernel_rfl) ⟨⟨0,_,by simp,rfl,aS hA1,aZ hA1⟩,trivial⟩ (fun _=>rfl) ?_
  rintro v H' ⟨rfl,rfl⟩
  refine⟨rfl,?_⟩
  refine ah [2,6,12] rfl ?_
  by_cases h2:cO g=0
  ·refine av 32 (v':=.bool true) rfl (congrArg Value.bool (az h2)) ?_
   refine ah [2,6,12,17] rfl ?_
   refine ab [2,6,12,17] (v:=.int .i64 g.left) (ad 2 rfl rfl rfl rfl) rfl ?_
   refine ah [2,6,12,17] rfl ?_
   refine ab [2,6,12,17] (v:=.int .i64 g.right) (ad 2 rfl rfl rfl rfl) rfl ?_
   refine ah [2,6,12,17] rfl ?_
   refine aj ⟨[2,3,1],⟨?_,rfl,rfl,rfl,rfl,trivial⟩,by decide,rfl⟩
   have hR:=(da hF).1 h2
   have a1:=hR.left
   have a2:=hR.right
   rw[hq]
   show some (Value.bool (cU (40<IntKind.i64.wrap (g.left+g.right))))=_
   rw[bK (by omega)]
   exact congrArg (fun z=>some (Value.bool z)) (db ⟨fun h=>.inr ⟨h2,h⟩,fun h=>h.elim (fun h=>absurd h h1) fun h=>h.2⟩)
  ·refine av 32 (v':=.bool false) rfl (congrArg Value.bool (aA h2)) ?_
   refine ah [2,6,12,17] rfl ?_
   refine aj ⟨[2,3,1],⟨?_,rfl,rfl,rfl,rfl,trivial⟩,by decide,rfl⟩
   exact congrArg (fun z=>some (Value.bool z)) (hq.trans (aA (fun h=>h.elim h1 fun h=>h2 h.1))).symm
 cases q with
 |true=>
  refine bz rfl ?_
  refine ae (aa (ah [] rfl ?_))
  refine ah [1] rfl ?_
  refine ab [1] (v:=.bool true) (vn rfl rfl rfl (by kernel_rfl)) rfl ?_
  refine ah [1] rfl ?_
  refine aj ?_
  exact aE [] (by decide) rfl (aB ⟨_,rfl,rfl⟩)
 |false=>
 have hq':=jY hq.symm
 have hlen:g.edges.length≤60:=by
  rcases Nat.lt_or_ge 60 g.edges.length with h|h
  ·exact absurd (.inl h) hq'
  ·exact h
 have hF:g.Fits:=⟨hgl,hgr,by omega,hl⟩
 refine bP rfl (aq ?_)
 refine ae (aa (ah [] rfl ?_))
 refine ab [] (v:=j7 g A c) (ad 0 rfl rfl rfl rfl) rfl ?_
 refine ah [] rfl ?_
 refine ax [] (sW sg g hF A c b o hA _) rfl rfl rfl rfl (by kernel_rfl) ⟨⟨1,_,by simp,rfl,ak _ _ _,ap⟩,trivial⟩ (fun _=>rfl) ?_
 rintro v H' ⟨e,la,xl,xr,B1,B2,B3,d1,d2,d3,hP,hok,hno,q1,q2,q3,rfl,rfl⟩
 refine⟨rfl,?_⟩
 refine ah [] rfl ?_
 refine aQ rfl rfl rfl (fun _=>rfl) fun p8=>?_
 refine ah [] rfl ?_
 refine aD 0 rfl rfl rfl rfl rfl [] rfl ?_
 refine af [] rfl ?_
 refine ae (aa (ah [] rfl ?_))
 refine ab [] (v:=j7 g A c) (ad 4 rfl rfl rfl rfl) rfl ?_
 refine ax [] (mD g (by omega) A c b o hA) rfl rfl rfl rfl (by kernel_rfl) ⟨⟨5,_,by simp,rfl,ak _ _ _,ap⟩,trivial⟩ (fun _=>rfl) ?_
 rintro v H' ⟨A1,c1,rfl,rfl⟩
 refine⟨rfl,?_⟩
 refine fG (bp 0 rfl) fun ⟨_,_,hA1,hl1⟩=>?_
 obtain⟨g1,hA1⟩:=bQ hA1 hl1
 refine ah [] rfl ?_
 refine ax [] (qS sg g hF A1 c1 g1 0 (oL hA1)) rfl rfl rfl rfl (by kernel_rfl) ⟨⟨0,_,by simp,rfl,aS hA1,aZ hA1⟩,trivial⟩ (fun _=>rfl) ?_
 rintro v H' ⟨e',la',yl,yr,C1,C2,C3,k1,k2,k3,hP',hok',hno',_,_,_,rfl,rfl⟩
 obtain⟨rfl,rfl⟩:=hP.uniq hF hP'
 obtain⟨rfl,rfl⟩:xl=yl∧xr=yr:=by
  by_cases h0:e=0
  ·exact (hok h0).2.2.uniq (hok' h0).2.2
  ·obtain⟨rfl,rfl⟩:=hno h0
   obtain⟨rfl,rfl⟩:=hno' h0
   exact⟨rfl,rfl⟩
 refine⟨rfl,?_⟩
 refine ah [] rfl ?_
 refine aQ rfl rfl rfl (fun _=>rfl) fun p11=>?_
 refine ah [] rfl ?_
 refine aD 0 rfl rfl rfl rfl rfl [] rfl ?_
 refine af [] rfl ?_
 refine bG (bp 1 rfl) fun ⟨_,_,hC1,hm1⟩=>?_
 obtain⟨u1,hC1⟩:=bQ hC1 hm1
 refine bG (bp 2 rfl) fun ⟨_,_,hC2,hm2⟩=>?_
 obtain⟨u2,hC2⟩:=bQ hC2 hm2
 refine bG (bp 3 rfl) fun ⟨_,_,hC3,hm3⟩=>?_
 obtain⟨u3,hC3⟩:=bQ hC3 hm3
 refine bG (bp 6 rfl) fun ⟨_,_,hB1,hn1⟩=>?_
 obtain⟨w1,hB1⟩:=bQ hB1 hn1
 refine bG (bp 7 rfl) fun ⟨_,_,hB2,hn2⟩=>?_
 obtain⟨w2,hB2⟩:=bQ hB2 hn2
 refine bG (bp 8 rfl) fun ⟨_,_,hB3,hn3⟩=>?_
 obtain⟨w3,hB3⟩:=bQ hB3 hn3
 refine ae (aa (ah [] rfl ?_))
 refine ax [] (iU B1 d1 w1 0 la (dh hB1) (by omega) C1 k1 u1 0 (dh hC1)) rfl rfl rfl rfl (by kernel_rfl) ⟨⟨6,_,by simp,rfl,aS hB1,aZ hB1⟩,⟨1,_,by simp,rfl,aS hC1,aZ hC1⟩,trivial⟩ (fun _=>rfl) ?_
 rintro v H' ⟨rfl,rfl⟩
 refine⟨rfl,?_⟩
 refine ah [3] rfl ?_
 refine ab [3] (v:=.slice B2 xl.length d2) (ad 5 rfl rfl rfl rfl) rfl ?_
 refine ah [3] rfl ?_
 refine ab [3] (v:=.slice C2 xl.length k2) (ad 0 rfl rfl rfl rfl) rfl ?_
 refine ah [3] rfl ?_
 refine ax [3] (iU B2 d2 w2 0 xl (dh hB2) (by omega) C2 k2 u2 0 (dh hC2)) rfl rfl rfl rfl (by kernel_rfl) ⟨⟨7,_,by simp,rfl,aS hB2,aZ hB2⟩,⟨2,_,by simp,rfl,aS hC2,aZ hC2⟩,trivial⟩ (fun _=>rfl) ?_
 rintro v H' ⟨rfl,rfl⟩
 refine⟨rfl,?_⟩
 refine ah [3,10] rfl ?_
 refine ab [3,10] (v:=.slice B3 xr.length d3) (ad 5 rfl rfl rfl rfl) rfl ?_
 refine ah [3,10] rfl ?_
 refine ab [3,10] (v:=.slice C3 xr.length k3) (ad 0 rfl rfl rfl rfl) rfl ?_
 refine ah [3,10] rfl ?_
 refine ax [3,10] (iU B3 d3 w3 0 xr (dh hB3) (by omega) C3 k3 u3 0 (dh hC3)) rfl rfl rfl rfl (by kernel_rfl) ⟨⟨8,_,by simp,rfl,aS hB3,aZ hB3⟩,⟨3,_,by simp,rfl,aS hC3,aZ hC3⟩,trivial⟩ (fun _=>rfl) ?_
 rintro v H' ⟨rfl,rfl⟩
 refine⟨rfl,?_⟩
 refine ah [3,10,17] rfl ?_
 refine av 84 (v':=.bool true) rfl (congrArg Value.bool (az rfl)) ?_
 refine ah [3,10,17,22] rfl ?_
 by_cases h0:e=0
 case neg=>
  refine av 87 (v':=.bool true) rfl (congrArg Value.bool (az h0)) ?_
  refine ah [3,10,17,22,25] rfl ?_
  refine aj ?_
  exact aE [] (by decide) rfl (aB ⟨_,rfl,rfl⟩)
 subst h0
 obtain⟨hM,hnm,hC⟩:=hok rfl
 obtain⟨_,_,hgood⟩:=hP.good hF
 obtain⟨hR,_,_⟩:=hgood rfl
 refine av 87 (v':=.bool false) rfl (congrArg Value.bool (aA (by decide))) ?_
 refine ah [3,10,17,22,25] rfl ?_
 refine ab [3,10,17,22,25] (v:=j7 g A c) (ad 9 rfl rfl rfl rfl) rfl ?_
 refine ah [3,10,17,22,25] rfl ?_
 refine ab [3,10,17,22,25] (v:=lE xl xr B2 B3 d2 d3) (ad 5 rfl rfl rfl rfl) rfl ?_
 refine ax [3,10,17,22,25] (sG g hR A c b o hA la (by omega) (pj hF hM) B1 d1 w1 0 (dh hB1) xl (by omega) B2 d2 w2 0 (dh hB2) xr (by omega) B3 d3 w3 0 (dh hB3)) rfl rfl rfl rfl (by kernel_rfl) ⟨⟨10,_,by simp,rfl,ak _ _ _,ap⟩,⟨6,_,by simp,rfl,aS hB1,aZ hB1⟩,⟨7,_,by simp,rfl,aS hB2,aZ hB2⟩,⟨8,_,by simp,rfl,aS hB3,aZ hB3⟩,trivial⟩ (fun _=>rfl) ?_
 rintro v H' ⟨rfl,rfl⟩
 refine⟨rfl,?_⟩
 refine ah [3,10,17,22,25] rfl ?_
 refine aj ?_
 refine aE [] (by decide) rfl (aB ⟨_,rfl,?_⟩)
 obtain⟨hcov,hsz⟩:=uT hR hM hnm hC.isl hC.isr hC.inl hC.inr
 refine congrArg Value.bool (az ?_)
 unfold gG
 rw[if_pos (az ⟨hM,hcov⟩),if_pos hsz]
end Go.Proofs.YtpbmihpjgjbndaaGreat
