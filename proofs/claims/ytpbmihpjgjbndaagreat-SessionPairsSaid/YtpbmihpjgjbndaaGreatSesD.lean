/- The reference's matchings and covers: of a matching that is one, and from which no more is come to. -/
import Derived.Test.YtpbmihpjgjbndaaGreatSesA
import Derived.Test.YtpbmihpjgjbndaaGreatOfR
set_option linter.unusedVariables false
set_option linter.unusedSimpArgs false
namespace Go.Proofs.YtpbmihpjgjbndaaGreat
open Go.RowKit
set_option maxHeartbeats 1000000 in
theorem qi (g:Gr) (hg:g.Right) (hF:g.Fits) (A:Option Addr) (c b o:Nat) (hA:g.edges≠[]→A=some ⟨b,o,none⟩) (l:List Int) (hl:l.length≤100000) (hM:bC g l) (L:Option Addr) (cl bl ol:Nat) (hL:l≠[]→L=some ⟨bl,ol,none⟩):
 Fn 34 [jG g A c,.slice L l.length cl] [] [.seg b o (cd g.edges),.seg bl ol (aw l)] fun u H'=>u=.bool true∧H'=[]:=by
 have h3:=hg.len
 refine aM Tryz.func34 rfl rfl fun w0=>?_
 refine ae (aa ?_)
 refine a6 (cs:=eE g A c) rfl rfl rfl (fun _=>rfl) fun p=>?_
 refine af [] rfl ?_
 refine ae (ae (aa ?_))
 refine ab [] (v:=jG g A c) (ad 0 rfl rfl rfl rfl) rfl ?_
 refine ax [] (iv g hF A c b o hA) rfl rfl rfl rfl (by kernel_rfl) ⟨⟨1,_,by simp,rfl,ak _ _ _,ap⟩,trivial⟩ (fun _=>rfl) ?_
 rintro v H' ⟨rfl,rfl⟩
 refine⟨rfl,?_⟩
 refine af [] rfl ?_
 refine aC rfl (fun h=>absurd ((da hF).2 hg) h) (fun _=>aq ?_)
 refine ae (ae (aa (af [] rfl ?_)))
 refine au ?_
 refine bu (σ:=Nat) (fun k=>[(5,.int .i64 k),(1,.slice L l.length cl),(2,.pointer (some ⟨p,0,none⟩))]) (fun k=>[blk p 32 (eE g A c),.seg b o (cd g.edges),.seg bl ol (aw l)]) (fun k=>k≤l.length) (fun k=>l.length-k)
  0 [0,1,2] ⟨rfl,rfl,rfl,trivial⟩ (by decide) rfl (Nat.zero_le _) ?_
 intro k hk
 refine ae (ae (aa (af [] rfl ?_)))
 refine aC rfl (fun hlt=>aq ?_) (fun hge=>aO ?_)
 ·have hlt:k<l.length:=by omega
  obtain rfl:=hL (by rintro rfl;simp at hlt)
  obtain⟨x,hx⟩:∃ x,l[k]?=some x:=⟨l[k],List.getElem?_eq_getElem hlt⟩
  have hxr:=hM.rng x (List.mem_of_getElem? hx)
  obtain rfl:=hA (by intro h0;rw[h0] at hxr;simp at hxr;omega)
  obtain⟨e,he⟩:∃ e,g.edges[x.toNat]?=some e:=⟨g.edges[x.toNat]'(by omega),List.getElem?_eq_getElem (by omega)⟩
  obtain⟨eg1,eg2⟩:=fw he
  refine ae (au ?_)
  refine ae (dg [(5,.int .i64 k),(1,.slice (some ⟨bl,ol,none⟩) l.length cl),(2,.pointer (some ⟨p,0,none⟩)),(46,.bool false)] [blk p 32 (eE g (some ⟨b,o,none⟩) c),.seg b o (cd g.edges),.seg bl ol (aw l)] ?_ ?_)
  ·refine bq 31 [(0,true),(1,true),(2,true),(3,true),(4,true),(5,true),(6,true),(7,true),(8,true),(9,true),(10,true),(11,true),(12,true),(13,true),(14,true),(15,true),(16,true),(17,true),(18,true),(19,true),(20,true),(21,true),(22,true),(23,true),(24,true),(25,true),(26,true),(27,true),(28,true),(29,true),(30,true)] [0,1,2] (by kernel_rfl) (by decide) rfl ?_
   (repeat' (first
    |refine aL (gs:=[999]) rfl rfl ?_
    |refine ai [999] rfl (ad (v:=.slice (some ⟨b,o,none⟩) g.edges.length c) 0 rfl rfl rfl rfl) rfl ?_
    |refine ai [999] rfl (cW rfl rfl rfl rfl rfl hlt) rfl ?_
    |refine ai [999] rfl (aU (v:=.int .i64 x) 2 rfl rfl rfl rfl (aN hx)) rfl ?_))
   refine bH 21 (v':=.bool false) rfl (congrArg Value.bool (aA (by omega))) ?_
   (repeat' (first
    |refine aL (gs:=[5]) rfl rfl ?_
    |refine ai [5] rfl (ad (v:=.slice (some ⟨b,o,none⟩) g.edges.length c) 0 rfl rfl rfl rfl) rfl ?_
    |refine ai [5] rfl (cW rfl rfl rfl rfl rfl hlt) rfl ?_
    |refine ai [5] rfl (aU (v:=.int .i64 x) 2 rfl rfl rfl rfl (aN hx)) rfl ?_))
   refine bH 31 (v':=.bool false) rfl (congrArg Value.bool (aA (by omega))) ?_
   (repeat' (first
    |refine aL (gs:=[5,15]) rfl rfl ?_
    |refine ai [5,15] rfl (ad (v:=.slice (some ⟨b,o,none⟩) g.edges.length c) 0 rfl rfl rfl rfl) rfl ?_
    |refine ai [5,15] rfl (cW rfl rfl rfl rfl rfl hlt) rfl ?_
    |refine ai [5,15] rfl (aU (v:=.int .i64 x) 2 rfl rfl rfl rfl (aN hx)) rfl ?_))
   by_cases hk0:k=0
   ·refine bH 34 (v':=.bool false) rfl (congrArg Value.bool (aA (by omega))) ?_
    (repeat' (first
     |refine aL (gs:=[5,15,18]) rfl rfl ?_
     |refine ai [5,15,18] rfl (ad (v:=.slice (some ⟨b,o,none⟩) g.edges.length c) 0 rfl rfl rfl rfl) rfl ?_
     |refine ai [5,15,18] rfl (cW rfl rfl rfl rfl rfl hlt) rfl ?_
     |refine ai [5,15,18] rfl (aU (v:=.int .i64 x) 2 rfl rfl rfl rfl (aN hx)) rfl ?_))
    refine bB ?_
    refine aj ?_
    exact⟨[0,1,2],⟨rfl,rfl,rfl,rfl,trivial⟩,by decide,rfl⟩
   ·refine bH 34 (v':=.bool true) rfl (congrArg Value.bool (az (by omega))) ?_
    (repeat' (first
     |refine aL (gs:=[5,15,18]) rfl rfl ?_
     |refine ai [5,15,18] rfl (ad (v:=.slice (some ⟨b,o,none⟩) g.edges.length c) 0 rfl rfl rfl rfl) rfl ?_
     |refine ai [5,15,18] rfl (cW rfl rfl rfl rfl rfl hlt) rfl ?_
     |refine ai [5,15,18] rfl (aU (v:=.int .i64 x) 2 rfl rfl rfl rfl (aN hx)) rfl ?_))
    obtain⟨y,hy⟩:∃ y,l[k-1]?=some y:=⟨l[k-1]'(by omega),List.getElem?_eq_getElem (by omega)⟩
    refine bH 41 (v':=.int .i64 ((k-1:Nat):Int)) rfl (congrArg (Value.int .i64) (by rw[bK (by omega)];omega)) ?_
    refine ai [5,15,18] rfl (cW rfl rfl rfl rfl rfl (by omega)) rfl ?_
    refine ai [5,15,18] rfl (aU (v:=.int .i64 y) 2 rfl rfl rfl rfl (aN hy)) rfl ?_
    have hyx:y<x:=by
     have:=(List.pairwise_iff_getElem.1 hM.rise) (k-1) k (by omega) hlt (by omega)
     rw[List.getElem?_eq_getElem hlt] at hx
     rw[List.getElem?_eq_getElem (by omega)] at hy
     simp only[Option.some.injEq] at hx hy
     omega
    (repeat' (first
     |refine aL (gs:=[5,15,18]) rfl rfl ?_
     |refine ai [5,15,18] rfl (ad (v:=.slice (some ⟨b,o,none⟩) g.edges.length c) 0 rfl rfl rfl rfl) rfl ?_
     |refine ai [5,15,18] rfl (cW rfl rfl rfl rfl rfl hlt) rfl ?_
     |refine ai [5,15,18] rfl (aU (v:=.int .i64 x) 2 rfl rfl rfl rfl (aN hx)) rfl ?_))
    refine bH 46 (v':=.bool false) rfl (congrArg Value.bool (aA (by omega))) ?_
    refine bB ?_
    refine aj ?_
    exact⟨[0,1,2],⟨rfl,rfl,rfl,rfl,trivial⟩,by decide,rfl⟩
  refine bP rfl (aq ?_)
  refine ae (aa (af [] rfl ?_))
  refine au ?_
  refine bu (σ:=Nat) (fun j=>[(6,.int .i64 j),(5,.int .i64 k),(1,.slice (some ⟨bl,ol,none⟩) l.length cl),(2,.pointer (some ⟨p,0,none⟩))]) (fun _=>[blk p 32 (eE g (some ⟨b,o,none⟩) c),.seg b o (cd g.edges),.seg bl ol (aw l)]) (fun j=>j≤k) (fun j=>k-j)
   0 [0,1,2] ⟨rfl,rfl,rfl,rfl,trivial⟩ (by decide) rfl (Nat.zero_le _) ?_
  intro j hj
  refine ae (ae (aa (af [] rfl ?_)))
  refine aC rfl (fun hlj=>aq ?_) (fun hge=>aO ?_)
  ·have hlj:j<k:=by omega
   obtain⟨y,hy⟩:∃ y,l[j]?=some y:=⟨l[j]'(by omega),List.getElem?_eq_getElem (by omega)⟩
   have hyr:=hM.rng y (List.mem_of_getElem? hy)
   obtain⟨a,ha⟩:∃ a,g.edges[y.toNat]?=some a:=⟨g.edges[y.toNat]'(by omega),List.getElem?_eq_getElem (by omega)⟩
   obtain⟨ag1,ag2⟩:=fw ha
   have hap:a.l≠e.l∧a.r≠e.r:=by
    have:=(List.pairwise_iff_getElem.1 hM.apart) j k (by omega) hlt hlj a e
    rw[List.getElem?_eq_getElem hlt] at hx
    rw[List.getElem?_eq_getElem (by omega)] at hy
    simp only[Option.some.injEq] at hx hy
    rw[hx,hy] at this
    exact this ha he
   refine ae (au ?_)
   refine (dg [(6,.int .i64 j),(5,.int .i64 k),(1,.slice (some ⟨bl,ol,none⟩) l.length cl),(2,.pointer (some ⟨p,0,none⟩)),(91,.bool false)] [blk p 32 (eE g (some ⟨b,o,none⟩) c),.seg b o (cd g.edges),.seg bl ol (aw l)] ?_ ?_)
   ·refine bq 40 [(0,true),(1,true),(2,true),(3,true),(4,true),(5,true),(6,true),(7,true),(8,true),(9,true),(10,true),(11,true),(12,true),(13,true),(14,true),(15,true),(16,true),(17,true),(18,true),(19,true),(20,true),(21,true),(22,true),(23,true),(24,true),(25,true),(26,true),(27,true),(28,true),(29,true),(30,true),(31,true),(32,true),(33,true),(34,true),(35,true),(36,true),(37,true),(38,true),(39,true)] [0,1,2] (by kernel_rfl) (by decide) rfl ?_
    (repeat' (first
     |refine aL (gs:=[999]) rfl rfl ?_
     |refine ai [999] rfl (ad (v:=.slice (some ⟨b,o,none⟩) g.edges.length c) 0 rfl rfl rfl rfl) rfl ?_
     |refine ai [999] rfl (cW rfl rfl rfl rfl rfl hlt) rfl ?_
     |refine ai [999] rfl (aU (v:=.int .i64 x) 2 rfl rfl rfl rfl (aN hx)) rfl ?_))
    refine bH 57 (v':=.int .i64 ((x.toNat:Nat):Int)) rfl (congrArg (Value.int .i64) (by omega)) ?_
    refine ai [] rfl (eH rfl rfl rfl rfl rfl (by omega)) rfl ?_
    (repeat' (first
     |refine aL (gs:=[999]) rfl rfl ?_
     |refine ai [999] rfl (ad (v:=.slice (some ⟨b,o,none⟩) g.edges.length c) 0 rfl rfl rfl rfl) rfl ?_
     |refine ai [999] rfl (cW rfl rfl rfl rfl rfl hlt) rfl ?_
     |refine ai [999] rfl (aU (v:=.int .i64 x) 2 rfl rfl rfl rfl (aN hx)) rfl ?_))
    refine ai [] rfl (aU (v:=.int .i64 e.l) 1 rfl rfl rfl rfl eg1) rfl ?_
    (repeat' (first
     |refine aL (gs:=[999]) rfl rfl ?_
     |refine ai [999] rfl (ad (v:=.slice (some ⟨b,o,none⟩) g.edges.length c) 0 rfl rfl rfl rfl) rfl ?_
     |refine ai [999] rfl (cW rfl rfl rfl rfl rfl hlt) rfl ?_
     |refine ai [999] rfl (aU (v:=.int .i64 x) 2 rfl rfl rfl rfl (aN hx)) rfl ?_))
    refine ai [] rfl (cW rfl rfl rfl rfl rfl (by omega)) rfl ?_
    refine ai [] rfl (aU (v:=.int .i64 y) 2 rfl rfl rfl rfl (aN hy)) rfl ?_
    refine bH 66 (v':=.int .i64 ((y.toNat:Nat):Int)) rfl (congrArg (Value.int .i64) (by omega)) ?_
    refine ai [] rfl (eH rfl rfl rfl rfl rfl (by omega)) rfl ?_
    (repeat' (first
     |refine aL (gs:=[999]) rfl rfl ?_
     |refine ai [999] rfl (ad (v:=.slice (some ⟨b,o,none⟩) g.edges.length c) 0 rfl rfl rfl rfl) rfl ?_
     |refine ai [999] rfl (cW rfl rfl rfl rfl rfl hlt) rfl ?_
     |refine ai [999] rfl (aU (v:=.int .i64 x) 2 rfl rfl rfl rfl (aN hx)) rfl ?_))
    refine ai [] rfl (aU (v:=.int .i64 a.l) 1 rfl rfl rfl rfl ag1) rfl ?_
    (repeat' (first
     |refine aL (gs:=[999]) rfl rfl ?_
     |refine ai [999] rfl (ad (v:=.slice (some ⟨b,o,none⟩) g.edges.length c) 0 rfl rfl rfl rfl) rfl ?_
     |refine ai [999] rfl (cW rfl rfl rfl rfl rfl hlt) rfl ?_
     |refine ai [999] rfl (aU (v:=.int .i64 x) 2 rfl rfl rfl rfl (aN hx)) rfl ?_))
    refine bH 71 (v':=.bool false) rfl (congrArg Value.bool (aA (fun h=>hap.1 h.symm))) ?_
    (repeat' (first
     |refine aL (gs:=[19]) rfl rfl ?_
     |refine ai [19] rfl (ad (v:=.slice (some ⟨b,o,none⟩) g.edges.length c) 0 rfl rfl rfl rfl) rfl ?_
     |refine ai [19] rfl (cW rfl rfl rfl rfl rfl hlt) rfl ?_
     |refine ai [19] rfl (aU (v:=.int .i64 x) 2 rfl rfl rfl rfl (aN hx)) rfl ?_))
    refine bH 77 (v':=.int .i64 ((x.toNat:Nat):Int)) rfl (congrArg (Value.int .i64) (by omega)) ?_
    refine ai [19] rfl (eH rfl rfl rfl rfl rfl (by omega)) rfl ?_
    (repeat' (first
     |refine aL (gs:=[19]) rfl rfl ?_
     |refine ai [19] rfl (ad (v:=.slice (some ⟨b,o,none⟩) g.edges.length c) 0 rfl rfl rfl rfl) rfl ?_
     |refine ai [19] rfl (cW rfl rfl rfl rfl rfl hlt) rfl ?_
     |refine ai [19] rfl (aU (v:=.int .i64 x) 2 rfl rfl rfl rfl (aN hx)) rfl ?_))
    refine ai [19] rfl (aU (v:=.int .i64 e.r) 1 rfl rfl rfl rfl eg2) rfl ?_
    (repeat' (first
     |refine aL (gs:=[19]) rfl rfl ?_
     |refine ai [19] rfl (ad (v:=.slice (some ⟨b,o,none⟩) g.edges.length c) 0 rfl rfl rfl rfl) rfl ?_
     |refine ai [19] rfl (cW rfl rfl rfl rfl rfl hlt) rfl ?_
     |refine ai [19] rfl (aU (v:=.int .i64 x) 2 rfl rfl rfl rfl (aN hx)) rfl ?_))
    refine ai [19] rfl (cW rfl rfl rfl rfl rfl (by omega)) rfl ?_
    refine ai [19] rfl (aU (v:=.int .i64 y) 2 rfl rfl rfl rfl (aN hy)) rfl ?_
    refine bH 86 (v':=.int .i64 ((y.toNat:Nat):Int)) rfl (congrArg (Value.int .i64) (by omega)) ?_
    refine ai [19] rfl (eH rfl rfl rfl rfl rfl (by omega)) rfl ?_
    (repeat' (first
     |refine aL (gs:=[19]) rfl rfl ?_
     |refine ai [19] rfl (ad (v:=.slice (some ⟨b,o,none⟩) g.edges.length c) 0 rfl rfl rfl rfl) rfl ?_
     |refine ai [19] rfl (cW rfl rfl rfl rfl rfl hlt) rfl ?_
     |refine ai [19] rfl (aU (v:=.int .i64 x) 2 rfl rfl rfl rfl (aN hx)) rfl ?_))
    refine ai [19] rfl (aU (v:=.int .i64 a.r) 1 rfl rfl rfl rfl ag2) rfl ?_
    (repeat' (first
     |refine aL (gs:=[19]) rfl rfl ?_
     |refine ai [19] rfl (ad (v:=.slice (some ⟨b,o,none⟩) g.edges.length c) 0 rfl rfl rfl rfl) rfl ?_
     |refine ai [19] rfl (cW rfl rfl rfl rfl rfl hlt) rfl ?_
     |refine ai [19] rfl (aU (v:=.int .i64 x) 2 rfl rfl rfl rfl (aN hx)) rfl ?_))
    refine bH 91 (v':=.bool false) rfl (congrArg Value.bool (aA (fun h=>hap.2 h.symm))) ?_
    refine bB ?_
    refine aj ?_
    exact⟨[0,1,2],⟨rfl,rfl,rfl,rfl,rfl,trivial⟩,by decide,rfl⟩
   refine bP rfl (aq ?_)
   refine aa (af [] rfl ?_)
   refine⟨j+1,[0,1,2],⟨?_,rfl,rfl,rfl,trivial⟩,by decide,rfl,by omega,by omega⟩
   show some (Value.int .i64 (IntKind.i64.wrap ((j:Int)+1)))=_
   rw[bK (by omega)];rfl
  refine aa (af [] rfl ?_)
  refine⟨k+1,[0,1,2],⟨?_,rfl,rfl,trivial⟩,by decide,rfl,by omega,by omega⟩
  show some (Value.int .i64 (IntKind.i64.wrap ((k:Int)+1)))=_
  rw[bK (by omega)];rfl
 ·refine ae (aa (af [] rfl ?_))
  exact aE [] (by decide) rfl (aB ⟨_,rfl,rfl,rfl⟩)
end Go.Proofs.YtpbmihpjgjbndaaGreat
