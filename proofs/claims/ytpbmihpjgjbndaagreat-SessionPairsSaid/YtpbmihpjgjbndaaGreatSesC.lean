/- The pairs of any graph, by any engine: the program's and the reference's. -/
import Derived.Test.YtpbmihpjgjbndaaGreatSesB
import Derived.Test.YtpbmihpjgjbndaaGreatQX26
import Derived.Test.YtpbmihpjgjbndaaGreatQX21
set_option linter.unusedVariables false
set_option linter.unusedSimpArgs false
namespace Go.Proofs.YtpbmihpjgjbndaaGreat
open Go.RowKit
def mR (g:Gr) (sg e:Int) (l:List Int):Prop:=
 (cO g=0∧(sg=112∨sg=116)∧e=0∧∃ (f:List Int) (ph wk:Nat),lR (b5 g) f∧Dn (b5 g) 1 (List.replicate (b5 g).arcs.length 0) ph wk f∧l=bX f g.left.toNat g.edges.length)∨
 (cO g=0∧¬ (sg=112∨sg=116)∧e=1∧l=[])∨
 (cO g≠0∧e=cO g∧l=[])
theorem mR.uniq {g:Gr} (hg:g.Fits) {sg e e':Int} {l l':List Int} (h:mR g sg e l) (h':mR g sg e' l'):e=e'∧l=l':=by
 rcases h with ⟨h1,h2,rfl,f,ph,wk,h3,h4,rfl⟩|⟨h1,h2,rfl,rfl⟩|⟨h1,rfl,rfl⟩<;>rcases h' with ⟨g1,g2,rfl,f',ph',wk',g3,g4,rfl⟩|⟨g1,g2,rfl,rfl⟩|⟨g1,rfl,rfl⟩
 ·obtain⟨rfl,_,_⟩:=h4.uniq (fU ((da hg).1 h1)) (by decide) g4
  exact⟨rfl,rfl⟩
 ·exact absurd h2 g2
 ·exact absurd h1 g1
 ·exact absurd g2 h2
 ·exact⟨rfl,rfl⟩
 ·exact absurd h1 g1
 ·exact absurd g1 h1
 ·exact absurd g1 h1
 ·exact⟨rfl,rfl⟩
def ue (g:Gr) (sg:Int) (v:Value) (H':Heap):Prop:=∃ (e:Int) (l:List Int) (A:Option Addr) (c:Nat),mR g sg e l∧v=.tuple #[.slice A l.length c,.int .i64 e]∧H'=[.own (.slice A l.length c) 3 1 l.length (aw l)]
theorem si (sg:Int) (g:Gr) (hg:g.Fits) (A:Option Addr) (c b o:Nat) (hA:g.edges≠[]→A=some ⟨b,o,none⟩):Fn 14 [j7 g A c,.int .u8 sg] [] [.seg b o (cd g.edges)] (ue g sg):=by
 by_cases hok:cO g=0∧(sg=112∨sg=116)
 ·have hR:=(da hg).1 hok.1
  have h1:=hR.left
  refine (r9 sg hok.2 g hR A c b o hA g.left.toNat (by omega)).mono ?_
  rintro v H' ⟨f,ph,wk,A',c',hf,hd,rfl,rfl⟩
  exact⟨0,_,A',c',.inl ⟨hok.1,hok.2,rfl,f,ph,wk,hf,hd,rfl⟩,rfl,rfl⟩
 refine aM Tryz.func14 rfl rfl fun w0=>?_
 refine ae (aa ?_)
 refine a6 (cs:=eE g A c) rfl rfl rfl (fun _=>rfl) fun p2=>?_
 refine af [] rfl ?_
 refine ae (aa ?_)
 refine ab [] (v:=j7 g A c) (ad 0 rfl rfl rfl rfl) rfl ?_
 refine ax [] (vd g hg A c b o hA) rfl rfl rfl rfl (by kernel_rfl) ⟨⟨1,_,by simp,rfl,ak _ _ _,ap⟩,trivial⟩ (fun _=>rfl) ?_
 rintro v H' (⟨hz,A1,c1,rfl,rfl⟩|⟨hz,rfl,rfl⟩)
 case inr=>
  refine⟨rfl,?_⟩
  refine ah [] rfl ?_
  refine aQ rfl rfl rfl (fun _=>rfl) fun p6=>?_
  refine aD 0 rfl rfl rfl rfl rfl [] rfl ?_
  refine af [] rfl ?_
  refine ae (ae (aa (af [] rfl ?_)))
  refine aC rfl (fun _=>?_) (fun h=>absurd hz h)
  refine ae (aa (af [] rfl ?_))
  refine bO 3 1 ?_
  exact aE [0] (by decide) rfl (aB ⟨_,rfl,cO g,[],none,0,.inr (.inr ⟨hz,rfl,rfl⟩),rfl,rfl⟩)
 have hsg:¬ (sg=112∨sg=116):=fun h=>hok ⟨hz,h⟩
 have hR:=fU ((da hg).1 hz)
 refine⟨rfl,?_⟩
 refine fG (bp 0 rfl) fun ⟨_,_,hA1,hl1⟩=>?_
 obtain⟨g1,hA1⟩:=bQ hA1 hl1
 have hA1':(b5 g).arcs≠[]→A1=some ⟨g1,0,none⟩:=fun h=>hA1 (fun h0=>h (List.length_eq_zero_iff.1 (by have:=i8 (b5 g).arcs;rw[h0] at this;simp at this;omega)))
 refine ah [] rfl ?_
 refine aQ rfl rfl rfl (fun _=>rfl) fun p6=>?_
 refine aD 0 rfl rfl rfl rfl rfl [] rfl ?_
 refine af [] rfl ?_
 refine ae (ae (aa (af [] rfl ?_)))
 refine aC rfl (fun h=>absurd rfl h) (fun _=>aq ?_)
 refine ae (aa ?_)
 refine ab [] (v:=bi (b5 g) A1 c1) (ad 0 rfl rfl rfl rfl) rfl ?_
 refine ah [] rfl ?_
 refine ax [] (vV (b5 g) hR.fits' hR.len A1 c1 g1 0 hA1' sg) rfl rfl rfl rfl (by kernel_rfl) ⟨⟨1,_,by simp,rfl,aS hA1,aZ hA1⟩,trivial⟩ (fun _=>rfl) ?_
 rintro v H' ⟨e,f',p,k,st',A',c',hO,_,rfl,rfl⟩
 have he:e=1:=by
  rcases hO with ⟨_,h2,_⟩|⟨_,_,rfl,_⟩|⟨h1,_⟩
  ·exact absurd h2 hsg
  ·rfl
  ·exact absurd (dB.2 ⟨hR,fT _ hR,by decide⟩) h1
 subst he
 refine⟨rfl,?_⟩
 refine ah [] rfl ?_
 refine aQ rfl rfl rfl (fun _=>rfl) fun p8=>?_
 refine aD 0 rfl rfl rfl rfl rfl [] rfl ?_
 refine af [] rfl ?_
 refine ae (ae (aa (af [] rfl ?_)))
 refine aC rfl (fun _=>?_) (fun h=>absurd (by decide) h)
 refine ae (aa (af [] rfl ?_))
 refine bO 3 1 ?_
 exact aE [0] (by decide) rfl (aB ⟨_,rfl,1,[],none,0,.inr (.inl ⟨hz,hsg,rfl,rfl⟩),rfl,rfl⟩)
theorem sF {g:Gr} (hR:g.Right) {f:List Int} (hf:aT (b5 g) f) {i:Nat} {x:Int} (hx:f[i]?=some x):x=1↔0<x:=by
 have hl:=hf.len
 have hi:i<(b5 g).arcs.length:=by have:=(List.getElem?_eq_some_iff.1 hx).1;omega
 have hc:=oH _ (List.getElem_mem hi)
 have:=hf.all ((b5 g).arcs[i],x) (List.mem_of_getElem? (i:=i) (by rw[List.getElem?_zip_eq_some];exact⟨List.getElem?_eq_getElem hi,hx⟩))
 simp only at this
 omega
set_option maxHeartbeats 1000000 in
theorem sq (sg:Int) (g:Gr) (hg:g.Fits) (A:Option Addr) (c b o:Nat) (hA:g.edges≠[]→A=some ⟨b,o,none⟩):Fn 16 [jG g A c,.int .u8 sg] [] [.seg b o (cd g.edges)] (ue g sg):=by
 refine aM Tryz.func16 rfl rfl fun w0=>?_
 refine ae (aa ?_)
 refine a6 (cs:=eE g A c) rfl rfl rfl (fun _=>rfl) fun p2=>?_
 refine af [] rfl ?_
 refine ae (aa ?_)
 refine ab [] (v:=jG g A c) (ad 0 rfl rfl rfl rfl) rfl ?_
 refine ax [] (uQ g hg A c b o hA) rfl rfl rfl rfl (by kernel_rfl) ⟨⟨1,_,by simp,rfl,ak _ _ _,ap⟩,trivial⟩ (fun _=>rfl) ?_
 rintro v H' (⟨hz,A1,c1,rfl,rfl⟩|⟨hz,rfl,rfl⟩)
 case inr=>
  refine⟨rfl,?_⟩
  refine ah [] rfl ?_
  refine aQ rfl rfl rfl (fun _=>rfl) fun p6=>?_
  refine aD 0 rfl rfl rfl rfl rfl [] rfl ?_
  refine af [] rfl ?_
  refine ae (ae (aa (ah [] rfl ?_)))
  refine av 19 (v':=.bool false) rfl (congrArg Value.bool (aA hz)) ?_
  refine ah [2,6] rfl ?_
  refine aj ?_
  refine bP rfl ?_
  refine aq (ae (ae (aa (af [] rfl ?_))))
  refine aC rfl (fun _=>?_) (fun h=>absurd hz h)
  refine ae (aa (af [] rfl ?_))
  refine bO 3 1 ?_
  exact aE [0] (by decide) rfl (aB ⟨_,rfl,cO g,[],none,0,.inr (.inr ⟨hz,rfl,rfl⟩),rfl,rfl⟩)
 have hGR:=(da hg).1 hz
 have hR:=fU hGR
 have h1:=hGR.left
 have h2:=hGR.right
 have h3:=hGR.len
 refine⟨rfl,?_⟩
 refine fG (bp 0 rfl) fun ⟨_,_,hA1,hl1⟩=>?_
 obtain⟨g1,hA1⟩:=bQ hA1 hl1
 have hA1':(b5 g).arcs≠[]→A1=some ⟨g1,0,none⟩:=fun h=>hA1 (fun h0=>h (List.length_eq_zero_iff.1 (by have:=i8 (b5 g).arcs;rw[h0] at this;simp at this;omega)))
 refine ah [] rfl ?_
 refine aQ rfl rfl rfl (fun _=>rfl) fun p6=>?_
 refine aD 0 rfl rfl rfl rfl rfl [] rfl ?_
 refine af [] rfl ?_
 by_cases hsg:sg=112∨sg=116
 case neg=>
  refine ae (ae (aa (ah [] rfl ?_)))
  refine av 19 (v':=.bool true) rfl (congrArg Value.bool (az rfl)) ?_
  refine ah [2] rfl ?_
  refine av 23 (v':=.bool true) rfl (congrArg Value.bool (az (fun h=>hsg (.inl h)))) ?_
  refine ah [2,6] rfl ?_
  refine av 26 (v':=.bool true) rfl (congrArg Value.bool (az (fun h=>hsg (.inr h)))) ?_
  refine aj ?_
  refine bz rfl ?_
  refine aa (af [] rfl ?_)
  refine ae (ae (aa (af [] rfl ?_)))
  refine aC rfl (fun _=>?_) (fun h=>absurd (by decide) h)
  refine ae (aa (af [] rfl ?_))
  refine bO 3 1 ?_
  exact aE [0] (by decide) rfl (aB ⟨_,rfl,1,[],none,0,.inr (.inl ⟨hz,hsg,rfl,rfl⟩),rfl,rfl⟩)
 refine ae (dg [(26,.bool false),(6,.pointer (some ⟨p6,0,none⟩)),(7,.int .i64 0),(2,.pointer (some ⟨p2,0,none⟩)),(1,.int .u8 sg)] [blk p6 50 (bJ (b5 g) A1 c1),.own (.slice A1 (b5 g).arcs.length c1) 112 3 (b5 g).arcs.length (arcs (b5 g).arcs),blk p2 32 (eE g A c),.seg b o (cd g.edges)] ?_ ?_)
 ·skip
  refine aa (ah [] rfl ?_)
  refine av 19 (v':=.bool true) rfl (congrArg Value.bool (az rfl)) ?_
  refine ah [2] rfl ?_
  rcases hsg with rfl|rfl
  ·refine av 23 (v':=.bool false) rfl (congrArg Value.bool (aA (by decide))) ?_
   refine ah [2,6] rfl ?_
   exact aj ⟨[0,1,2,3],⟨rfl,rfl,rfl,rfl,rfl,trivial⟩,by decide,rfl⟩
  ·refine av 23 (v':=.bool true) rfl (congrArg Value.bool (az (by decide))) ?_
   refine ah [2,6] rfl ?_
   refine av 26 (v':=.bool false) rfl (congrArg Value.bool (aA (by decide))) ?_
   exact aj ⟨[0,1,2,3],⟨rfl,rfl,rfl,rfl,rfl,trivial⟩,by decide,rfl⟩
 refine bP rfl ?_
 refine aq (ae (ae (aa (af [] rfl ?_))))
 refine aC rfl (fun h=>absurd rfl h) (fun _=>aq ?_)
 refine ae (aa ?_)
 refine ab [] (v:=bi (b5 g) A1 c1) (ad 0 rfl rfl rfl rfl) rfl ?_
 refine ah [] rfl ?_
 refine ax [] (uf (b5 g) hR.fits' hR.len A1 c1 g1 0 hA1' sg) rfl rfl rfl rfl (by kernel_rfl) ⟨⟨1,_,by simp,rfl,aS hA1,aZ hA1⟩,trivial⟩ (fun _=>rfl) ?_
 rintro v H' ⟨e,f,ph,wk,Af,cf,hO,rfl,rfl⟩
 refine⟨rfl,?_⟩
 obtain⟨hdn,he⟩:Dn (b5 g) 1 (List.replicate (b5 g).arcs.length 0) ph wk f∧e=0:=by
  rcases hO with ⟨_,_,h3,h4⟩|⟨_,h2,_⟩|⟨h1,_⟩
  ·exact⟨h4,h3⟩
  ·exact absurd hsg h2
  ·exact absurd (dB.2 ⟨hR,fT _ hR,by decide⟩) h1
 obtain⟨hf,_,_,lv,hlv,hlt⟩:=hdn.keeps hR (by decide) (fT _ hR)
 have hno:=oN hf.toRanged hlv hlt
 have hfl:=hf.len
 have hNl:=iS g
 obtain⟨nl,hnl⟩:∃ n:Nat,g.left=n:=⟨g.left.toNat,by omega⟩
 refine fG (bp 0 rfl) fun ⟨_,hcf,hAf,hlf⟩=>?_
 obtain⟨gf,hAf⟩:=bQ hAf hlf
 refine ah [] rfl ?_
 refine aQ rfl rfl rfl (fun _=>rfl) fun p8=>?_
 refine aD 0 rfl rfl rfl rfl rfl [] rfl ?_
 refine af [] rfl ?_
 refine ae (aa (af [] rfl ?_))
 refine ae (ae (aa (af [] rfl ?_)))
 refine bO 3 1 ?_
 refine au ?_
 refine bu (σ:=Nat×Option Addr×Nat) (fun s=>[(11,.int .i64 s.1),(8,.pointer (some ⟨p8,0,none⟩)),(2,.pointer (some ⟨p2,0,none⟩)),(10,.slice s.2.1 (bX f nl s.1).length s.2.2)])
  (fun s=>[.own (.slice s.2.1 (bX f nl s.1).length s.2.2) 3 1 (bX f nl s.1).length (aw (bX f nl s.1)),blk p8 87 [.slice Af f.length cf,.int .i64 ph,.int .i64 wk],.own (.slice Af f.length cf) 2 1 f.length (aw f),blk p2 32 (eE g A c)]) (fun s=>s.1≤g.edges.length) (fun s=>g.edges.length-s.1)
  (0,none,0) [0,1,2,5] ⟨rfl,rfl,rfl,rfl,trivial⟩ (by decide) rfl (Nat.zero_le _) ?_
 rintro⟨k,A2,c2⟩ hk
 simp only at hk ⊢
 have hpl:=gO f nl k
 have hps:=iN f nl k
 refine ae (ae (aa (ah [] rfl ?_)))
 (first|refine ab [] (ad 0 rfl rfl rfl rfl) rfl ?_|refine ab [] (ad 1 rfl rfl rfl rfl) rfl ?_|refine ab [] (ad 2 rfl rfl rfl rfl) rfl ?_|refine ab [] (ad 3 rfl rfl rfl rfl) rfl ?_|refine ab [] (ad 4 rfl rfl rfl rfl) rfl ?_|refine ab [] (ad 5 rfl rfl rfl rfl) rfl ?_|refine ab [] (ad 6 rfl rfl rfl rfl) rfl ?_|refine ab [] (ad 7 rfl rfl rfl rfl) rfl ?_)
 refine af [] rfl ?_
 refine aC rfl (fun hlt=>aq ?_) (fun hge=>aO ?_)
 ·have hlt:k<g.edges.length:=by omega
  obtain⟨x,hx⟩:∃ x,f[nl+k]?=some x:=⟨f[nl+k]'(by omega),List.getElem?_eq_getElem (by omega)⟩
  have hxd:f.getD (nl+k) 0=x:=by rw[List.getD_eq_getElem?_getD,hx];rfl
  have hx1:=sF hGR hf hx
  obtain rfl:=dh hAf (by intro h0;rw[h0] at hx;simp at hx)
  refine ae (au ?_)
  refine ae (aa (ah [] rfl ?_))
  (first|refine ab [] (ad 0 rfl rfl rfl rfl) rfl ?_|refine ab [] (ad 1 rfl rfl rfl rfl) rfl ?_|refine ab [] (ad 2 rfl rfl rfl rfl) rfl ?_|refine ab [] (ad 3 rfl rfl rfl rfl) rfl ?_|refine ab [] (ad 4 rfl rfl rfl rfl) rfl ?_|refine ab [] (ad 5 rfl rfl rfl rfl) rfl ?_|refine ab [] (ad 6 rfl rfl rfl rfl) rfl ?_|refine ab [] (ad 7 rfl rfl rfl rfl) rfl ?_)
  refine ah [] rfl ?_
  (first|refine ab [] (ad 0 rfl rfl rfl rfl) rfl ?_|refine ab [] (ad 1 rfl rfl rfl rfl) rfl ?_|refine ab [] (ad 2 rfl rfl rfl rfl) rfl ?_|refine ab [] (ad 3 rfl rfl rfl rfl) rfl ?_|refine ab [] (ad 4 rfl rfl rfl rfl) rfl ?_|refine ab [] (ad 5 rfl rfl rfl rfl) rfl ?_|refine ab [] (ad 6 rfl rfl rfl rfl) rfl ?_|refine ab [] (ad 7 rfl rfl rfl rfl) rfl ?_)
  refine ah [] rfl ?_
  refine av 48 (v':=.int .i64 ((nl+k:Nat):Int)) rfl (congrArg (Value.int .i64) (by rw[bK (by omega)];omega)) ?_
  refine ab [] (aI rfl rfl rfl rfl rfl (by omega)) rfl ?_
  refine ab [] (aF (v:=.int .i64 x) 2 rfl rfl rfl (bn hx)) rfl ?_
  refine af [] rfl ?_
  refine aC rfl (fun hgo=>?_) (fun hno2=>aq ?_)
  ·have hgo:x=1:=hgo
   rw[if_pos (by omega)] at hps
   refine aa (ah [] rfl ?_)
   refine b8 rfl rfl rfl rfl rfl rfl rfl (fun _=>rfl) fun g2=>?_
   refine a9 (n:=(bX f nl k).length) (m:=1) (off:=0) (news:=aw [(k:Int)]) 1 0 rfl rfl rfl rfl rfl rfl (by decide) rfl rfl (aR g2 _ _ (0,0)) (fun _=>rfl) rfl rfl (by omega) (by omega) (fun _ _=>rfl) fun A3 c3=>?_
   rw[show (bX f nl k).length+1=(bX f nl (k+1)).length by rw[hps];simp,show aw (bX f nl k)++aw [(k:Int)]=aw (bX f nl (k+1)) by rw[hps];simp[aw]]
   refine af [] rfl ?_
   refine aa (af [] rfl ?_)
   exact⟨(k+1,A3,c3),[1,2,3,4],⟨congrArg some (congrArg (Value.int .i64) (bK (by omega))),rfl,rfl,rfl,trivial⟩,by decide,rfl,by simp only;omega,by simp only;omega⟩
  ·have hno2:¬ x=1:=hno2
   rw[if_neg (by omega),List.append_nil] at hps
   refine aa (af [] rfl ?_)
   exact⟨(k+1,A2,c2),[0,1,2,3],⟨congrArg some (congrArg (Value.int .i64) (bK (by omega))),rfl,rfl,by simp only[hps];rfl,trivial⟩,by decide,by simp only[hps];rfl,by simp only;omega,by simp only;omega⟩
 ·obtain rfl:k=g.edges.length:=by omega
  have hnt:g.left.toNat=nl:=by omega
  refine ae (aa (af [] rfl ?_))
  exact aE [0] (by decide) rfl (aB ⟨_,rfl,0,bX f nl g.edges.length,A2,c2,.inl ⟨hz,hsg,rfl,f,ph,wk,⟨hf,hno⟩,hdn,by rw[hnt]⟩,rfl,rfl⟩)
end Go.Proofs.YtpbmihpjgjbndaaGreat
