/- The engine and the words that all chapters share: several texts in one. -/
import Derived.Test.YtpbmihpjgjbndaaGreatQX18
import Derived.Test.YtpbmihpjgjbndaaGreatQX24
import Derived.Test.YtpbmihpjgjbndaaGreatQC
import Derived.Test.YtpbmihpjgjbndaaGreatQX11
/- Phases by either engine: From and Max with the sign as a number. -/
set_option linter.unusedVariables false
set_option linter.unusedSimpArgs false
namespace Go.Proofs.YtpbmihpjgjbndaaGreat
open Go.RowKit
theorem Dn.lev {N:bt} {least:Int} {f f':List Int} {p k:Nat} (h:Dn N least f p k f'):∃ lv,dx N (aK (N.arcs.zip f)) least lv:=by
 cases h with
 |stop h1 _=>exact⟨_,h1⟩
 |step h1 _ _ _=>exact⟨_,h1⟩
theorem Dn.few0 {N:bt} (hR:N.Right) {least:Int} (hle:1≤least) {f f':List Int} {p k:Nat} (h:Dn N least f p k f'):aT N f→∀ lv,dx N (aK (N.arcs.zip f)) least lv→
 (bT lv N.snk.toNat<0→p=0)∧(0≤bT lv N.snk.toNat→(p:Int)+bT lv N.snk.toNat≤N.nodes):=by
 induction h with
 |stop h1 h2=>
  intro hf lv hlv
  have:=i4 hlv h1 N.snk.toNat
  exact⟨fun _=>rfl,fun h=>by omega⟩
 |@step f f1 f' lv0 ws p k h1 h2 h3 h4 ih=>
  intro hf lv hlv
  have e:=i4 hlv h1 N.snk.toNat
  obtain⟨k1,_,_⟩:=h3.keeps hR hle hf h1
  obtain⟨lv1,hl1⟩:=h4.lev
  obtain⟨i1,i2⟩:=ih k1 lv1 hl1
  have hr:=h1.rng N.snk.toNat
  have hnn:=hR.nodes
  refine⟨fun h=>by omega,fun h=>?_⟩
  by_cases hz:0≤bT lv1 N.snk.toNat
  ·have h5:=(h3.rise hR hle hf h1 hl1 hz).2
   have h6:=i2 hz
   omega
  ·have:=i1 (by omega)
   omega
theorem Dn.few {N:bt} (hR:N.Right) {least:Int} (hle:1≤least) {f f':List Int} {p k:Nat} (h:Dn N least f p k f') (hf:aT N f):(p:Int)+1≤N.nodes:=by
 obtain⟨lv,hlv⟩:=h.lev
 obtain⟨h1,h2⟩:=h.few0 hR hle hf lv hlv
 have hnn:=hR.nodes
 have hd:=hR.diff
 have hs:=hR.src
 have hk:=hR.snk
 by_cases hz:0≤bT lv N.snk.toNat
 ·have h3:=h2 hz
  have:bT lv N.snk.toNat≠0:=fun h0=>by
   have:=hlv.zero _ h0
   omega
  omega
 ·have:=h1 (by omega)
  omega
theorem um (N:bt) (hN:N.Fits) (hR:N.Right) (A:Option Addr) (c b o:Nat) (hA:N.arcs≠[]→A=some ⟨b,o,none⟩) (f:List Int) (hf:aT N f) (F:Option Addr) (cf bf of:Nat) (hF:f≠[]→F=some ⟨bf,of,none⟩) (least:Int) (hle:1≤least) (hlb:dw least) (sg:Int) (hsg:sg=112∨sg=116):
 Fn 40 [bi N A c,.slice F f.length cf,.int .i64 least,.int .u8 sg] [] [.seg b o (arcs N.arcs),.seg bf of (aw f)] fun v H'=>∃ (f':List Int) (p k s:Nat) (A':Option Addr) (c':Nat),Dn N least f p k f'∧(k:Int)≤9223372036854775806∧(p:Int)+1≤N.nodes∧(sg=112→s=0)∧(sg=116→2*N.arcs.length*p≤s)∧s≤fq N.nodes.toNat N.arcs.length*p∧
  v=.tuple #[kD A' f'.length c' p k s,.int .i64 0]∧H'=[.own (.slice A' f'.length c') 2 1 f'.length (aw f')]:=by
 rcases hsg with rfl|rfl
 ·refine (rI N hN hR A c b o hA f hf F cf bf of hF least hle).mono ?_
  rintro v H' ⟨f',p,k,A',c',hd,hk,rfl,rfl⟩
  exact⟨f',p,k,0,A',c',hd,hk,hd.few hR hle hf,fun _=>rfl,fun h=>absurd h (by decide),Nat.zero_le _,rfl,rfl⟩
 ·refine (oV N hN hR A c b o hA f hf F cf bf of hF least hle hlb).mono ?_
  rintro v H' ⟨f',p,k,s,A',c',hd,hk,hp,hs1,hs2,rfl,rfl⟩
  exact⟨f',p,k,s,A',c',hd,hk,hp,fun h=>absurd h (by decide),fun _=>hs1,hs2,rfl,rfl⟩
theorem vl (N:bt) (hN:N.Fits) (hR:N.Right) (A:Option Addr) (c b o:Nat) (hA:N.arcs≠[]→A=some ⟨b,o,none⟩) (sg:Int) (hsg:sg=112∨sg=116):
 Fn 22 [bi N A c,.int .u8 sg] [] [.seg b o (arcs N.arcs)] fun v H'=>∃ (f':List Int) (p k s:Nat) (A':Option Addr) (c':Nat),Dn N 1 (List.replicate N.arcs.length 0) p k f'∧(k:Int)≤9223372036854775806∧(p:Int)+1≤N.nodes∧(sg=112→s=0)∧(sg=116→2*N.arcs.length*p≤s)∧s≤fq N.nodes.toNat N.arcs.length*p∧
  v=.tuple #[kD A' f'.length c' p k s,.int .i64 0]∧H'=[.own (.slice A' f'.length c') 2 1 f'.length (aw f')]:=by
 rcases hsg with rfl|rfl
 ·refine (wU N hN hR A c b o hA).mono ?_
  rintro v H' ⟨f',p,k,A',c',hd,hk,rfl,rfl⟩
  exact⟨f',p,k,0,A',c',hd,hk,hd.few hR (by decide) (fT N hR),fun _=>rfl,fun h=>absurd h (by decide),Nat.zero_le _,rfl,rfl⟩
 ·refine (vE N hN hR A c b o hA).mono ?_
  rintro v H' ⟨f',p,k,s,A',c',hd,hk,hp,hs1,hs2,rfl,rfl⟩
  exact⟨f',p,k,s,A',c',hd,hk,hp,fun h=>absurd h (by decide),fun _=>hs1,hs2,rfl,rfl⟩
end Go.Proofs.YtpbmihpjgjbndaaGreat
/- The pairs of a graph, by either engine. -/
set_option linter.unusedVariables false
set_option linter.unusedSimpArgs false
namespace Go.Proofs.YtpbmihpjgjbndaaGreat
open Go.RowKit
set_option maxHeartbeats 1000000 in
theorem r9 (sg:Int) (hsg:sg=112∨sg=116) (g:Gr) (hg:g.Right) (A:Option Addr) (c b o:Nat) (hA:g.edges≠[]→A=some ⟨b,o,none⟩) (nl:Nat) (hnl:g.left=nl):Fn 14 [j7 g A c,.int .u8 sg] [] [.seg b o (cd g.edges)] fun v H'=>∃ (f:List Int) (ph wk:Nat) (A':Option Addr) (c':Nat),lR (b5 g) f∧Dn (b5 g) 1 (List.replicate (b5 g).arcs.length 0) ph wk f∧
 v=.tuple #[.slice A' (bX f nl g.edges.length).length c',.int .i64 0]∧H'=[.own (.slice A' (bX f nl g.edges.length).length c') 3 1 (bX f nl g.edges.length).length (aw (bX f nl g.edges.length))]:=by
 have h1:=hg.left
 have h2:=hg.right
 have h3:=hg.len
 have hR:=fU hg
 have hNl:=iS g
 refine aM Tryz.func14 rfl rfl fun w0=>?_
 refine ae (aa ?_)
 refine a6 (cs:=eE g A c) rfl rfl rfl (fun _=>rfl) fun p2=>?_
 refine af [] rfl ?_
 refine ae (aa ?_)
 refine ab [] (v:=j7 g A c) (ad 0 rfl rfl rfl rfl) rfl ?_
 refine ax [] (rV g hg A c b o hA) rfl rfl rfl rfl (by kernel_rfl) ⟨⟨1,_,by simp,rfl,ak _ _ _,ap⟩,trivial⟩ (fun _=>rfl) ?_
 rintro v H' ⟨A1,c1,rfl,rfl⟩
 refine⟨rfl,?_⟩
 refine fG (bp 0 rfl) fun ⟨_,_,hA1,hl1⟩=>?_
 obtain⟨g1,hA1⟩:=bQ hA1 hl1
 have hA1':(b5 g).arcs≠[]→A1=some ⟨g1,0,none⟩:=fun h=>hA1 (fun h0=>h (List.length_eq_zero_iff.1 (by have:=i8 (b5 g).arcs;rw[h0] at this;simp at this;omega)))
 refine ah [] rfl ?_
 refine aQ rfl rfl rfl (fun _=>rfl) fun p6=>?_
 refine aD 0 rfl rfl rfl rfl rfl [] rfl ?_
 refine af [] rfl ?_
 refine ae (ae (aa (af [] rfl ?_)))
 refine aC rfl (fun h=>absurd rfl h) (fun _=>aq ?_)
 refine ae (aa ?_)
 refine ab [] (v:=bi (b5 g) A1 c1) (ad 0 rfl rfl rfl rfl) rfl ?_
 refine ah [] rfl ?_
 refine ax [] (vl (b5 g) hR.fits' hR A1 c1 g1 0 hA1' sg hsg) rfl rfl rfl rfl (by kernel_rfl) ⟨⟨1,_,by simp,rfl,aS hA1,aZ hA1⟩,trivial⟩ (fun _=>rfl) ?_
 rintro v H' ⟨f,ph,wk,st,Af,cf,hdn,_,_,_,_,_,rfl,rfl⟩
 obtain⟨hf,_,_,lv,hlv,hlt⟩:=hdn.keeps hR (by decide) (fT _ hR)
 have hno:=oN hf.toRanged hlv hlt
 have hfl:=hf.len
 refine⟨rfl,?_⟩
 refine ah [] rfl ?_
 refine aQ rfl rfl rfl (fun _=>rfl) fun p8=>?_
 refine aD 0 rfl rfl rfl rfl rfl [] rfl ?_
 refine af [] rfl ?_
 refine ae (ae (aa (af [] rfl ?_)))
 refine aC rfl (fun h=>absurd rfl h) (fun _=>aq ?_)
 refine bG (bp 1 rfl) fun ⟨_,hcf,hAf,hlf⟩=>?_
 obtain⟨gf,hAf⟩:=bQ hAf hlf
 refine ae (aa (af [] rfl ?_))
 refine ae (ae (aa (ah [] rfl ?_)))
 refine ab [] (ad (v:=.slice Af f.length cf) 0 rfl rfl rfl rfl) rfl ?_
 refine ah [] rfl ?_
 refine ab [] (ad (v:=.int .i64 g.left) 4 rfl rfl rfl rfl) rfl ?_
 refine ah [] rfl ?_
 refine ab [] (ad (v:=.int .i64 g.left) 4 rfl rfl rfl rfl) rfl ?_
 refine ah [] rfl ?_
 refine ab [] (ad (v:=.slice A g.edges.length c) 4 rfl rfl rfl rfl) rfl ?_
 refine ah [] rfl ?_
 refine av 32 (v':=.int .i64 (nl:Int)) rfl (congrArg (Value.int .i64) hnl) ?_
 refine av 38 (v':=.int .i64 ((nl+g.edges.length:Nat):Int)) rfl (congrArg (Value.int .i64) ((bK (by omega)).trans (by omega))) ?_
 refine ab [] (uN rfl rfl rfl rfl rfl rfl (by omega) (by omega)) rfl ?_
 refine av 39 (v':=.slice (hZ Af cf nl 1) g.edges.length (cf-nl)) rfl (by show Value.slice _ _ _=_;congr 1;omega) ?_
 refine af [] rfl ?_
 refine aV 40 (v':=.int .i64 g.edges.length) rfl (congrArg (Value.int .i64) (by omega)) ?_
 refine bO 3 1 ?_
 refine au ?_
 refine bu (σ:=Nat×Option Addr×Nat) (fun s=>[(41,.int .i64 s.1),(40,.int .i64 g.edges.length),(39,.slice (hZ Af cf nl 1) g.edges.length (cf-nl)),(9,.slice s.2.1 (bX f nl s.1).length s.2.2)])
  (fun s=>[.own (.slice s.2.1 (bX f nl s.1).length s.2.2) 3 1 (bX f nl s.1).length (aw (bX f nl s.1)),.own (.slice Af f.length cf) 2 1 f.length (aw f)]) (fun s=>s.1≤g.edges.length) (fun s=>g.edges.length-s.1)
  (0,none,0) [0,2] ⟨rfl,rfl,rfl,rfl,trivial⟩ (by decide) rfl (Nat.zero_le _) ?_
 rintro⟨k,A2,c2⟩ hk
 simp only at hk ⊢
 have hpl:=gO f nl k
 have hps:=iN f nl k
 refine ae (aa (af [] rfl ?_))
 refine ae (aC rfl (fun hlt=>aq ?_) (fun hge=>aO ?_))
 ·have hlt:k<g.edges.length:=by omega
  obtain⟨x,hx⟩:∃ x,f[nl+k]?=some x:=⟨f[nl+k]'(by omega),List.getElem?_eq_getElem (by omega)⟩
  have hxd:f.getD (nl+k) 0=x:=by rw[List.getD_eq_getElem?_getD,hx];rfl
  have hfne:aw f≠[]:=by
   intro h0
   have:f.length=0:=by rw[← bh,h0];rfl
   omega
  obtain rfl:=hAf hfne
  have hcut:hZ (some ⟨gf,0,none⟩) cf nl 1=some ⟨gf,nl,none⟩:=by
   have:=kh (A:=some ⟨gf,0,none⟩) (c:=cf) (l:=nl) (n:=f.length) (sz:=1) (fun _=>rfl) hcf (by omega)
   rw[this];simp
  rw[hcut]
  have hq:IntKind.i64.wrap ((k:Int)+1)=((k+1:Nat):Int):=bK (by omega)
  refine ae (au ?_)
  refine ae (aa (ah [] rfl ?_))
  refine ab [] (cW rfl rfl rfl rfl rfl hlt) rfl ?_
  refine ab [] (dW (b:=gf) (off:=nl) (i:=k) (cs:=(aw f).drop nl) (v:=.int .i64 x) (c:=.own (.slice (some ⟨gf,0,none⟩) f.length cf) 2 1 f.length (aw f)) 1 rfl rfl rfl
   (by have:=jN (cp (g:=gf) (e:=2) (sz:=1) (n:=f.length) (cap:=cf) (xs:=aw f)) nl;rw[Nat.zero_add] at this;exact this)
   (by show ((aw f).drop nl)[k]?=_;rw[List.getElem?_drop];exact cR hx)) rfl ?_
  refine af [] rfl ?_
  refine ae (aa (af [] rfl ?_))
  refine aC rfl (fun hgo=>?_) (fun hno2=>aq ?_)
  ·rw[if_pos (by omega)] at hps
   refine aa (ah [] rfl ?_)
   refine b8 rfl rfl rfl rfl rfl rfl rfl (fun _=>rfl) fun g2=>?_
   refine a9 (n:=(bX f nl k).length) (m:=1) (off:=0) (news:=aw [(k:Int)]) 1 0 rfl rfl rfl rfl rfl rfl (by decide) rfl rfl (aR g2 _ _ (0,0)) (fun _=>rfl) rfl rfl (by omega) (by omega) (fun _ _=>rfl) fun A3 c3=>?_
   rw[show (bX f nl k).length+1=(bX f nl (k+1)).length by rw[hps];simp,show aw (bX f nl k)++aw [(k:Int)]=aw (bX f nl (k+1)) by rw[hps];simp[aw]]
   refine af [] rfl ?_
   refine aa (af [] rfl ?_)
   exact⟨(k+1,A3,c3),[1,2],⟨congrArg some (congrArg (Value.int .i64) hq),rfl,rfl,rfl,trivial⟩,by decide,rfl,by simp only;omega,by simp only;omega⟩
  ·rw[if_neg (by omega),List.append_nil] at hps
   refine aa (af [] rfl ?_)
   exact⟨(k+1,A2,c2),[0,1],⟨congrArg some (congrArg (Value.int .i64) hq),rfl,rfl,by simp only[hps];rfl,trivial⟩,by decide,by simp only[hps];rfl,by simp only;omega,by simp only;omega⟩
 ·obtain rfl:k=g.edges.length:=by omega
  refine ae (aa (af [] rfl ?_))
  exact aE [0] (by decide) rfl (aB ⟨_,rfl,f,ph,wk,A2,c2,⟨hf,hno⟩,hdn,rfl,rfl⟩)
end Go.Proofs.YtpbmihpjgjbndaaGreat
/- The references' words: what is wrong with a network. -/
set_option linter.unusedVariables false
set_option linter.unusedSimpArgs false
namespace Go.Proofs.YtpbmihpjgjbndaaGreat
open Go.RowKit
set_option maxHeartbeats 2000000 in
theorem sx (N:bt) (hN:N.Fits) (A:Option Addr) (c b o:Nat) (hA:N.arcs≠[]→A=some ⟨b,o,none⟩):Fn 80 [bi N A c] [] [.seg b o (arcs N.arcs)] fun v H'=>v=.int .i64 (bW N)∧H'=[]:=by
 have hln:=hN.len
 refine aM Tryz.func80 rfl rfl fun w0=>?_
 refine ae (aa ?_)
 refine a6 (cs:=bJ N A c) rfl rfl rfl (fun _=>rfl) fun p=>?_
 refine af [] rfl ?_
 refine ae ?_
 refine dg [(13,.bool (cU (N.nodes<2∨500<N.nodes))),(1,.pointer (some ⟨p,0,none⟩))] [blk p 50 (bJ N A c),.seg b o (arcs N.arcs)] ?_ ?_
 ·skip
  refine aa (ah [] rfl ?_)
  refine ab [] (v:=.int .i64 N.nodes) (ad 0 rfl rfl rfl rfl) rfl ?_
  refine ao (gs:=[999]) rfl ?_
  refine ao (gs:=[999]) rfl ?_
  by_cases h1:N.nodes<2
  ·refine av 9 (v':=.bool true) rfl (congrArg Value.bool (az h1)) ?_
   refine af [3] rfl ?_
   exact⟨[0,1],⟨congrArg some (congrArg Value.bool (az (.inl h1)).symm),rfl,trivial⟩,by decide,rfl⟩
  ·refine av 9 (v':=.bool false) rfl (congrArg Value.bool (aA h1)) ?_
   refine ah [3] rfl ?_
   refine ab [3] (v:=.int .i64 N.nodes) (ad 0 rfl rfl rfl rfl) rfl ?_
   refine af [3] rfl ?_
   exact⟨[0,1],⟨congrArg some (congrArg Value.bool (db ⟨fun h=>.inr h,fun h=>h.resolve_left h1⟩)),rfl,trivial⟩,by decide,rfl⟩
 refine aC rfl (fun h=>?_) (fun c1=>aq ?_)
 ·refine ae (aa (af [] rfl ?_))
  refine aE [] (by decide) rfl (aB ⟨_,rfl,?_,rfl⟩)
  unfold bW;rw[if_pos h];rfl
 refine ae ?_
 refine dg [(35,.bool (cU (¬ (cY N N.src∧cY N N.snk)))),(1,.pointer (some ⟨p,0,none⟩))] [blk p 50 (bJ N A c),.seg b o (arcs N.arcs)] ?_ ?_
 ·have yes:∀ {q:Prop},(q→¬ (cY N N.src∧cY N N.snk))→q→some (Value.bool true)=some (Value.bool (cU (¬ (cY N N.src∧cY N N.snk)))):=fun h hq=>congrArg some (congrArg Value.bool (az (h hq)).symm)
  refine aa (ah [] rfl ?_)
  refine ab [] (v:=.int .i64 N.src) (ad 0 rfl rfl rfl rfl) rfl ?_
  refine ao (gs:=[999]) rfl ?_
  refine ao (gs:=[999]) rfl ?_
  by_cases h1:N.src<1
  ·refine av 17 (v':=.bool true) rfl (congrArg Value.bool (az h1)) ?_
   refine af [3,10,15] rfl ?_
   exact⟨[0,1],⟨yes (fun (h:N.src<1)=>fun hc=>by unfold cY at hc;omega) h1,rfl,trivial⟩,by decide,rfl⟩
  refine av 17 (v':=.bool false) rfl (congrArg Value.bool (aA h1)) ?_
  refine ah [3] rfl ?_
  refine ab [3] (v:=.int .i64 N.src) (ad 0 rfl rfl rfl rfl) rfl ?_
  refine ah [3] rfl ?_
  refine ab [3] (v:=.int .i64 N.nodes) (ad 0 rfl rfl rfl rfl) rfl ?_
  refine ah [3] rfl ?_
  by_cases h2:N.nodes<N.src
  ·refine av 24 (v':=.bool true) rfl (congrArg Value.bool (az h2)) ?_
   refine af [3,10,15] rfl ?_
   exact⟨[0,1],⟨yes (fun (h:N.nodes<N.src)=>fun hc=>by unfold cY at hc;omega) h2,rfl,trivial⟩,by decide,rfl⟩
  refine av 24 (v':=.bool false) rfl (congrArg Value.bool (aA h2)) ?_
  refine ah [3,10] rfl ?_
  refine ab [3,10] (v:=.int .i64 N.snk) (ad 0 rfl rfl rfl rfl) rfl ?_
  refine ah [3,10] rfl ?_
  by_cases h3:N.snk<1
  ·refine av 29 (v':=.bool true) rfl (congrArg Value.bool (az h3)) ?_
   refine af [3,10,15] rfl ?_
   exact⟨[0,1],⟨yes (fun (h:N.snk<1)=>fun hc=>by unfold cY at hc;omega) h3,rfl,trivial⟩,by decide,rfl⟩
  refine av 29 (v':=.bool false) rfl (congrArg Value.bool (aA h3)) ?_
  refine ah [3,10,15] rfl ?_
  refine ab [3,10,15] (v:=.int .i64 N.snk) (ad 0 rfl rfl rfl rfl) rfl ?_
  refine ah [3,10,15] rfl ?_
  refine ab [3,10,15] (v:=.int .i64 N.nodes) (ad 0 rfl rfl rfl rfl) rfl ?_
  refine af [3,10,15] rfl ?_
  exact⟨[0,1],⟨congrArg some (congrArg Value.bool (db ⟨fun h hc=>by unfold cY at hc;omega,fun h=>Classical.byContradiction fun h'=>h (by unfold cY;omega)⟩)),rfl,trivial⟩,by decide,rfl⟩
 refine aC rfl (fun h=>?_) (fun c2=>aq ?_)
 ·refine ae (aa (af [] rfl ?_))
  refine aE [] (by decide) rfl (aB ⟨_,rfl,?_,rfl⟩)
  unfold bW;rw[if_neg c1,if_pos h];rfl
 refine ae (ae (aa (ah [] rfl ?_)))
 refine ab [] (v:=.int .i64 N.src) (ad 0 rfl rfl rfl rfl) rfl ?_
 refine ah [] rfl ?_
 refine ab [] (v:=.int .i64 N.snk) (ad 0 rfl rfl rfl rfl) rfl ?_
 refine af [] rfl ?_
 refine aC rfl (fun h5=>?_) (fun h5=>aq ?_)
 ·refine ae (aa (af [] rfl ?_))
  refine aE [] (by decide) rfl (aB ⟨_,rfl,?_,rfl⟩)
  unfold bW;rw[if_neg c1,if_neg c2,if_pos h5];rfl
 refine ae (ae (aa (ah [] rfl ?_)))
 refine ab [] (v:=.slice A N.arcs.length c) (ad 0 rfl rfl rfl rfl) rfl ?_
 refine af [] rfl ?_
 refine aC rfl (fun h6=>?_) (fun h6=>aq ?_)
 ·refine ae (aa (af [] rfl ?_))
  refine aE [] (by decide) rfl (aB ⟨_,rfl,?_,rfl⟩)
  unfold bW;rw[if_neg c1,if_neg c2,if_neg h5,if_pos (by omega)];rfl
 have hck:bW N=ew N 0 N.arcs:=by unfold bW;rw[if_neg c1,if_neg c2,if_neg h5,if_neg (by omega)]
 rw[hck]
 refine ae (aa (af [] rfl ?_))
 refine ae (ae (aa (af [] rfl ?_)))
 refine au ?_
 refine bM (σ:=Nat×Int) (fun s=>[(4,.int .i64 (s.1:Int)),(3,.int .i64 (4611686018427387903-s.2)),(1,.pointer (some ⟨p,0,none⟩))])
  (fun s=>[blk p 50 (bJ N A c),.seg b o (arcs N.arcs)]) (fun s=>s.1≤N.arcs.length∧(0≤s.2∧s.2≤4611686018427387903)∧ew N 0 N.arcs=ew N s.2 (N.arcs.drop s.1)) (fun s=>N.arcs.length-s.1)
  (0,0) ⟨rfl,rfl,rfl,trivial⟩ aH.refl ⟨Nat.zero_le _,by decide,rfl⟩ ?_
 rintro⟨k,n⟩ ⟨hk,hn,hbad⟩
 simp only at hk hn hbad ⊢
 refine ae (ae (aa (ah [] rfl ?_)))
 refine ab [] (v:=.slice A N.arcs.length c) (ad 0 rfl rfl rfl rfl) rfl ?_
 refine af [] rfl ?_
 refine aC rfl (fun hlt=>aq ?_) (fun hge=>aO ?_)
 ·have hlt:k<N.arcs.length:=by omega
  obtain rfl:=hA (by intro h;rw[h] at hlt;simp at hlt)
  obtain⟨x,hx⟩:∃ x,N.arcs[k]?=some x:=⟨N.arcs[k],List.getElem?_eq_getElem hlt⟩
  have hxB:=hN.arc x (List.mem_of_getElem? hx)
  have hd:N.arcs.drop k=x::N.arcs.drop (k+1):=by
   obtain⟨_,rfl⟩:=List.getElem?_eq_some_iff.1 hx
   rw[List.drop_eq_getElem_cons hlt]
  rw[hd,ew] at hbad
  refine ae (au ?_)
  refine ae (aa (ah [] rfl ?_))
  refine ab [] (v:=.slice (some ⟨b,o,none⟩) N.arcs.length c) (ad 0 rfl rfl rfl rfl) rfl ?_
  refine ah [] rfl ?_
  refine ab [] (eH rfl rfl rfl rfl rfl hlt) rfl ?_
  refine ab [] (aU 1 rfl rfl rfl rfl (gW hx)) rfl ?_
  refine aQ rfl rfl rfl (fun _=>rfl) fun q=>?_
  refine aD 0 rfl rfl rfl rfl rfl [] rfl ?_
  refine aj ?_
  refine ae ?_
  refine dg [(78,.bool (cU (¬ (cY N x.fr∧cY N x.to)))),(5,.pointer (some ⟨q,0,none⟩)),(4,.int .i64 (k:Int)),(3,.int .i64 (4611686018427387903-n)),(1,.pointer (some ⟨p,0,none⟩))] [blk q 112 [.int .i64 x.fr,.int .i64 x.to,.int .i64 x.cap],blk p 50 (bJ N (some ⟨b,o,none⟩) c),.seg b o (arcs N.arcs)] ?_ ?_
  ·have yes:∀ {q:Prop},(q→¬ (cY N x.fr∧cY N x.to))→q→some (Value.bool true)=some (Value.bool (cU (¬ (cY N x.fr∧cY N x.to)))):=fun h hq=>congrArg some (congrArg Value.bool (az (h hq)).symm)
   refine aa (ah [] rfl ?_)
   refine ab [] (v:=.int .i64 x.fr) (ad 0 rfl rfl rfl rfl) rfl ?_
   refine ao (gs:=[999]) rfl ?_
   refine ao (gs:=[999]) rfl ?_
   by_cases h1:x.fr<1
   ·refine av 60 (v':=.bool true) rfl (congrArg Value.bool (az h1)) ?_
    refine af [3,10,15] rfl ?_
    exact⟨[0,1,2],⟨yes (fun (h:x.fr<1)=>fun hc=>by unfold cY at hc;omega) h1,rfl,rfl,rfl,rfl,trivial⟩,by decide,rfl⟩
   refine av 60 (v':=.bool false) rfl (congrArg Value.bool (aA h1)) ?_
   refine ah [3] rfl ?_
   refine ab [3] (v:=.int .i64 x.fr) (ad 0 rfl rfl rfl rfl) rfl ?_
   refine ah [3] rfl ?_
   refine ab [3] (v:=.int .i64 N.nodes) (ad 1 rfl rfl rfl rfl) rfl ?_
   refine ah [3] rfl ?_
   by_cases h2:N.nodes<x.fr
   ·refine av 67 (v':=.bool true) rfl (congrArg Value.bool (az h2)) ?_
    refine af [3,10,15] rfl ?_
    exact⟨[0,1,2],⟨yes (fun (h:N.nodes<x.fr)=>fun hc=>by unfold cY at hc;omega) h2,rfl,rfl,rfl,rfl,trivial⟩,by decide,rfl⟩
   refine av 67 (v':=.bool false) rfl (congrArg Value.bool (aA h2)) ?_
   refine ah [3,10] rfl ?_
   refine ab [3,10] (v:=.int .i64 x.to) (ad 0 rfl rfl rfl rfl) rfl ?_
   refine ah [3,10] rfl ?_
   by_cases h3:x.to<1
   ·refine av 72 (v':=.bool true) rfl (congrArg Value.bool (az h3)) ?_
    refine af [3,10,15] rfl ?_
    exact⟨[0,1,2],⟨yes (fun (h:x.to<1)=>fun hc=>by unfold cY at hc;omega) h3,rfl,rfl,rfl,rfl,trivial⟩,by decide,rfl⟩
   refine av 72 (v':=.bool false) rfl (congrArg Value.bool (aA h3)) ?_
   refine ah [3,10,15] rfl ?_
   refine ab [3,10,15] (v:=.int .i64 x.to) (ad 0 rfl rfl rfl rfl) rfl ?_
   refine ah [3,10,15] rfl ?_
   refine ab [3,10,15] (v:=.int .i64 N.nodes) (ad 1 rfl rfl rfl rfl) rfl ?_
   refine af [3,10,15] rfl ?_
   exact⟨[0,1,2],⟨congrArg some (congrArg Value.bool (db ⟨fun h hc=>by unfold cY at hc;omega,fun h=>Classical.byContradiction fun h'=>h (by unfold cY;omega)⟩)),rfl,rfl,rfl,rfl,trivial⟩,by decide,rfl⟩
  refine aC rfl (fun h=>?_) (fun h7=>aq ?_)
  ·refine ae (aa (af [] rfl ?_))
   refine aE [] (by decide) rfl (aB ⟨_,rfl,?_,rfl⟩)
   rw[hbad,if_pos h];rfl
  rw[if_neg h7] at hbad
  refine ae (ae (aa (ah [] rfl ?_)))
  refine ab [] (v:=.int .i64 x.cap) (ad 0 rfl rfl rfl rfl) rfl ?_
  refine af [] rfl ?_
  refine aC rfl (fun h9=>?_) (fun h9=>aq ?_)
  ·refine ae (aa (af [] rfl ?_))
   refine aE [] (by decide) rfl (aB ⟨_,rfl,?_,rfl⟩)
   rw[hbad,if_pos h9];rfl
  rw[if_neg h9] at hbad
  refine ae (ae (aa (ah [] rfl ?_)))
  refine ab [] (v:=.int .i64 x.cap) (ad 0 rfl rfl rfl rfl) rfl ?_
  refine af [] rfl ?_
  refine aC rfl (fun h10=>?_) (fun h10=>aq ?_)
  ·refine ae (aa (af [] rfl ?_))
   refine aE [] (by decide) rfl (aB ⟨_,rfl,?_,rfl⟩)
   rw[hbad,if_pos (.inr (by omega))];rfl
  have hx2:=hxB.2.2
  rw[if_neg (by unfold dw at hx2 ⊢;omega)] at hbad
  refine aa (ah [] rfl ?_)
  refine ab [] (v:=.int .i64 x.cap) (ad 0 rfl rfl rfl rfl) rfl ?_
  refine af [] rfl ?_
  refine aa (af [] rfl ?_)
  refine⟨(k+1,n+x.cap),⟨?_,?_,rfl,trivial⟩,aH.picks [1,2] (by decide) rfl,⟨by simp only;omega,by simp only;omega,hbad⟩,by simp only;omega⟩
  ·show some (Value.int .i64 (IntKind.i64.wrap ((k:Int)+1)))=_
   rw[bK (by omega)];rfl
  ·show some (Value.int .i64 (IntKind.i64.wrap (4611686018427387903-n-x.cap)))=_
   rw[bK (by omega)]
   exact congrArg some (congrArg (Value.int .i64) (by omega))
 ·have hk':k=N.arcs.length:=by omega
  subst hk'
  rw[List.drop_length,ew] at hbad
  refine ae (aa (af [] rfl ?_))
  refine aE [] (by decide) rfl (aB ⟨_,rfl,by rw[hbad];rfl,rfl⟩)
noncomputable def dT (N:bt) (f:List Int):Int:=if bW N≠0 then bW N else ez N f
end Go.Proofs.YtpbmihpjgjbndaaGreat
