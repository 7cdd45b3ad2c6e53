/- A report is read back. -/
import Derived.Test.YtpbmihpjgjbndaaGreatDoorRepD
import Derived.Test.YtpbmihpjgjbndaaGreatDoorQX29
import Derived.Test.YtpbmihpjgjbndaaGreatDoorQX47
import Derived.Test.YtpbmihpjgjbndaaGreatDoorQX38
import Derived.Test.YtpbmihpjgjbndaaGreatDoorQX37
set_option linter.unusedVariables false
set_option linter.unusedSimpArgs false
namespace Go.Proofs.YtpbmihpjgjbndaaGreatDoor
open Go.RowKit
open Lib
theorem th (l:List UInt8):(⟨l.toArray⟩:ByteArray).size=l.length:=by rfl
theorem xc {l:List (List UInt8)} (h:l≠[]):dX l≠[]:=by
 cases l with
 |nil=>exact absurd rfl h
 |cons x l=>simp[dX]
set_option maxHeartbeats 4000000 in
theorem mG (V:fC) (nd:Int) (hnd:bT nd) (en:Int) (hen:bT en) (A:Option Addr) (c b o:Nat) (l:List dH) (hA:l≠[]→A=some ⟨b,o,none⟩) (hl:∀ x∈l,bT x.fr∧bT x.to∧bT x.cap) (hs:l.length*24≤140737488351232)
 (K:Option Addr) (ck bk ok:Nat) (k:List Int) (hK:k≠[]→K=some ⟨bk,ok,none⟩) (hk:∀ x∈k,bT x) (hks:k.length*8≤140737488351232)
 (es:List UInt8) (wes:es.length≤140737488351232):
 Fn 3 [.int .i64 nd,.int .i64 en,.slice A l.length c,.slice K k.length ck,eh es] [] ([.seg b o (arcs l),.seg bk ok (ao k)]++V.heap) fun v _=>v=.bool true:=by
 refine aS Tryz.func3 rfl rfl fun w0=>?_
 refine ad (aa (ae [] rfl ?_))
 refine ad (aa (ah [] rfl ?_))
 refine av [] (rk V) rfl rfl rfl rfl (by kernel_rfl) ⟨⟨2,by simp,rfl⟩,⟨3,by simp,rfl⟩,⟨4,by simp,rfl⟩,trivial⟩ (fun _=>rfl) ?_
 rintro v H' ⟨rfl,rfl⟩
 refine⟨rfl,?_⟩
 refine ae [] rfl ?_
 refine ad (ad (aa (ah [] rfl ?_)))
 refine ae [2] rfl ?_
 refine aD rfl (fun hlen=>?_) (fun hlen=>aw ?_)
 ·refine ad (aa (ae [] rfl ?_))
  exact aE [] (by decide) rfl (aB ⟨_,rfl,rfl⟩)
 have hlen:es.length≤3000:=by rw[th] at hlen;omega
 refine ad (aa (ah [] rfl ?_))
 refine av [] (uy nd en hnd hen A c b o l hA hl (by omega)) rfl rfl rfl rfl (by kernel_rfl) ⟨⟨0,_,by simp,rfl,aq _ _ _,ay⟩,trivial⟩ (fun _=>rfl) ?_
 rintro v H' ⟨N,A',c',hR,hn9,hl24,hcap,rfl,rfl⟩
 refine⟨rfl,?_⟩
 refine cm rfl rfl rfl (fun _=>rfl) fun p12=>?_
 refine aY 0 rfl rfl rfl rfl rfl [] rfl ?_
 refine d7 (be 1 rfl) fun ⟨_,_,hA1,hl1⟩=>?_
 obtain⟨g1,hA1⟩:=ci hA1 hl1
 refine ae [] rfl ?_
 have hN:=hR.fits'
 refine ad (aa (ah [] rfl ?_))
 refine ab [] (v:=br N A' c') (af 0 rfl rfl rfl rfl) rfl ?_
 refine av [] (xj N hN hR A' c' g1 0 (eE hA1) 112 (.inl rfl)) rfl rfl rfl rfl (by kernel_rfl) ⟨⟨1,_,by simp,rfl,aT hA1,aU hA1⟩,trivial⟩ (fun _=>rfl) ?_
 rintro v H' ⟨f',ph,kk,st',AF,cF,hd,_,_,_,_,_,rfl,rfl⟩
 refine⟨rfl,?_⟩
 have hMx:ky N f':=rz.max hR (sg:=112) (.inl ⟨.inl rfl,ph,kk,hd⟩)
 refine ah [] rfl ?_
 refine cm rfl rfl rfl (fun _=>rfl) fun p13=>?_
 refine aY 0 rfl rfl rfl rfl rfl [] rfl ?_
 refine d7 (be 1 rfl) fun ⟨_,_,hAF,hlF⟩=>?_
 obtain⟨gF,hAF⟩:=ci hAF hlF
 refine ae [] rfl ?_
 have hFl:=hMx.1.len
 have hl2:=hR.len
 refine ad (aa (ah [] rfl ?_))
 refine ab [] (v:=br N A' c') (af 2 rfl rfl rfl rfl) rfl ?_
 refine ah [] rfl ?_
 refine ab [] (v:=.slice AF f'.length cF) (af 0 rfl rfl rfl rfl) rfl ?_
 obtain⟨n,hn⟩:∃ n:Nat,N.nodes=n:=⟨N.nodes.toNat,by have:=hR.nodes;omega⟩
 refine av [] (wg N hN hR A' c' g1 0 (eE hA1) f' AF cF gF 0 (fb hAF) (aI.inB hR hMx.1.toRanged) (by omega) n hn) rfl rfl rfl rfl (by kernel_rfl) ⟨⟨3,_,by simp,rfl,aT hA1,aU hA1⟩,⟨1,_,by simp,rfl,aT hAF,aU hAF⟩,trivial⟩ (fun _=>rfl) ?_
 rintro v H' (⟨_,_,lb,As,cs,hlb,hlv,rfl,rfl⟩|⟨k1,_⟩|⟨_,k1,_⟩)
 case inr.inl=>exact absurd hMx.1 k1
 case inr.inr=>exact absurd k1 hMx.2
 refine⟨rfl,?_⟩
 obtain⟨hcut,hcapS⟩:=td hR hMx (s:=bQ lb true (n+1)) ⟨lb,n,hn,hlb,hlv,rfl⟩
 have hsl:=gD lb true (n+1)
 generalize bQ lb true (n+1)=s at*
 refine d7 (be 0 rfl) fun ⟨_,_,hAs,hls⟩=>?_
 obtain⟨gs,hAs⟩:=ci hAs hls
 refine ae [] rfl ?_
 refine ad (aa (ah [] rfl ?_))
 refine ab [] (v:=br N A' c') (af 3 rfl rfl rfl rfl) rfl ?_
 refine ah [] rfl ?_
 refine av [] (qG N hR A' c' g1 0 (eE hA1) K ck bk ok k hK hk hks) rfl rfl rfl rfl (by kernel_rfl) ⟨⟨4,_,by simp,rfl,aT hA1,aU hA1⟩,⟨6,_,by simp,rfl,aq _ _ _,ay⟩,trivial⟩ (fun _=>rfl) ?_
 rintro v H' ⟨f,gf,rfl,rfl,hf⟩
 refine⟨rfl,?_⟩
 have hfl:=hf.len
 refine ae [] rfl ?_
 have hfi:=aI.inB hR hf.toRanged
 have hsi:∀ x∈s,bT x:=fun x hx=>by have:=hcut.rng x hx;have:=hR.nodes;unfold bT;omega
 have TP:=jd V N hN hR A' c' g1 0 (eE hA1) f hfi (by omega) (some ⟨gf,0,none⟩) N.arcs.length gf 0 (fun _=>rfl) s hsi (by omega) As cs gs 0 (fb hAs)
 rw[hfl] at TP
 refine ad (aa (ah [] rfl ?_))
 refine ab [] (v:=br N A' c') (af 4 rfl rfl rfl rfl) rfl ?_
 refine ah [] rfl ?_
 refine av [] TP rfl rfl rfl rfl (by kernel_rfl) ⟨⟨5,_,by simp,rfl,aT hA1,aU hA1⟩,⟨0,_,by simp,rfl,bI,aU (fun _=>rfl)⟩,⟨1,_,by simp,rfl,aT hAs,aU hAs⟩,⟨8,by simp,rfl⟩,⟨9,by simp,rfl⟩,⟨10,by simp,rfl⟩,trivial⟩ (fun _=>rfl) ?_
 rintro v H' ⟨rfl,rfl⟩
 refine⟨rfl,?_⟩
 have hrep:=uO hR hf hcut
 rw[hcapS] at hrep
 obtain⟨vv,hvv⟩:∃ vv,vv=df (N.arcs.zip f) N.snk:=⟨_,rfl⟩
 obtain⟨uu,huu⟩:∃ uu,uu=df (N.arcs.zip f') N.snk:=⟨_,rfl⟩
 have hvB:bT vv:=by have:=da hR hf.toRanged N.snk;rw[hvv];unfold bT;omega
 have huB:bT uu:=by have:=da hR hMx.1.toRanged N.snk;rw[huu];unfold bT;omega
 have hr:iH N f s=.tuple #[eh (ft f s vv uu),.int .i64 0]:=by unfold iH;rw[if_pos hf,if_pos hcut,hvv,huu,hcapS]
 rw[← hvv,← huu] at hrep
 rw[hr]
 refine ae [] rfl ?_
 have htl:(ft f s vv uu).length≤90000:=by
  have h1:=rD f hfi f.length (Nat.le_refl _) (by omega)
  have h2:=rH s hsi s.length (Nat.le_refl _)
  have h3:=eN [118,97,108,117,101] [vv] (fun n hn=>by rw[List.mem_singleton.1 hn];exact hvB)
  have h4:=eN [99,117,116] [uu] (fun n hn=>by rw[List.mem_singleton.1 hn];exact huB)
  have h5:(kn vv uu).length≤100:=by
   unfold kn
   split<;>(refine Nat.le_trans (eN _ [] (fun n hn=>absurd hn List.not_mem_nil)) (by simp))
  simp only[List.length_cons,List.length_nil] at h3 h4
  unfold ft fX
  simp only[List.length_append]
  have:=hR.nodes
  omega
 refine ad (aa (ah [] rfl ?_))
 refine ab [] (v:=br N A' c') (af 4 rfl rfl rfl rfl) rfl ?_
 refine ah [] rfl ?_
 refine av [] (nD V N hN hR A' c' g1 0 (eE hA1) (ft f s vv uu) htl) rfl rfl rfl rfl (by kernel_rfl) ⟨⟨5,_,by simp,rfl,aT hA1,aU hA1⟩,⟨8,by simp,rfl⟩,⟨9,by simp,rfl⟩,⟨10,by simp,rfl⟩,trivial⟩ (fun _=>rfl) ?_
 rintro v H' (⟨f2,s2,A3,B3,c3,d3,hrep2,rfl,rfl⟩|⟨hno,_⟩)
 case inr=>exact absurd ⟨f,s,hrep⟩ hno
 obtain⟨rfl,rfl⟩:=hrep.uniq hrep2
 refine⟨rfl,?_⟩
 refine d7 (be 0 rfl) fun ⟨_,_,hA3,hl3⟩=>?_
 obtain⟨g3,hA3⟩:=ci hA3 hl3
 refine d7 (be 1 rfl) fun ⟨_,_,hB3,hl4⟩=>?_
 obtain⟨g4,hB3⟩:=ci hB3 hl4
 refine ae [] rfl ?_
 have TV:=kZ N hN hR A' c' g1 0 (eE hA1) f (some ⟨gf,0,none⟩) N.arcs.length gf 0 (fun _=>rfl) hfi (by omega)
 rw[hfl] at TV
 refine ad (aa (ah [] rfl ?_))
 refine ab [] (v:=br N A' c') (af 6 rfl rfl rfl rfl) rfl ?_
 refine ah [] rfl ?_
 refine av [] TV rfl rfl rfl rfl (by kernel_rfl) ⟨⟨7,_,by simp,rfl,aT hA1,aU hA1⟩,⟨2,_,by simp,rfl,bI,aU (fun _=>rfl)⟩,trivial⟩ (fun _=>rfl) ?_
 rintro v H' ⟨⟨rfl,_⟩|⟨_,hno⟩,rfl⟩
 case inr=>exact absurd hf hno
 refine⟨rfl,?_⟩
 rw[← hvv]
 refine ae [] rfl ?_
 refine ad (aa (ah [] rfl ?_))
 refine ab [] (v:=br N A' c') (af 6 rfl rfl rfl rfl) rfl ?_
 refine ah [] rfl ?_
 refine ab [] (v:=.slice AF f'.length cF) (af 4 rfl rfl rfl rfl) rfl ?_
 refine av [] (kZ N hN hR A' c' g1 0 (eE hA1) f' AF cF gF 0 (fb hAF) (aI.inB hR hMx.1.toRanged) (by omega)) rfl rfl rfl rfl (by kernel_rfl) ⟨⟨7,_,by simp,rfl,aT hA1,aU hA1⟩,⟨5,_,by simp,rfl,aT hAF,aU hAF⟩,trivial⟩ (fun _=>rfl) ?_
 rintro v H' ⟨⟨rfl,_⟩|⟨_,hno⟩,rfl⟩
 case inr=>exact absurd hMx.1 hno
 refine⟨rfl,?_⟩
 rw[← huu]
 refine ae [] rfl ?_
 refine ad (ad (aa (ah [] rfl ?_)))
 refine ax 90 (v':=.bool false) rfl (congrArg Value.bool (aA (fun h=>h rfl))) ?_
 refine ah [2] rfl ?_
 refine ax 94 (v':=.bool false) rfl (congrArg Value.bool (aA (fun h=>h rfl))) ?_
 refine ah [2,6] rfl ?_
 refine ax 98 (v':=.bool false) rfl (congrArg Value.bool (aA (fun h=>h rfl))) ?_
 refine ah [2,6,10] rfl ?_
 have TS:Fn 18 [.slice A3 f.length c3,.slice (some ⟨gf,0,none⟩) N.arcs.length N.arcs.length] [] [.seg g3 0 (ao f),.seg gf 0 (ao f)] fun u H'=>u=.bool (dj (f=f))∧H'=[]:=by
  have h:=vQ A3 c3 g3 0 f (fb hA3) (by omega) (some ⟨gf,0,none⟩) N.arcs.length gf 0 f (fun _=>rfl)
  rw[hfl] at h ⊢
  exact h
 refine av [2,6,10] TS rfl rfl rfl rfl (by kernel_rfl) ⟨⟨0,_,by simp,rfl,aT hA3,aU hA3⟩,⟨2,_,by simp,rfl,bI,aU (fun _=>rfl)⟩,trivial⟩ (fun _=>rfl) ?_
 rintro v H' ⟨hv,rfl⟩
 obtain rfl:=hv.trans (congrArg Value.bool (az rfl))
 refine⟨rfl,?_⟩
 refine ah [2,6,10,16] rfl ?_
 refine av [2,6,10,16] (tR B3 d3 g4 0 s (fb hB3) (by omega) As cs gs 0 s (fb hAs)) rfl rfl rfl rfl (by kernel_rfl) ⟨⟨1,_,by simp,rfl,aT hB3,aU hB3⟩,⟨3,_,by simp,rfl,aT hAs,aU hAs⟩,trivial⟩ (fun _=>rfl) ?_
 rintro v H' ⟨hv,rfl⟩
 obtain rfl:=hv.trans (congrArg Value.bool (az rfl))
 refine⟨rfl,?_⟩
 refine ae [2,6,10,16] rfl ?_
 refine bU rfl ?_
 refine aw (ad (aa (ah [] rfl ?_)))
 refine av [] (qr V (ft f s vv uu) (by omega)) rfl rfl rfl rfl (by kernel_rfl) ⟨⟨10,by simp,rfl⟩,⟨11,by simp,rfl⟩,⟨12,by simp,rfl⟩,trivial⟩ (fun _=>rfl) ?_
 rintro v H' ⟨AL,nL,rfl,rfl,rfl⟩
 refine⟨rfl,?_⟩
 refine d7 (be 0 rfl) fun ⟨_,_,hAL,hlL⟩=>?_
 obtain⟨gL,hAL⟩:=ci hAL hlL
 refine ae [] rfl ?_
 rw[kT] at*
 have hrl:=uS (f:=f) (s:=s) (v:=vv) (c:=uu) (List.ne_nil_of_mem hcut.src)
 refine ad (ad ?_)
 have hru:(j8 f s vv uu).length≤90001:=by have:=qa (ft f s vv uu);rw[kT] at this;omega
 obtain rfl:=hAL (xc (by intro h0;rw[h0] at hrl;simp at hrl))
 refine bn 34 [(0,true),(1,true),(2,true),(3,true),(4,true),(5,true),(6,true),(7,true),(8,true),(9,true),(10,true),(11,true),(12,true),(13,true),(14,true),(15,true),(16,true),(17,true),(18,true),(19,true),(20,true),(21,false),(22,true),(23,true),(24,true),(25,true),(26,true),(27,true),(28,true),(29,true),(30,false),(31,true),(32,true),(33,true)] [0,1,2,3,4,5,6,7,8,9,10,11,12,13] (by kernel_rfl) (by decide) rfl ?_
 refine aC [] rfl ?_
 refine bX 115 (v':=.bool false) rfl (congrArg Value.bool (aA (by omega))) ?_
 refine aC [3] rfl ?_
 refine bX 119 (v':=.int .i64 (((j8 f s vv uu).length-1:Nat):Int)) rfl (congrArg (Value.int .i64) (by rw[b8 (by omega)];omega)) ?_
 refine aj [3] rfl (aJ rfl rfl rfl rfl rfl (by omega)) rfl ?_
 refine aj [3] rfl (aF (v:=eh (iB vv uu)) 0 rfl rfl rfl (kM (uo f s vv uu))) rfl ?_
 refine aC [3] rfl ?_
 refine bX 128 (v':=.bool false) rfl (congrArg Value.bool ?e1) ?_
 case e1=>
  have e:=iN (iB vv uu) [112,114,111,118,101,100]
  have h:dj (iB vv uu=[112,114,111,118,101,100])=dj (vv=uu):=dI (tu vv uu)
  exact (congrArg (fun z=>z !=dj (vv=uu)) (e.trans h)).trans (bne_self_eq_false _)
 refine aC [3,16] rfl ?_
 refine aj [3,16] rfl (aJ (m:=0) rfl rfl rfl rfl rfl (by omega)) rfl ?_
 refine aj [3,16] rfl (aF (v:=eh (pd [118,97,108,117,101] [vv])) 0 rfl rfl rfl rfl) rfl ?_
 refine aC [3,16] rfl ?_
 refine a6 rfl ?_
 refine av [3,16] (mJ V vv hvB) rfl rfl rfl rfl (by kernel_rfl) ⟨⟨11,by simp,rfl⟩,⟨12,by simp,rfl⟩,⟨13,by simp,rfl⟩,trivial⟩ (fun _=>rfl) ?_
 rintro v H' ⟨rfl,rfl⟩
 refine⟨rfl,ai ⟨⟨[0,1,2,3,4,5,6,7,8,9,10,11,12,13],by decide,rfl⟩,?_⟩⟩
 have hw1:=(mS vv (by unfold bT at hvB;omega)).2
 refine aj [3,16] rfl (o5 (l:=[118,97,108,117,101,32]) (m:=Lib.itoa vv) rfl rfl rfl (by simp;omega)) rfl ?_
 refine aC [3,16] rfl ?_
 refine bX 137 (v':=.bool false) rfl (congrArg Value.bool ?e2) ?_
 case e2=>exact congrArg (fun z=>!z) ((iN _ _).trans (az (by rw[ie];simp)))
 refine aC [3,16,25] rfl ?_
 refine aj [3,16,25] rfl (aJ (m:=1) rfl rfl rfl rfl rfl (by omega)) rfl ?_
 refine aj [3,16,25] rfl (aF (v:=eh (pd [99,117,116] [uu])) 0 rfl rfl rfl rfl) rfl ?_
 refine aC [3,16,25] rfl ?_
 refine a6 rfl ?_
 refine av [3,16,25] (mJ V uu huB) rfl rfl rfl rfl (by kernel_rfl) ⟨⟨11,by simp,rfl⟩,⟨12,by simp,rfl⟩,⟨13,by simp,rfl⟩,trivial⟩ (fun _=>rfl) ?_
 rintro v H' ⟨rfl,rfl⟩
 refine⟨rfl,ai ⟨⟨[0,1,2,3,4,5,6,7,8,9,10,11,12,13],by decide,rfl⟩,?_⟩⟩
 have hw2:=(mS uu (by unfold bT at huB;omega)).2
 refine aj [3,16,25] rfl (o5 (l:=[99,117,116,32]) (m:=Lib.itoa uu) rfl rfl rfl (by simp;omega)) rfl ?_
 refine aC [3,16,25] rfl ?_
 refine bX 145 (v':=.bool false) rfl (congrArg (fun z=>Value.bool (!z)) ((iN _ _).trans (az (by rw[ie];simp)))) ?_
 refine bu ?_
 refine ai ?_
 refine bU rfl ?_
 refine aw (ad (aa (ah [] rfl ?_)))
 refine ab [] (v:=br N A' c') (af 7 rfl rfl rfl rfl) rfl ?_
 refine ah [] rfl ?_
 refine av [] (nD V N hN hR A' c' g1 0 (eE hA1) es (by omega)) rfl rfl rfl rfl (by kernel_rfl) ⟨⟨8,_,by simp,rfl,aT hA1,aU hA1⟩,⟨11,by simp,rfl⟩,⟨12,by simp,rfl⟩,⟨13,by simp,rfl⟩,trivial⟩ (fun _=>rfl) ?_
 rintro v H' (⟨f2,s2,A5,B5,c5,d5,hrep3,rfl,rfl⟩|⟨_,rfl,rfl⟩)
 case inr=>
  refine⟨rfl,?_⟩
  refine ae [] rfl ?_
  refine ad (ad (aa (ae [] rfl ?_)))
  refine aD rfl (fun _=>?_) (fun h=>absurd (by decide) h)
  refine ad (aa (ah [] rfl ?_))
  refine ax 157 (v':=.bool true) rfl (congrArg Value.bool (az rfl)) ?_
  refine ae [2] rfl ?_
  exact aE [] (by decide) rfl (aB ⟨_,rfl,congrArg Value.bool (az rfl)⟩)
 refine⟨rfl,?_⟩
 refine d7 (be 0 rfl) fun ⟨_,_,hA5,hl5⟩=>?_
 obtain⟨g5,hA5⟩:=ci hA5 hl5
 refine d7 (be 1 rfl) fun ⟨_,_,hB5,hl6⟩=>?_
 obtain⟨g6,hB5⟩:=ci hB5 hl6
 refine ae [] rfl ?_
 refine ad (ad (aa (ae [] rfl ?_)))
 refine aD rfl (fun h=>absurd rfl h) (fun _=>aw ?_)
 obtain⟨_,hf2,hs2,hes⟩:=hrep3
 have hf2l:=hf2.len
 have hs2l:=nZ hR.nodes.2 ⟨hs2.rise,hs2.rng⟩
 refine ad (aa (ah [] rfl ?_))
 refine ab [] (v:=br N A' c') (af 9 rfl rfl rfl rfl) rfl ?_
 refine ah [] rfl ?_
 refine av [] (jd V N hN hR A' c' g1 0 (eE hA1) f2 (aI.inB hR hf2.toRanged) (by omega) A5 c5 g5 0 (fb hA5) s2 (fun x hx=>by have:=hs2.rng x hx;have:=hR.nodes;unfold bT;omega) (by omega) B5 d5 g6 0 (fb hB5)) rfl rfl rfl rfl (by kernel_rfl) ⟨⟨10,_,by simp,rfl,aT hA1,aU hA1⟩,⟨0,_,by simp,rfl,aT hA5,aU hA5⟩,⟨1,_,by simp,rfl,aT hB5,aU hB5⟩,⟨13,by simp,rfl⟩,⟨14,by simp,rfl⟩,⟨15,by simp,rfl⟩,trivial⟩ (fun _=>rfl) ?_
 rintro v H' ⟨rfl,rfl⟩
 refine⟨rfl,?_⟩
 have hr2:iH N f2 s2=.tuple #[eh es,.int .i64 0]:=by unfold iH;rw[if_pos hf2,if_pos hs2,hes]
 rw[hr2]
 refine ae [] rfl ?_
 refine ad (aa (ah [] rfl ?_))
 refine ax 174 (v':=.bool true) rfl (congrArg Value.bool (az rfl)) ?_
 refine ae [2] rfl ?_
 exact aE [] (by decide) rfl (aB ⟨_,rfl,congrArg Value.bool ((iN _ _).trans (az rfl))⟩)
theorem reportBack_fn (V:fC) (nd:Int) (hnd:bT nd) (en:Int) (hen:bT en) (A:Option Addr) (c b o:Nat) (l:List dH) (hA:l≠[]→A=some ⟨b,o,none⟩) (hl:∀ x∈l,bT x.fr∧bT x.to∧bT x.cap) (hs:l.length*24≤140737488351232)
 (K:Option Addr) (ck bk ok:Nat) (k:List Int) (hK:k≠[]→K=some ⟨bk,ok,none⟩) (hk:∀ x∈k,bT x) (hks:k.length*8≤140737488351232)
 (s:ByteArray) (ws:s.size≤140737488351232):
 Fn 3 [.int .i64 nd,.int .i64 en,.slice A l.length c,.slice K k.length ck,.string s] [] ([.seg b o (arcs l),.seg bk ok (ao k)]++V.heap) fun v _=>v=.bool true:=by
 have:=mG V nd hnd en hen A c b o l hA hl hs K ck bk ok k hK hk hks s.data.toList (by simpa using ws)
 exact this
end Go.Proofs.YtpbmihpjgjbndaaGreatDoor
