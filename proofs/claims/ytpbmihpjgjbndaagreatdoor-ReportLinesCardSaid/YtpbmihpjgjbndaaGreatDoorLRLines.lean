/- A report whose lines are turned, or that lacks one. -/
import Derived.Test.YtpbmihpjgjbndaaGreatDoorRepD
import Derived.Test.YtpbmihpjgjbndaaGreatDoorQX21
import Derived.Test.YtpbmihpjgjbndaaGreatDoorQX47
import Derived.Test.YtpbmihpjgjbndaaGreatDoorSesS
set_option linter.unusedVariables false
set_option linter.unusedSimpArgs false
namespace Go.Proofs.YtpbmihpjgjbndaaGreatDoor
open Go.RowKit
open Lib
theorem vM {l:List (List UInt8)} (h:l≠[]):dC l≠[]:=by
 cases l with
 |nil=>exact absurd rfl h
 |cons x l=>simp[dC]
set_option maxHeartbeats 4000000 in
theorem reportLines_fn (V:f8) (nd:Int) (hnd:bN nd) (en:Int) (hen:bN en) (A:Option Addr) (c b o:Nat) (l:List dK) (hA:l≠[]→A=some ⟨b,o,none⟩) (hl:∀ x∈l,bN x.fr∧bN x.to∧bN x.cap) (hs:l.length*24≤140737488351232)
 (K:Option Addr) (ck bk ok:Nat) (k:List Int) (hK:k≠[]→K=some ⟨bk,ok,none⟩) (hk:∀ x∈k,bN x) (hks:k.length*8≤140737488351232)
 (at_:Int) (hat:bN at_):
 Fn 4 [.int .i64 nd,.int .i64 en,.slice A l.length c,.slice K k.length ck,.int .i64 at_] [] ([.seg b o (arcs l),.seg bk ok (ap k)]++V.heap) fun v _=>v=.bool true:=by
 refine aS Tryz.func4 rfl rfl fun w0=>?_
 refine ad (aa (ae [] rfl ?_))
 refine ad (aa (ah [] rfl ?_))
 refine ax [] (rd V) rfl rfl rfl rfl (by kernel_rfl) ⟨⟨2,by simp,rfl⟩,⟨3,by simp,rfl⟩,⟨4,by simp,rfl⟩,trivial⟩ (fun _=>rfl) ?_
 rintro v H' ⟨rfl,rfl⟩
 refine⟨rfl,?_⟩
 refine ae [] rfl ?_
 refine ad (ad (aa (ae [] rfl ?_)))
 refine bI rfl ?_
 refine av (ad (aa (ah [] rfl ?_)))
 refine ax [] (ub nd en hnd hen A c b o l hA hl (by omega)) rfl rfl rfl rfl (by kernel_rfl) ⟨⟨0,_,by simp,rfl,aq _ _ _,ay⟩,trivial⟩ (fun _=>rfl) ?_
 rintro v H' ⟨N,A',c',hR,hn9,hl24,hcap,rfl,rfl⟩
 refine⟨rfl,?_⟩
 refine ci rfl rfl rfl (fun _=>rfl) fun p12=>?_
 refine aX 0 rfl rfl rfl rfl rfl [] rfl ?_
 refine eN (bh 1 rfl) fun ⟨_,_,hA1,hl1⟩=>?_
 obtain⟨g1,hA1⟩:=cB hA1 hl1
 refine ae [] rfl ?_
 have hN:=hR.fits'
 have hl2:=hR.len
 refine ad (aa (ah [] rfl ?_))
 refine ab [] (v:=bu N A' c') (af 0 rfl rfl rfl rfl) rfl ?_
 refine ah [] rfl ?_
 refine ax [] (pZ N hR A' c' g1 0 (fS hA1) K ck bk ok k hK hk hks) rfl rfl rfl rfl (by kernel_rfl) ⟨⟨1,_,by simp,rfl,aY hA1,a7 hA1⟩,⟨3,_,by simp,rfl,aq _ _ _,ay⟩,trivial⟩ (fun _=>rfl) ?_
 rintro v H' ⟨f,gf,rfl,rfl,hf⟩
 refine⟨rfl,?_⟩
 have hfl:=hf.len
 refine ae [] rfl ?_
 refine ad (aa (ah [] rfl ?_))
 refine ab [] (v:=bu N A' c') (af 1 rfl rfl rfl rfl) rfl ?_
 refine ax [] (xf N hN hR A' c' g1 0 (fS hA1) 112 (.inl rfl)) rfl rfl rfl rfl (by kernel_rfl) ⟨⟨2,_,by simp,rfl,aY hA1,a7 hA1⟩,trivial⟩ (fun _=>rfl) ?_
 rintro v H' ⟨f',ph,kk,st',AF,cF,hd,_,_,_,_,_,rfl,rfl⟩
 refine⟨rfl,?_⟩
 have hMx:kb N f':=ry.max hR (sg:=112) (.inl ⟨.inl rfl,ph,kk,hd⟩)
 refine ah [] rfl ?_
 refine ci rfl rfl rfl (fun _=>rfl) fun p13=>?_
 refine aX 0 rfl rfl rfl rfl rfl [] rfl ?_
 refine eN (bh 1 rfl) fun ⟨_,_,hAF,hlF⟩=>?_
 obtain⟨gF,hAF⟩:=cB hAF hlF
 refine ae [] rfl ?_
 have hFl:=hMx.1.len
 refine ad (aa (ah [] rfl ?_))
 refine ab [] (v:=bu N A' c') (af 3 rfl rfl rfl rfl) rfl ?_
 refine ah [] rfl ?_
 refine ab [] (v:=.slice AF f'.length cF) (af 0 rfl rfl rfl rfl) rfl ?_
 obtain⟨n,hn⟩:∃ n:Nat,N.nodes=n:=⟨N.nodes.toNat,by have:=hR.nodes;omega⟩
 refine ax [] (vU N hN hR A' c' g1 0 (fS hA1) f' AF cF gF 0 (j9 hAF) (aH.inB hR hMx.1.toRanged) (by omega) n hn) rfl rfl rfl rfl (by kernel_rfl) ⟨⟨4,_,by simp,rfl,aY hA1,a7 hA1⟩,⟨1,_,by simp,rfl,aY hAF,a7 hAF⟩,trivial⟩ (fun _=>rfl) ?_
 rintro v H' (⟨_,_,lb,As,cs,hlb,hlv,rfl,rfl⟩|⟨k1,_⟩|⟨_,k1,_⟩)
 case inr.inl=>exact absurd hMx.1 k1
 case inr.inr=>exact absurd k1 hMx.2
 refine⟨rfl,?_⟩
 obtain⟨hcut,hcapS⟩:=tT hR hMx (s:=bR lb true (n+1)) ⟨lb,n,hn,hlb,hlv,rfl⟩
 have hsl:=gK lb true (n+1)
 generalize bR lb true (n+1)=s at*
 refine eN (bh 0 rfl) fun ⟨_,_,hAs,hls⟩=>?_
 obtain⟨gs,hAs⟩:=cB hAs hls
 refine ae [] rfl ?_
 have hfi:=aH.inB hR hf.toRanged
 have hsi:∀ x∈s,bN x:=fun x hx=>by have:=hcut.rng x hx;have:=hR.nodes;unfold bN;omega
 have TP:=jo V N hN hR A' c' g1 0 (fS hA1) f hfi (by omega) (some ⟨gf,0,none⟩) N.arcs.length gf 0 (fun _=>rfl) s hsi (by omega) As cs gs 0 (j9 hAs)
 rw[hfl] at TP
 refine ad (aa (ah [] rfl ?_))
 refine ab [] (v:=bu N A' c') (af 4 rfl rfl rfl rfl) rfl ?_
 refine ah [] rfl ?_
 refine ax [] TP rfl rfl rfl rfl (by kernel_rfl) ⟨⟨5,_,by simp,rfl,aY hA1,a7 hA1⟩,⟨3,_,by simp,rfl,bX,a7 (fun _=>rfl)⟩,⟨0,_,by simp,rfl,aY hAs,a7 hAs⟩,⟨8,by simp,rfl⟩,⟨9,by simp,rfl⟩,⟨10,by simp,rfl⟩,trivial⟩ (fun _=>rfl) ?_
 rintro v H' ⟨rfl,rfl⟩
 refine⟨rfl,?_⟩
 have hrep:=qJ hR hf hcut
 have hsame:=fun (sk:Nat) (f2 s2:List Int)=>qU hR hf hcut (sk:=sk) (f2:=f2) (s2:=s2)
 obtain⟨vv,hvv⟩:∃ vv,vv=cY (N.arcs.zip f) N.snk:=⟨_,rfl⟩
 obtain⟨uu,huu⟩:∃ uu,uu=ec s N.arcs:=⟨_,rfl⟩
 have hvB:bN vv:=by have:=dm hR hf.toRanged N.snk;rw[hvv];unfold bN;omega
 have huB:bN uu:=by have:=pA hR s;rw[huu];unfold bN;omega
 have hr:i8 N f s=.tuple #[dy (ev f s vv uu),.int .i64 0]:=by unfold i8;rw[if_pos hf,if_pos hcut,hvv,huu]
 rw[← hvv,← huu] at hrep hsame
 rw[hr]
 refine ae [] rfl ?_
 have heach:=uT f s vv uu (by omega) (fun i=>(lH hR hf i).2) hsi hvB huB
 have hlen:=qF f s vv uu
 have hfr:=lf f f.length
 have htu:=fun sk=>su heach sk
 have hwo:=fun sk=>sF heach sk
 have hrl:=vW (f:=f) (s:=s) (v:=vv) (c:=uu) (List.ne_nil_of_mem hcut.src)
 have hlr:=js f s vv uu
 have htl:(ev f s vv uu).length≤90000:=by
  have h1:=r9 f hfi f.length (Nat.le_refl _) (by omega)
  have h2:=r6 s hsi s.length (Nat.le_refl _)
  have h3:=eT [118,97,108,117,101] [vv] (fun n hn=>by rw[List.mem_singleton.1 hn];exact hvB)
  have h4:=eT [99,117,116] [uu] (fun n hn=>by rw[List.mem_singleton.1 hn];exact huB)
  have h5:(kr vv uu).length≤100:=by
   unfold kr
   split<;>(refine Nat.le_trans (eT _ [] (fun n hn=>absurd hn List.not_mem_nil)) (by simp))
  simp only[List.length_cons,List.length_nil] at h3 h4
  unfold ev fR
  simp only[List.length_append]
  have:=hR.nodes
  omega
 refine ad (aa (ah [] rfl ?_))
 refine ax [] (qe V (ev f s vv uu) (by omega)) rfl rfl rfl rfl (by kernel_rfl) ⟨⟨8,by simp,rfl⟩,⟨9,by simp,rfl⟩,⟨10,by simp,rfl⟩,trivial⟩ (fun _=>rfl) ?_
 rintro v H' ⟨AL,nL,rfl,rfl,rfl⟩
 refine⟨rfl,?_⟩
 refine eN (bh 0 rfl) fun ⟨_,_,hAL,hlL⟩=>?_
 obtain⟨gL,hAL⟩:=cB hAL hlL
 refine ae [] rfl ?_
 rw[hlr] at*
 have hrn:=ni (f:=f) (s:=s) (v:=vv) (c:=uu)
 generalize hL:f7 f s vv uu=L at*
 obtain rfl:=hAL (vM (by intro h0;rw[h0] at hrl;simp at hrl))
 have hL60:L.length≤40:=by omega
 refine ad (aa (ah [] rfl ?_))
 refine aw 21 (v':=.int .i64 ((3+s.length+(gy f 0).length:Nat):Int)) rfl (congrArg (Value.int .i64) (by rw[bU (by omega)];show (3:Int)+(s.length:Int)=((3+s.length+0:Nat):Int);omega)) ?_
 refine ae [] rfl ?_
 refine ad (ad (aa (ae [] rfl ?_)))
 refine au ?_
 refine bq (σ:=Nat) (fun t=>[(22,.int .i64 (t:Int)),(21,.int .i64 ((3+s.length+(gy f t).length:Nat):Int)),(20,.slice (some ⟨gL,0,none⟩) L.length L.length),(19,.int .i64 0),(18,dy (ev f s vv uu)),(13,.slice (some ⟨gf,0,none⟩) N.arcs.length N.arcs.length),(12,.pointer (some ⟨p12,0,none⟩)),(4,.int .i64 at_)])
  (fun _=>[.own (.slice (some ⟨gL,0,none⟩) L.length L.length) 9 1 L.length (dC L),.own (.slice (some ⟨gf,0,none⟩) N.arcs.length N.arcs.length) 2 1 N.arcs.length (ap f),blk p12 27 (bG N A' c'),.own (.slice A' N.arcs.length c') 70 3 N.arcs.length (arcs N.arcs)]++V.heap)
  (fun t=>t≤f.length) (fun t=>f.length-t) 0 [0,4,5,6,9,10,11] ⟨rfl,rfl,rfl,rfl,rfl,rfl,rfl,rfl,trivial⟩ (by decide) rfl (Nat.zero_le _) ?_
 rintro t ht
 obtain⟨x,hxd⟩:∃ x,x=f.getD t 0:=⟨_,rfl⟩
 have hfrt:=lf f t
 have hfrs:(gy f (t+1)).length=(gy f t).length+(if 0<x then 1 else 0):=by rw[f6,List.length_append,qy,hxd]
 refine ad (ad (aa (ae [] rfl ?_)))
 refine aC rfl (fun hlt=>av ?_) (fun hge=>aV ?_)
 ·have hlt:t<f.length:=by omega
  have hx:f[t]?=some x:=by rw[hxd,List.getD_eq_getElem?_getD,List.getElem?_eq_getElem hlt];rfl
  refine ad (au ?_)
  refine ad (aa (ah [] rfl ?_))
  refine ab [] (aJ rfl rfl rfl rfl rfl (by omega)) rfl ?_
  refine ab [] (aD (v:=.int .i64 x) 1 rfl rfl rfl (a9 hx)) rfl ?_
  refine ae [] rfl ?_
  refine aC rfl (fun hgo=>?_) (fun hno=>av ?_)
  ·have hgo:0<x:=hgo
   rw[if_pos hgo] at hfrs
   refine aa (ae [] rfl ?_)
   refine aa (ae [] rfl ?_)
   refine⟨t+1,[0,1,2,3,4,5,6],⟨congrArg (fun z=>some (Value.int .i64 z)) (bU (by omega)),congrArg (fun z=>some (Value.int .i64 z)) ?_,rfl,rfl,rfl,rfl,rfl,rfl,trivial⟩,by decide,rfl,by omega,by omega⟩
   rw[hfrs]
   exact bU (n:=((3+s.length+(gy f t).length:Nat):Int)+1) (by omega)
  ·have hno:¬ 0<x:=hno
   rw[if_neg hno] at hfrs
   refine aa (ae [] rfl ?_)
   refine⟨t+1,[0,1,2,3,4,5,6],⟨congrArg (fun z=>some (Value.int .i64 z)) (bU (by omega)),?_,rfl,rfl,rfl,rfl,rfl,rfl,trivial⟩,by decide,rfl,by omega,by omega⟩
   rw[hfrs]
   rfl
 clear hfrs
 obtain rfl:t=f.length:=by omega
 rw[← hlen]
 refine ad (ad (aa (ah [] rfl ?_)))
 refine aw 85 (v':=.bool false) rfl (congrArg Value.bool (aA (fun h=>h rfl))) ?_
 refine ae [2] rfl ?_
 refine aC rfl (fun h=>absurd rfl h) (fun _=>av ?_)
 have hpk:=dT (c:=at_) (n:=(L.length:Int)) (by omega)
 refine ad (aa (ah [] rfl ?_))
 refine ax [] (dA hat (n:=(L.length:Int)) (by omega)) rfl rfl rfl rfl (by kernel_rfl) trivial (fun _=>rfl) ?_
 rintro v H' ⟨rfl,rfl⟩
 refine⟨rfl,?_⟩
 obtain⟨sk,hsk⟩:∃ sk:Nat,dq at_ (L.length:Int)=sk:=⟨(dq at_ (L.length:Int)).toNat,by omega⟩
 rw[hsk] at hpk ⊢
 refine ae [] rfl ?_
 refine ad (aa (ae [] rfl ?_))
 refine ad (aa (ae [] rfl ?_))
 refine ad (ad (aa (ae [] rfl ?_)))
 refine au ?_
 refine bq (σ:=Nat) (fun t=>[(26,.int .i64 (t:Int)),(25,dy (oZ L sk t)),(24,dy (tj L sk t)),(23,.int .i64 (sk:Int)),(21,.int .i64 (L.length:Int)),(20,.slice (some ⟨gL,0,none⟩) L.length L.length),(18,dy (ev f s vv uu)),(12,.pointer (some ⟨p12,0,none⟩))])
  (fun _=>[.own (.slice (some ⟨gL,0,none⟩) L.length L.length) 9 1 L.length (dC L),blk p12 27 (bG N A' c'),.own (.slice A' N.arcs.length c') 70 3 N.arcs.length (arcs N.arcs)]++V.heap)
  (fun t=>t≤L.length) (fun t=>L.length-t) 0 [0,2,3,4,5,6] ⟨rfl,rfl,rfl,rfl,rfl,rfl,rfl,rfl,trivial⟩ (by decide) rfl (Nat.zero_le _) ?_
 rintro t ht
 have hget:∀ i,i<L.length→L[i]?=some (L.getD i []):=fun i hi=>by rw[List.getD_eq_getElem?_getD,List.getElem?_eq_getElem hi];rfl
 have hg60:=fun i=>mL heach i
 have htu1:=htu sk t
 have hwo1:=hwo sk t
 have hm61:t*(60+1)≤40*61:=Nat.mul_le_mul (by omega) (by decide)
 refine ad (ad (aa (ae [] rfl ?_)))
 refine aC rfl (fun hlt=>av ?_) (fun hge=>aV ?_)
 ·have hlt:t<L.length:=by omega
  refine ad (au ?_)
  have hg1:=hg60 t
  refine d7 [(26,.int .i64 (t:Int)),(25,dy (oZ L sk t)),(24,dy (tj L sk (t+1))),(23,.int .i64 (sk:Int)),(21,.int .i64 (L.length:Int)),(20,.slice (some ⟨gL,0,none⟩) L.length L.length),(18,dy (ev f s vv uu)),(12,.pointer (some ⟨p12,0,none⟩))] ([.own (.slice (some ⟨gL,0,none⟩) L.length L.length) 9 1 L.length (dC L),blk p12 27 (bG N A' c'),.own (.slice A' N.arcs.length c') 70 3 N.arcs.length (arcs N.arcs)]++V.heap) ?_ ?_
  ·have hws:=qH L sk t
   refine ad (aa (ae [] rfl ?_))
   refine aC rfl (fun hne=>?_) (fun heq=>av ?_)
   ·rw[if_neg (by omega),← List.append_assoc] at hws
    refine aa (ah [] rfl ?_)
    refine ab [] (aJ rfl rfl rfl rfl rfl hlt) rfl ?_
    refine ab [] (aD (v:=dy (L.getD t [])) 0 rfl rfl rfl (fJ (hget t hlt))) rfl ?_
    refine ab [] (ka (l:=tj L sk t) (m:=L.getD t []) rfl rfl rfl (by omega)) rfl ?_
    refine ab [] (ka (l:=tj L sk t++L.getD t []) (m:=[10]) rfl rfl rfl (by simp only[List.length_append,List.length_cons,List.length_nil];omega)) rfl ?_
    rw[← hws]
    refine ae [] rfl ?_
    exact⟨[0,1,2,3,4,5],⟨rfl,rfl,rfl,rfl,rfl,rfl,rfl,rfl,trivial⟩,by decide,rfl⟩
   ·have e:t=sk:=by have:=Classical.not_not.1 heq;omega
    rw[if_pos e,List.append_nil] at hws
    rw[hws]
    exact⟨[0,1,2,3,4,5],⟨rfl,rfl,rfl,rfl,rfl,rfl,rfl,rfl,trivial⟩,by decide,rfl⟩
  refine ad (aa (ah [] rfl ?_))
  refine ab [] (aJ rfl rfl rfl rfl rfl hlt) rfl ?_
  refine ab [] (aD (v:=dy (L.getD t [])) 0 rfl rfl rfl (fJ (hget t hlt))) rfl ?_
  refine ae [] rfl ?_
  obtain⟨q,hq⟩:∃ q,q=if t=sk∧sk+1<L.length then sk+1 else t:=⟨_,rfl⟩
  refine d7 [(27,dy (L.getD (q) [])),(26,.int .i64 (t:Int)),(25,dy (oZ L sk t)),(24,dy (tj L sk (t+1))),(23,.int .i64 (sk:Int)),(21,.int .i64 (L.length:Int)),(20,.slice (some ⟨gL,0,none⟩) L.length L.length),(18,dy (ev f s vv uu)),(12,.pointer (some ⟨p12,0,none⟩))] ([.own (.slice (some ⟨gL,0,none⟩) L.length L.length) 9 1 L.length (dC L),blk p12 27 (bG N A' c'),.own (.slice A' N.arcs.length c') 70 3 N.arcs.length (arcs N.arcs)]++V.heap) ?_ ?_
  ·refine ad (aa (ah [] rfl ?_))
   by_cases e1:t=sk
   ·refine aw 116 (v':=.bool true) rfl (congrArg Value.bool (az (by omega))) ?_
    refine ae [3] rfl ?_
    refine aC rfl (fun hgo=>?_) (fun hno=>av ?_)
    ·have hgo:sk+1<L.length:=by rw[bU (by omega)] at hgo;omega
     obtain rfl:q=sk+1:=hq.trans (if_pos ⟨e1,hgo⟩)
     refine aa (ah [] rfl ?_)
     refine aw 124 (v':=.int .i64 ((sk+1:Nat):Int)) rfl (congrArg (Value.int .i64) (bU (by omega))) ?_
     refine ab [] (aJ rfl rfl rfl rfl rfl hgo) rfl ?_
     refine ab [] (aD (v:=dy (L.getD (sk+1) [])) 0 rfl rfl rfl (fJ (hget _ hgo))) rfl ?_
     refine ae [] rfl ?_
     exact⟨[0,1,2,3,4,5],⟨rfl,rfl,rfl,rfl,rfl,rfl,rfl,rfl,rfl,trivial⟩,by decide,rfl⟩
    ·have hno:¬ sk+1<L.length:=by rw[bU (by omega)] at hno;omega
     rw[if_neg (fun h=>hno h.2)] at hq
     rw[hq]
     exact⟨[0,1,2,3,4,5],⟨rfl,rfl,rfl,rfl,rfl,rfl,rfl,rfl,rfl,trivial⟩,by decide,rfl⟩
   ·refine aw 116 (v':=.bool false) rfl (congrArg Value.bool (aA (by omega))) ?_
    refine ae [3] rfl ?_
    refine bI rfl (av ?_)
    rw[if_neg (fun h=>e1 h.1)] at hq
    rw[hq]
    exact⟨[0,1,2,3,4,5],⟨rfl,rfl,rfl,rfl,rfl,rfl,rfl,rfl,rfl,trivial⟩,by decide,rfl⟩
  have hti:lF L.length sk t=if t=sk+1 then sk else q:=by
   unfold lF
   rw[hq]
   by_cases e1:t=sk∧sk+1<L.length
   ·rw[if_pos e1,if_neg (by omega),if_pos e1]
   ·rw[if_neg e1,if_neg e1]
  have hts:=qz L sk t
  refine d7 [(27,dy (L.getD (lF L.length sk t) [])),(26,.int .i64 (t:Int)),(25,dy (oZ L sk t)),(24,dy (tj L sk (t+1))),(23,.int .i64 (sk:Int)),(21,.int .i64 (L.length:Int)),(20,.slice (some ⟨gL,0,none⟩) L.length L.length),(18,dy (ev f s vv uu)),(12,.pointer (some ⟨p12,0,none⟩))] ([.own (.slice (some ⟨gL,0,none⟩) L.length L.length) 9 1 L.length (dC L),blk p12 27 (bG N A' c'),.own (.slice A' N.arcs.length c') 70 3 N.arcs.length (arcs N.arcs)]++V.heap) ?_ ?_
  ·refine ad (aa (ae [] rfl ?_))
   refine aC rfl (fun hgo=>?_) (fun hno=>av ?_)
   ·have hgo:t=sk+1:=by rw[bU (by omega)] at hgo;omega
    rw[if_pos hgo] at hti
    rw[hti]
    refine aa (ah [] rfl ?_)
    refine ab [] (aJ rfl rfl rfl rfl rfl (show sk<L.length by omega)) rfl ?_
    refine ab [] (aD (v:=dy (L.getD sk [])) 0 rfl rfl rfl (fJ (hget _ (by omega)))) rfl ?_
    refine ae [] rfl ?_
    exact⟨[0,1,2,3,4,5],⟨rfl,rfl,rfl,rfl,rfl,rfl,rfl,rfl,rfl,trivial⟩,by decide,rfl⟩
   ·have hno:¬ t=sk+1:=by rw[bU (by omega)] at hno;omega
    rw[if_neg hno] at hti
    rw[hti]
    exact⟨[0,1,2,3,4,5],⟨rfl,rfl,rfl,rfl,rfl,rfl,rfl,rfl,rfl,trivial⟩,by decide,rfl⟩
  have hg2:=hg60 (lF L.length sk t)
  rw[← List.append_assoc] at hts
  refine aa (ah [] rfl ?_)
  refine ab [] (ka (l:=oZ L sk t) (m:=L.getD (lF L.length sk t) []) rfl rfl rfl (by omega)) rfl ?_
  refine ab [] (ka (l:=oZ L sk t++L.getD (lF L.length sk t) []) (m:=[10]) rfl rfl rfl (by simp only[List.length_append,List.length_cons,List.length_nil];omega)) rfl ?_
  rw[← hts]
  refine ae [] rfl ?_
  refine aa (ae [] rfl ?_)
  exact⟨t+1,[0,1,2,3,4,5],⟨congrArg (fun z=>some (Value.int .i64 z)) (bU (by omega)),rfl,rfl,rfl,rfl,rfl,rfl,rfl,trivial⟩,by decide,rfl,by omega,by omega⟩
 obtain rfl:t=L.length:=by omega
 have htu2:=htu sk L.length
 have hwo2:=hwo sk L.length
 refine rX (σ:={ t:Int×Option Addr×Nat×Nat×Option Addr×Nat×Nat//(t.1=0∧oZ L sk L.length=ev f s vv uu)∨(t.1=2∧t.2.2.1=0∧t.2.2.2.2.2.1=0) })
  (fun t=>[(30,.int .i64 t.1.1),(28,.slice t.1.2.1 t.1.2.2.1 t.1.2.2.2.1),(29,.slice t.1.2.2.2.2.1 t.1.2.2.2.2.2.1 t.1.2.2.2.2.2.2),(25,dy (oZ L sk L.length)),(24,dy (tj L sk L.length)),(18,dy (ev f s vv uu)),(12,.pointer (some ⟨p12,0,none⟩))])
  (fun _=>[blk p12 27 (bG N A' c'),.own (.slice A' N.arcs.length c') 70 3 N.arcs.length (arcs N.arcs)]++V.heap) ?_ ?_
 ·skip
  refine aa (ah [] rfl ?_)
  refine ab [] (v:=bu N A' c') (af 1 rfl rfl rfl rfl) rfl ?_
  refine ah [] rfl ?_
  refine ax [] (nO V N hN hR A' c' g1 0 (fS hA1) (oZ L sk L.length) (by omega)) rfl rfl rfl rfl (by kernel_rfl) ⟨⟨2,_,by simp,rfl,aY hA1,a7 hA1⟩,⟨3,by simp,rfl⟩,⟨4,by simp,rfl⟩,⟨5,by simp,rfl⟩,trivial⟩ (fun _=>rfl) ?_
  rintro v H' (⟨f2,s2,A5,B5,c5,d5,hrep3,rfl,rfl⟩|⟨_,rfl,rfl⟩)
  ·refine⟨rfl,?_⟩
   refine ae [] rfl ?_
   exact⟨⟨(0,A5,f2.length,c5,B5,s2.length,d5),.inl ⟨rfl,hsame sk f2 s2 hrep3⟩⟩,⟨rfl,rfl,rfl,rfl,rfl,rfl,rfl,trivial⟩,aK.picks [3,4,5,6,7] (by decide) rfl⟩
  ·refine⟨rfl,?_⟩
   refine ae [] rfl ?_
   exact⟨⟨(2,none,0,0,none,0,0),.inr ⟨rfl,rfl,rfl⟩⟩,⟨rfl,rfl,rfl,rfl,rfl,rfl,rfl,trivial⟩,aK.picks [1,2,3,4,5] (by decide) rfl⟩
 rintro⟨⟨e,A5,n5,c5,B5,m5,d5⟩,he⟩
 simp only at he ⊢
 refine ad (aa (ah [] rfl ?_))
 refine ab [] (v:=bu N A' c') (af 0 rfl rfl rfl rfl) rfl ?_
 refine ah [] rfl ?_
 refine ax [] (nO V N hN hR A' c' g1 0 (fS hA1) (tj L sk L.length) (by omega)) rfl rfl rfl rfl (by kernel_rfl) ⟨⟨1,_,by simp,rfl,aY hA1,a7 hA1⟩,⟨2,by simp,rfl⟩,⟨3,by simp,rfl⟩,⟨4,by simp,rfl⟩,trivial⟩ (fun _=>rfl) ?_
 rintro v H' (⟨f2,s2,A6,B6,c6,d6,hrep3,rfl,rfl⟩|⟨_,rfl,rfl⟩)
 case inr=>
  refine⟨rfl,?_⟩
  refine ae [] rfl ?_
  refine ad (ad (aa (ah [] rfl ?_)))
  rcases he with ⟨rfl,htx⟩|⟨rfl,rfl,rfl⟩
  refine aw 155 (v':=.bool true) rfl (congrArg Value.bool (az rfl)) ?_
  refine ah [2] rfl ?_
  refine aw 160 (v':=.bool false) rfl (congrArg (fun z=>Value.bool (!z)) ((jZ _ _).trans (az htx))) ?_
  refine ah [2,7] rfl ?_
  refine aw 163 (v':=.bool false) rfl (congrArg Value.bool (aA (fun h=>h rfl))) ?_
  refine ae [2,7,10,13] rfl ?_
  refine bI rfl (av ?_)
  rotate_left
  refine aw 155 (v':=.bool false) rfl (congrArg Value.bool (aA (by decide))) ?_
  refine ah [2,7] rfl ?_
  refine aw 163 (v':=.bool true) rfl (congrArg Value.bool (az (by decide))) ?_
  refine ah [2,7,10] rfl ?_
  refine aw 166 (v':=.bool false) rfl (congrArg Value.bool (aA (fun h=>h rfl))) ?_
  refine ae [2,7,10,13] rfl ?_
  refine aC rfl (fun h=>absurd h (by decide)) (fun _=>av ?_)
  all_goals
   (repeat' (first|refine ad ?_|refine av ?_|refine bo rfl ?_|refine bI rfl ?_))
   refine aa (ae [] rfl ?_)
   refine aC rfl (fun _=>?_) (fun h=>absurd (by decide) h)
   (repeat' (first|refine ad ?_|refine av ?_|refine bo rfl ?_|refine bI rfl ?_))
   refine aa (ah [] rfl ?_)
   refine aw 180 (v':=.bool true) rfl (congrArg Value.bool (az rfl)) ?_
   refine ae [2] rfl ?_
   exact aE [] (by decide) rfl (aB ⟨_,rfl,congrArg Value.bool (az rfl)⟩)
 refine⟨rfl,?_⟩
 refine eN (bh 0 rfl) fun ⟨_,_,hA6,hl5⟩=>?_
 obtain⟨g5,hA6⟩:=cB hA6 hl5
 refine eN (bh 1 rfl) fun ⟨_,_,hB6,hl6⟩=>?_
 obtain⟨g6,hB6⟩:=cB hB6 hl6
 refine ae [] rfl ?_
 obtain⟨_,hf2,hs2,hes⟩:=hrep3
 have hf2l:=hf2.len
 have hs2l:=oA hR.nodes.2 ⟨hs2.rise,hs2.rng⟩
 have hr2:i8 N f2 s2=.tuple #[dy (tj L sk L.length),.int .i64 0]:=by unfold i8;rw[if_pos hf2,if_pos hs2,hes]
 have TP2:=jo V N hN hR A' c' g1 0 (fS hA1) f2 (aH.inB hR hf2.toRanged) (by omega) A6 c6 g5 0 (j9 hA6) s2 (fun x hx=>by have:=hs2.rng x hx;have:=hR.nodes;unfold bN;omega) (by omega) B6 d6 g6 0 (j9 hB6)
 refine ad (ad (aa (ah [] rfl ?_)))
 rcases he with ⟨rfl,htx⟩|⟨rfl,rfl,rfl⟩
 refine aw 155 (v':=.bool true) rfl (congrArg Value.bool (az rfl)) ?_
 refine ah [2] rfl ?_
 refine aw 160 (v':=.bool false) rfl (congrArg (fun z=>Value.bool (!z)) ((jZ _ _).trans (az htx))) ?_
 refine ah [2,7] rfl ?_
 refine aw 163 (v':=.bool false) rfl (congrArg Value.bool (aA (fun h=>h rfl))) ?_
 refine ae [2,7,10,13] rfl ?_
 refine bI rfl (av ?_)
 rotate_left
 refine aw 155 (v':=.bool false) rfl (congrArg Value.bool (aA (by decide))) ?_
 refine ah [2,7] rfl ?_
 refine aw 163 (v':=.bool true) rfl (congrArg Value.bool (az (by decide))) ?_
 refine ah [2,7,10] rfl ?_
 refine aw 166 (v':=.bool false) rfl (congrArg Value.bool (aA (fun h=>h rfl))) ?_
 refine ae [2,7,10,13] rfl ?_
 refine aC rfl (fun h=>absurd h (by decide)) (fun _=>av ?_)
 all_goals
  (repeat' (first|refine ad ?_|refine av ?_|refine bo rfl ?_|refine bI rfl ?_))
  refine aa (ae [] rfl ?_)
  refine aC rfl (fun h=>absurd rfl h) (fun _=>av ?_)
  (repeat' (first|refine ad ?_|refine av ?_|refine bo rfl ?_|refine bI rfl ?_))
  refine aa (ah [] rfl ?_)
  refine ab [] (v:=bu N A' c') (af 2 rfl rfl rfl rfl) rfl ?_
  refine ah [] rfl ?_
  refine ax [] TP2 rfl rfl rfl rfl (by kernel_rfl) ⟨⟨3,_,by simp,rfl,aY hA1,a7 hA1⟩,⟨0,_,by simp,rfl,aY hA6,a7 hA6⟩,⟨1,_,by simp,rfl,aY hB6,a7 hB6⟩,⟨4,by simp,rfl⟩,⟨5,by simp,rfl⟩,⟨6,by simp,rfl⟩,trivial⟩ (fun _=>rfl) ?_
  rintro v H' ⟨rfl,rfl⟩
  refine⟨rfl,?_⟩
  rw[hr2]
  refine ae [] rfl ?_
  (repeat' (first|refine ad ?_|refine av ?_|refine bo rfl ?_|refine bI rfl ?_))
  refine aa (ah [] rfl ?_)
  refine aw 197 (v':=.bool true) rfl (congrArg Value.bool (az rfl)) ?_
  refine ae [2] rfl ?_
  exact aE [] (by decide) rfl (aB ⟨_,rfl,congrArg Value.bool ((jZ _ _).trans (az rfl))⟩)
end Go.Proofs.YtpbmihpjgjbndaaGreatDoor
