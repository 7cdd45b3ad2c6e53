/- The engine and the words that all chapters share: several texts in one. -/
import Derived.Test.YtpbmihpjgjbndaaGreatDoorQX42
import Derived.Test.YtpbmihpjgjbndaaGreatDoorQX20
/- Reports: Print of any flow and any nodes of a right network. -/
set_option linter.unusedVariables false
set_option linter.unusedSimpArgs false
namespace Go.Proofs.YtpbmihpjgjbndaaGreatDoor
open Go.RowKit
open Lib
def lN (f:List Int) (i:Nat):List UInt8:=if 0<f.getD i 0 then dJ [102] [((i+1:Nat):Int),f.getD i 0] else []
def fK (f:List Int) (k:Nat):List UInt8:=((List.range k).map (lN f)).flatten
def xK (s:List Int) (k:Nat):List UInt8:=((s.take k).map fun x=>dJ [120] [x]).flatten
theorem mc (f:List Int) (k:Nat):fK f (k+1)=fK f k++lN f k:=by unfold fK;rw[List.range_succ];simp
theorem o9 {s:List Int} {k:Nat} {x:Int} (h:s[k]?=some x):xK s (k+1)=xK s k++dJ [120] [x]:=by unfold xK;rw[List.take_add_one,h];simp
def fR (v c:Int):List UInt8:=dJ [118,97,108,117,101] [v]++dJ [99,117,116] [c]
def kr (v c:Int):List UInt8:=if v=c then dJ [112,114,111,118,101,100] [] else dJ [110,111,116,32,112,114,111,118,101,100] []
def ev (f s:List Int) (v c:Int):List UInt8:=((fR v c++fK f f.length)++xK s s.length)++kr v c
open Classical in
noncomputable def i8 (N:a8) (f s:List Int):Value:=if aH N f then (if eq N s then .tuple #[dy (ev f s (cY (N.arcs.zip f) N.snk) (ec s N.arcs)),.int .i64 0] else .tuple #[dy [],.int .i64 (ny N s)]) else .tuple #[dy [],.int .i64 (eO N f)]
theorem eT (w:List UInt8) (l:List Int) (h:∀ n∈l,bN n):(dJ w l).length≤w.length+l.length*21+1:=by
 have:=l6 w l h
 unfold dJ
 rw[List.length_append]
 simp only[List.length_cons,List.length_nil]
 omega
theorem r9 (f:List Int) (hf:∀ x∈f,bN x):∀ k,k≤f.length→k≤100000→(fK f k).length≤k*50
 |0,_,_=>by simp[fK]
 |k+1,h,h2=>by
  have ih:=r9 f hf k (by omega) (by omega)
  rw[mc,List.length_append]
  have:(lN f k).length≤50:=by
   unfold lN
   split
   ·have h1:bN (f.getD k 0):=by
     rw[List.getD_eq_getElem?_getD,List.getElem?_eq_getElem (show k<f.length by omega)]
     exact hf _ (List.getElem_mem _)
    have:=eT [102] [((k+1:Nat):Int),f.getD k 0] (fun n hn=>by
     simp only[List.mem_cons,List.not_mem_nil,or_false] at hn
     rcases hn with rfl|rfl
     ·unfold bN;omega
     ·exact h1)
    simp only[List.length_cons,List.length_nil] at this
    omega
   ·simp
  omega
theorem r6 (s:List Int) (hs:∀ x∈s,bN x):∀ k,k≤s.length→(xK s k).length≤k*50
 |0,_=>by simp[xK]
 |k+1,h=>by
  have ih:=r6 s hs k (by omega)
  have hx:s[k]?=some s[k]:=List.getElem?_eq_getElem (by omega)
  rw[o9 hx,List.length_append]
  have:=eT [120] [s[k]] (fun n hn=>by
   simp only[List.mem_singleton] at hn
   rw[hn];exact hs _ (List.getElem_mem _))
  simp only[List.length_cons,List.length_nil] at this
  omega
theorem oA {m:Int} {s:List Int} (hm:m≤500) (h:eP m s):s.length≤500:=by
 rcases Nat.lt_or_ge 500 s.length with hlt|hge
 ·exfalso
  have key:∀ k,∀ hk:k<s.length,(k:Int)+1≤s[k]:=by
   intro k
   induction k with
   |zero=>intro hk;have:=(h.rng _ (List.getElem_mem hk)).1;omega
   |succ k ih=>
    intro hk
    have h1:=ih (by omega)
    have h2:=(List.pairwise_iff_getElem.1 h.rise) k (k+1) (by omega) hk (by omega)
    omega
  have h1:=key 500 hlt
  have h2:=(h.rng _ (List.getElem_mem hlt)).2
  omega
 ·exact hge
set_option maxHeartbeats 2000000 in
theorem jo (V:f8) (N:a8) (hN:N.Fits) (hR:N.Right) (A:Option Addr) (c b o:Nat) (hA:N.arcs≠[]→A=some ⟨b,o,none⟩) (f:List Int) (hfi:∀ x∈f,bN x) (hfl:f.length*8≤140737488351232) (F:Option Addr) (cf bf of:Nat) (hF:f≠[]→F=some ⟨bf,of,none⟩)
 (s:List Int) (hsi:∀ x∈s,bN x) (hsl:s.length≤100000) (S:Option Addr) (cs bs os:Nat) (hS:s≠[]→S=some ⟨bs,os,none⟩):
 Fn 15 [bu N A c,.slice F f.length cf,.slice S s.length cs] [] ([.seg b o (arcs N.arcs),.seg bf of (ap f),.seg bs os (ap s)]++V.heap) fun v H'=>v=i8 N f s∧H'=[]:=by
 refine aS Tryz.func15 rfl rfl fun w0=>?_
 refine ad (aa ?_)
 refine bw (cs:=bG N A c) rfl rfl rfl (fun _=>rfl) fun p3=>?_
 refine ae [] rfl ?_
 refine ad (aa ?_)
 refine ab [] (v:=bu N A c) (af 0 rfl rfl rfl rfl) rfl ?_
 refine ah [] rfl ?_
 refine ax [] (uZ N hN hR A c b o hA f F cf bf of hF hfi hfl) rfl rfl rfl rfl (by kernel_rfl) ⟨⟨1,_,by simp,rfl,aq _ _ _,ay⟩,⟨2,_,by simp,rfl,aq _ _ _,ay⟩,trivial⟩ (fun _=>rfl) ?_
 rintro v H' ⟨⟨rfl,hf⟩|⟨rfl,hf⟩,rfl⟩
 case inr=>
  refine⟨rfl,?_⟩
  refine ae [] rfl ?_
  refine ad (ad (aa (ae [] rfl ?_)))
  refine aC rfl (fun h=>?_) (fun h=>absurd (cK.1 (Classical.not_not.1 h)) hf)
  refine ad (aa (ae [] rfl ?_))
  refine aE [] (by decide) rfl (aB ⟨_,rfl,?_,rfl⟩)
  unfold i8
  rw[if_neg hf];rfl
 refine⟨rfl,?_⟩
 refine ae [] rfl ?_
 refine ad (ad (aa (ae [] rfl ?_)))
 refine aC rfl (fun h=>absurd rfl h) (fun _=>av ?_)
 refine ad (aa ?_)
 refine ab [] (v:=bu N A c) (af 0 rfl rfl rfl rfl) rfl ?_
 refine ah [] rfl ?_
 refine ax [] (pj N hN hR A c b o hA s hsl S cs bs os hS) rfl rfl rfl rfl (by kernel_rfl) ⟨⟨1,_,by simp,rfl,aq _ _ _,ay⟩,⟨3,_,by simp,rfl,aq _ _ _,ay⟩,trivial⟩ (fun _=>rfl) ?_
 rintro v H' ⟨rfl,rfl⟩
 refine⟨rfl,?_⟩
 by_cases hs:eq N s
 case neg=>
  unfold w6
  rw[if_neg hs]
  refine ae [] rfl ?_
  refine ad (ad (aa (ae [] rfl ?_)))
  refine aC rfl (fun h=>?_) (fun h=>absurd (oC.1 (Classical.not_not.1 h)) hs)
  refine ad (aa (ae [] rfl ?_))
  refine aE [] (by decide) rfl (aB ⟨_,rfl,?_,rfl⟩)
  unfold i8
  rw[if_pos hf,if_neg hs];rfl
 unfold w6
 rw[if_pos hs]
 obtain⟨vv,hvv⟩:∃ vv,vv=cY (N.arcs.zip f) N.snk:=⟨_,rfl⟩
 obtain⟨cc,hcc⟩:∃ cc,cc=ec s N.arcs:=⟨_,rfl⟩
 have hvB:bN vv:=by have:=dm hR hf.toRanged N.snk;rw[hvv];unfold bN;omega
 have hcB:bN cc:=by have:=pA hR s;rw[hcc];unfold bN;omega
 have hnn:=hR.nodes
 have hfl2:=hf.len
 have hl2:=hR.len
 have hsl2:=oA hnn.2 ⟨hs.rise,hs.rng⟩
 have hrep:i8 N f s=.tuple #[dy (ev f s vv cc),.int .i64 0]:=by unfold i8;rw[if_pos hf,if_pos hs,hvv,hcc]
 rw[← hvv,← hcc]
 refine ae [] rfl ?_
 refine ad (ad (aa (ae [] rfl ?_)))
 refine aC rfl (fun h=>absurd rfl h) (fun _=>av ?_)
 refine ad (aa ?_)
 refine ci rfl rfl rfl (fun _=>rfl) fun p11=>?_
 refine ae [] rfl ?_
 refine cC 5 1 ?_
 have hw5:=eT [118,97,108,117,101] [vv] (fun n hn=>by rw[List.mem_singleton.1 hn];exact hvB)
 have hw3:=eT [99,117,116] [cc] (fun n hn=>by rw[List.mem_singleton.1 hn];exact hcB)
 simp only[List.length_cons,List.length_nil] at hw5 hw3
 refine bA (K:=jV 102 p11 (.pointer none) none 0 []++([.seg bf of (ap f),.seg bs os (ap s)]++V.heap)) (aK.picks [1,0,4,5,6,7,8] (by decide) rfl) ?_
 refine ad (aa (ah [] rfl ?_))
 refine bK rfl rfl rfl rfl rfl rfl rfl (fun _=>rfl) fun g1=>?_
 refine ao (fst:=[]) (cap:=[]) [] (gT V p11 (.pointer none) (by first|exact .inl rfl|exact .inr rfl) none 0 ([]) ([118,97,108,117,101]) (by decide) ([vv]) (fun n hn=>by rw[List.mem_singleton.1 hn];exact hvB) (by simp) (by first|omega|simp|(simp;omega)) (some ⟨g1,0,none⟩) _ _ g1 0 (fun _=>rfl) rfl) rfl rfl rfl rfl (by kernel_rfl) (K:=[blk g1 2 (ap ([vv])),.seg bf of (ap f),.seg bs os (ap s)]++V.heap) (aK.picks [1,2,0,3,4,5,6,7] (by decide) rfl) ⟨⟨0,_,by simp,rfl,aL _ _ _ (0,0),.inr rfl⟩,⟨3,by simp,rfl⟩,⟨4,by simp,rfl⟩,⟨5,by simp,rfl⟩,trivial⟩ (fun _=>rfl) ?_
 rintro v H' ⟨A1,c1,rfl⟩
 refine⟨rfl,?_⟩
 refine ae [] rfl ?_
 refine bA (K:=jV 102 p11 (.pointer (some ⟨p11,0,none⟩)) A1 c1 (dJ [118,97,108,117,101] [vv])++([.seg bf of (ap f),.seg bs os (ap s)]++V.heap)) (aK.picks [0,1,3,4,5,6,7] (by decide) rfl) ?_
 refine ad (aa (ah [] rfl ?_))
 refine bK rfl rfl rfl rfl rfl rfl rfl (fun _=>rfl) fun g2=>?_
 refine ao (fst:=[]) (cap:=[]) [] (gT V p11 (.pointer (some ⟨p11,0,none⟩)) (by first|exact .inl rfl|exact .inr rfl) A1 c1 (dJ [118,97,108,117,101] [vv]) ([99,117,116]) (by decide) ([cc]) (fun n hn=>by rw[List.mem_singleton.1 hn];exact hcB) (by simp) (by first|omega|simp|(simp;omega)) (some ⟨g2,0,none⟩) _ _ g2 0 (fun _=>rfl) rfl) rfl rfl rfl rfl (by kernel_rfl) (K:=[blk g2 2 (ap ([cc])),.seg bf of (ap f),.seg bs os (ap s)]++V.heap) (aK.picks [1,2,0,3,4,5,6,7] (by decide) rfl) ⟨⟨0,_,by simp,rfl,aL _ _ _ (0,0),.inr rfl⟩,⟨3,by simp,rfl⟩,⟨4,by simp,rfl⟩,⟨5,by simp,rfl⟩,trivial⟩ (fun _=>rfl) ?_
 rintro v H' ⟨A2,c2,rfl⟩
 refine⟨rfl,?_⟩
 refine ae [] rfl ?_
 refine ad (ad (aa (ae [] rfl ?_)))
 refine au ?_
 have hfK:=r9 f hfi
 have hxK:=r6 s hsi
 refine bq (σ:=Nat×Option Addr×Nat) (fun t=>[(42,.int .i64 t.1),(41,.int .i64 f.length),(40,.slice F f.length cf),(11,.pointer (some ⟨p11,0,none⟩)),(2,.slice S s.length cs),(8,.int .i64 vv),(10,.int .i64 cc)])
  (fun t=>jV 102 p11 (.pointer (some ⟨p11,0,none⟩)) t.2.1 t.2.2 (fR vv cc++fK f t.1)++([.seg bf of (ap f),.seg bs os (ap s)]++V.heap)) (fun t=>t.1≤f.length) (fun t=>f.length-t.1) (0,A2,c2) [0,1,3,4,5,6,7] ⟨rfl,rfl,rfl,rfl,rfl,rfl,rfl,trivial⟩ (by decide) (by simp[fK];rfl) (Nat.zero_le _) ?_
 rintro⟨k,A3,c3⟩ hk
 simp only at hk ⊢
 have hk50:=hfK k hk (by omega)
 have hmid:(fR vv cc++fK f k).length≤150000:=by unfold fR;simp only[List.length_append];omega
 have hfs:=mc f k
 refine ad (aa (ae [] rfl ?_))
 refine ad (aC rfl (fun hlt=>av ?_) (fun hge=>aV ?_))
 ·have hlt:k<f.length:=by omega
  obtain⟨x,hx⟩:∃ x,f[k]?=some x:=⟨f[k],List.getElem?_eq_getElem hlt⟩
  have hxd:f.getD k 0=x:=by rw[List.getD_eq_getElem?_getD,hx];rfl
  have hxB:=hfi x (List.mem_of_getElem? hx)
  obtain rfl:=hF (by rintro rfl;simp at hlt)
  have hfl1:lN f k=if 0<x then dJ [102] [((k+1:Nat):Int),x] else []:=by unfold lN;rw[hxd]
  refine ad (au ?_)
  refine ad (aa (ah [] rfl ?_))
  refine ab [] (f9 rfl rfl rfl rfl rfl hlt) rfl ?_
  refine ab [] (bz 2 rfl rfl rfl rfl (a9 hx)) rfl ?_
  refine ae [] rfl ?_
  refine ad (aa (ae [] rfl ?_))
  refine aC rfl (fun hgo=>?_) (fun hno=>av ?_)
  ·have hgo:0<x:=hgo
   rw[hfl1,if_pos hgo] at hfs
   refine aa (ah [] rfl ?_)
   refine aw 50 (v':=.int .i64 ((k+1:Nat):Int)) rfl (congrArg (Value.int .i64) (bU (by omega))) ?_
   refine ah [] rfl ?_
   refine bK rfl rfl rfl rfl rfl rfl rfl (fun _=>rfl) fun g3=>?_
   have hlB:∀ n∈[((k+1:Nat):Int),x],bN n:=fun n hn=>by
    simp only[List.mem_cons,List.not_mem_nil,or_false] at hn
    rcases hn with rfl|rfl
    ·unfold bN;omega
    ·exact hxB
   refine ao (fst:=[]) (cap:=[]) [] (gT V p11 (.pointer (some ⟨p11,0,none⟩)) (.inr rfl) A3 c3 (fR vv cc++fK f k) [102] (by decide) [((k+1:Nat):Int),x] hlB (by simp) (by omega) (some ⟨g3,0,none⟩) _ _ g3 0 (fun _=>rfl) rfl) rfl rfl rfl rfl (by kernel_rfl) (K:=[blk g3 2 (ap [((k+1:Nat):Int),x]),.seg bf of (ap f),.seg bs os (ap s)]++V.heap) (aK.picks [1,2,0,3,4,5,6,7] (by decide) rfl) ⟨⟨0,_,by simp,rfl,aL _ _ _ (0,0),.inr rfl⟩,⟨3,by simp,rfl⟩,⟨4,by simp,rfl⟩,⟨5,by simp,rfl⟩,trivial⟩ (fun _=>rfl) ?_
   rintro v H' ⟨A4,c4,rfl⟩
   refine⟨rfl,?_⟩
   rw[List.append_assoc,← hfs]
   refine ai ?_
   refine aa (ae [] rfl ?_)
   exact⟨(k+1,A4,c4),[0,1,3,4,5,6,7],⟨congrArg (fun z=>some (Value.int .i64 z)) (bU (by omega)),rfl,rfl,rfl,rfl,rfl,rfl,trivial⟩,by decide,rfl,by simp only;omega,by simp only;omega⟩
  ·have hno:¬ 0<x:=hno
   rw[hfl1,if_neg hno,List.append_nil] at hfs
   refine aa (ae [] rfl ?_)
   exact⟨(k+1,A3,c3),[0,1,2,3,4,5,6],⟨congrArg (fun z=>some (Value.int .i64 z)) (bU (by omega)),rfl,rfl,rfl,rfl,rfl,rfl,trivial⟩,by decide,by simp only[hfs];rfl,by simp only;omega,by simp only;omega⟩
 obtain rfl:k=f.length:=by omega
 refine ad (ad (aa (ae [] rfl ?_)))
 refine au ?_
 refine bq (σ:=Nat×Option Addr×Nat) (fun t=>[(57,.int .i64 t.1),(56,.int .i64 s.length),(55,.slice S s.length cs),(11,.pointer (some ⟨p11,0,none⟩)),(8,.int .i64 vv),(10,.int .i64 cc)])
  (fun t=>jV 102 p11 (.pointer (some ⟨p11,0,none⟩)) t.2.1 t.2.2 ((fR vv cc++fK f f.length)++xK s t.1)++([.seg bf of (ap f),.seg bs os (ap s)]++V.heap)) (fun t=>t.1≤s.length) (fun t=>s.length-t.1) (0,A3,c3) [0,1,2,3,4,5,6] ⟨rfl,rfl,rfl,rfl,rfl,rfl,trivial⟩ (by decide) (by simp[xK];rfl) (Nat.zero_le _) ?_
 clear hk50 hfs
 rintro⟨j,A4,c4⟩ hj
 simp only at hj ⊢
 have hj50:=hxK j hj
 have hmid2:((fR vv cc++fK f f.length)++xK s j).length≤250000:=by rw[List.length_append];omega
 refine ad (aa (ae [] rfl ?_))
 refine ad (aC rfl (fun hlt=>av ?_) (fun hge=>aV ?_))
 ·have hlt:j<s.length:=by omega
  obtain⟨x,hx⟩:∃ x,s[j]?=some x:=⟨s[j],List.getElem?_eq_getElem hlt⟩
  have hxB:=hsi x (List.mem_of_getElem? hx)
  obtain rfl:=hS (by rintro rfl;simp at hlt)
  have hxs:=o9 hx
  refine ad (au ?_)
  refine ad (aa (ah [] rfl ?_))
  refine ab [] (f9 rfl rfl rfl rfl rfl hlt) rfl ?_
  refine ab [] (bz 3 rfl rfl rfl rfl (df hx)) rfl ?_
  refine ae [] rfl ?_
  refine aa (ah [] rfl ?_)
  refine bK rfl rfl rfl rfl rfl rfl rfl (fun _=>rfl) fun g3=>?_
  refine ao (fst:=[]) (cap:=[]) [] (gT V p11 (.pointer (some ⟨p11,0,none⟩)) (.inr rfl) A4 c4 ((fR vv cc++fK f f.length)++xK s j) [120] (by decide) [x] (fun n hn=>by rw[List.mem_singleton.1 hn];exact hxB) (by simp) (by omega) (some ⟨g3,0,none⟩) _ _ g3 0 (fun _=>rfl) rfl) rfl rfl rfl rfl (by kernel_rfl) (K:=[blk g3 2 (ap [x]),.seg bf of (ap f),.seg bs os (ap s)]++V.heap) (aK.picks [1,2,0,3,4,5,6,7] (by decide) rfl) ⟨⟨0,_,by simp,rfl,aL _ _ _ (0,0),.inr rfl⟩,⟨3,by simp,rfl⟩,⟨4,by simp,rfl⟩,⟨5,by simp,rfl⟩,trivial⟩ (fun _=>rfl) ?_
  rintro v H' ⟨A5,c5,rfl⟩
  refine⟨rfl,?_⟩
  rw[List.append_assoc _ (xK s j),← hxs]
  refine ai ?_
  refine aa (ae [] rfl ?_)
  exact⟨(j+1,A5,c5),[0,1,3,4,5,6,7],⟨congrArg (fun z=>some (Value.int .i64 z)) (bU (by omega)),rfl,rfl,rfl,rfl,rfl,trivial⟩,by decide,rfl,by simp only;omega,by simp only;omega⟩
 obtain rfl:j=s.length:=by omega
 refine rX (σ:=Option Addr×Nat) (fun t=>[(11,.pointer (some ⟨p11,0,none⟩))]) (fun t=>jV 102 p11 (.pointer (some ⟨p11,0,none⟩)) t.1 t.2 (ev f s vv cc)) ?_ ?_
 ·refine ad (aa (ae [] rfl ?_))
  refine aC rfl (fun he=>?_) (fun he=>?_)
  ·skip
   refine aa (ah [] rfl ?_)
   refine ao (fst:=[]) (cap:=[]) [] (gT V p11 (.pointer (some ⟨p11,0,none⟩)) (.inr rfl) A4 c4 ((fR vv cc++fK f f.length)++xK s s.length) [112,114,111,118,101,100] (by decide) [] (fun n hn=>absurd hn List.not_mem_nil) (by simp) (by omega) none _ 0 0 0 (fun h=>absurd rfl h) rfl) rfl rfl rfl rfl (by kernel_rfl) (K:=[.seg bf of (ap f),.seg bs os (ap s)]++V.heap) (aK.picks [0,1,2,3,4,5,6] (by decide) rfl) ⟨⟨0,_,by simp,rfl,lI,.inl rfl⟩,⟨2,by simp,rfl⟩,⟨3,by simp,rfl⟩,⟨4,by simp,rfl⟩,trivial⟩ (fun _=>rfl) ?_
   rintro v H' ⟨A5,c5,rfl⟩
   refine⟨rfl,ai ⟨(A5,c5),⟨rfl,trivial⟩,?_⟩⟩
   rw[show ev f s vv cc=((fR vv cc++fK f f.length)++xK s s.length)++dJ [112,114,111,118,101,100] [] by unfold ev kr;rw[if_pos he]]
   exact aK.picks [0,1] (by decide) rfl
  ·skip
   refine aa (ah [] rfl ?_)
   refine ao (fst:=[]) (cap:=[]) [] (gT V p11 (.pointer (some ⟨p11,0,none⟩)) (.inr rfl) A4 c4 ((fR vv cc++fK f f.length)++xK s s.length) [110,111,116,32,112,114,111,118,101,100] (by decide) [] (fun n hn=>absurd hn List.not_mem_nil) (by simp) (by omega) none _ 0 0 0 (fun h=>absurd rfl h) rfl) rfl rfl rfl rfl (by kernel_rfl) (K:=[.seg bf of (ap f),.seg bs os (ap s)]++V.heap) (aK.picks [0,1,2,3,4,5,6] (by decide) rfl) ⟨⟨0,_,by simp,rfl,lI,.inl rfl⟩,⟨2,by simp,rfl⟩,⟨3,by simp,rfl⟩,⟨4,by simp,rfl⟩,trivial⟩ (fun _=>rfl) ?_
   rintro v H' ⟨A5,c5,rfl⟩
   refine⟨rfl,ai ⟨(A5,c5),⟨rfl,trivial⟩,?_⟩⟩
   rw[show ev f s vv cc=((fR vv cc++fK f f.length)++xK s s.length)++dJ [110,111,116,32,112,114,111,118,101,100] [] by unfold ev kr;rw[if_neg he]]
   exact aK.picks [0,1] (by decide) rfl
 rintro⟨A5,c5⟩
 simp only
 refine ad (aa (ah [] rfl ?_))
 refine ao (fst:=[]) (cap:=[]) [] (vk 102 p11 (.pointer (some ⟨p11,0,none⟩)) A5 c5 (ev f s vv cc) (by unfold ev kr;split<;>simp[u9])) rfl rfl rfl rfl (by kernel_rfl) (K:=[]) (aK.picks [0,1] (by decide) rfl) trivial (fun _=>rfl) ?_
 rintro v H' ⟨rfl,rfl⟩
 refine⟨rfl,?_⟩
 refine ae [] rfl ?_
 exact aE [] (by decide) rfl (aB ⟨_,rfl,hrep.symm,rfl⟩)
end Go.Proofs.YtpbmihpjgjbndaaGreatDoor
/- Reports: what a text says. -/
set_option linter.unusedVariables false
set_option linter.unusedSimpArgs false
namespace Go.Proofs.YtpbmihpjgjbndaaGreatDoor
open Go.RowKit
open Lib
def gV (ws:Ws):Bool:=decide ((bD ws).2=0)
theorem pJ (V:f8) (ws:List (List UInt8)) (hw:∀ x∈ws,x.length≤10000000) (hn:ws.length≤10000000) (B:Option Addr) (n cb bb ob:Nat) (hB:ws≠[]→B=some ⟨bb,ob,none⟩) (hnl:n=ws.length):
 Fn 55 [.slice B n cb] [] ([.seg bb ob (dC ws)]++V.heap) fun v H'=>∃ (A:Option Addr) (c:Nat),v=.tuple #[.slice A (bD ws).1.length c,.bool (gV ws)]∧H'=[.own (.slice A (bD ws).1.length c) 2 1 (bD ws).1.length (ap (bD ws).1)]:=by
 subst hnl
 refine aS Tryz.func55 rfl rfl fun w0=>?_
 refine ad (aa (ae [] rfl ?_))
 refine ad (aa (ae [] rfl ?_))
 refine ad (ad (aa (ae [] rfl ?_)))
 refine cC 2 1 ?_
 refine au ?_
 refine bq (σ:=Nat×Option Addr×Nat) (fun s=>[(11,.int .i64 s.1),(10,.int .i64 ws.length),(9,.slice B ws.length cb),(4,.slice s.2.1 ((ws.take s.1).map fun w=>(dE w).1).length s.2.2)]) (fun s=>[.own (.slice s.2.1 ((ws.take s.1).map fun w=>(dE w).1).length s.2.2) 2 1 ((ws.take s.1).map fun w=>(dE w).1).length (ap ((ws.take s.1).map fun w=>(dE w).1)),.seg bb ob (dC ws)]++V.heap)
  (fun s=>s.1≤ws.length∧∀ j x,j<s.1→ws[j]?=some x→(dE x).2=0) (fun s=>ws.length-s.1) (0,none,0) [0,1,2,3,4] ⟨rfl,rfl,rfl,rfl,trivial⟩ (by decide) rfl ⟨Nat.zero_le _,fun j x h=>by omega⟩ ?_
 rintro⟨k,A,c⟩ ⟨hk,hall⟩
 simp only at hk hall ⊢
 have hml:((ws.take k).map fun w=>(dE w).1).length=k:=by rw[List.length_map,List.length_take];omega
 refine ad (aa (ae [] rfl ?_))
 refine ad (aC rfl (fun hlt=>av ?_) (fun hge=>aV ?_))
 ·have hlt':k<ws.length:=by omega
  obtain⟨x,hx⟩:∃ x,ws[k]?=some x:=⟨ws[k],List.getElem?_eq_getElem hlt'⟩
  obtain rfl:=hB (by rintro rfl;simp at hlt')
  have hxl:=hw x (List.mem_of_getElem? hx)
  refine ad (au ?_)
  refine ad (aa (ah [] rfl ?_))
  refine ab [] (f9 rfl rfl rfl rfl rfl hlt') rfl ?_
  refine ab [] (bz 1 rfl rfl rfl rfl (fJ hx)) rfl ?_
  refine ae [] rfl ?_
  refine ad (aa ?_)
  refine ak (gs:=[999]) rfl ?_
  refine ax [] (uW V x (by omega)) rfl rfl rfl rfl (by kernel_rfl) ⟨⟨2,by simp,rfl⟩,⟨3,by simp,rfl⟩,⟨4,by simp,rfl⟩,trivial⟩ (fun _=>rfl) ?_
  rintro v H' ⟨rfl,rfl⟩
  refine⟨rfl,?_⟩
  refine ae [] rfl ?_
  refine ad (ad (aa (ae [] rfl ?_)))
  refine aC rfl (fun he=>?_) (fun he=>av ?_)
  ·have hne:=oz hx hall he
   refine ad (aa (ae [] rfl ?_))
   refine cC 2 1 ?_
   refine aE [0] (by decide) rfl (aB ⟨_,rfl,none,0,?_,?_⟩)
   ·rw[hne,show gV ws=false from decide_eq_false (by rw[hne];exact he)];rfl
   ·rw[hne];rfl
  ·have he0:(dE x).2=0:=Classical.not_not.1 he
   have htk:(ws.take (k+1)).map (fun w=>(dE w).1)=(ws.take k).map (fun w=>(dE w).1)++[(dE x).1]:=by rw[List.take_add_one,hx];simp
   refine aa (ah [] rfl ?_)
   refine bK rfl rfl rfl rfl rfl rfl rfl (fun _=>rfl) fun g2=>?_
   refine be (n:=((ws.take k).map fun w=>(dE w).1).length) (m:=1) (off:=0) (news:=ap [(dE x).1]) 1 0 rfl rfl rfl rfl rfl rfl (by decide) rfl rfl (aL g2 _ _ (0,0)) (fun _=>rfl) rfl rfl (by omega) (by omega) (fun _ _=>rfl) fun A3 c3=>?_
   refine ae [] rfl ?_
   refine aa (ae [] rfl ?_)
   refine⟨(k+1,A3,c3),[1,2,3,4,5],⟨?_,rfl,rfl,?_,trivial⟩,by decide,?_,⟨by simp only;omega,fun j y hj hy=>?_⟩,by simp only;omega⟩
   ·exact congrArg (fun z=>some (Value.int .i64 z)) (bU (by omega))
   ·simp only[htk];rw[List.length_append];rfl
   ·simp only[htk];rw[List.length_append,show ap ((ws.take k).map (fun w=>(dE w).1)++[(dE x).1])=ap ((ws.take k).map fun w=>(dE w).1)++ap [(dE x).1] by simp[ap]];rfl
   ·rcases Nat.lt_or_eq_of_le (Nat.le_of_lt_succ hj) with h|rfl
    ·exact hall j y h hy
    ·rw[hx] at hy;rw[← Option.some.inj hy];exact he0
 obtain rfl:k=ws.length:=by omega
 rw[List.take_length] at*
 have hok:=mu (ws:=ws) fun w hw'=>by
  obtain⟨j,hj⟩:=List.mem_iff_getElem?.1 hw'
  exact hall j w (List.getElem?_eq_some_iff.1 hj).1 hj
 refine ad (aa (ae [] rfl ?_))
 refine aE [0] (by decide) rfl (aB ⟨_,rfl,A,c,?_,?_⟩)
 ·rw[hok,show gV ws=true from decide_eq_true (by rw[hok])];rfl
 ·rw[hok]
def ef (n:Nat) (q:List Int×List Int) (h:List UInt8) (t:Ws):List Int×List Int:=
 if h=[102]∧gV t=true∧(bD t).1.length=2∧1≤(bD t).1.getD 0 0∧(bD t).1.getD 0 0≤n then (q.1.set ((bD t).1.getD 0 0-1).toNat ((bD t).1.getD 1 0),q.2)
 else if h=[120]∧gV t=true∧(bD t).1.length=1 then (q.1,q.2++[(bD t).1.getD 0 0]) else q
def el (n:Nat) (q:List Int×List Int):List Ws→Option (List Int×List Int)
 |[]=>some q
 |[]::_=>none
 |(h::t)::r=>el n (ef n q h t) r
theorem fH {n:Nat}:∀ (a b:List Ws) (q:List Int×List Int),el n q (a++b)=match el n q a with|some q'=>el n q' b|none=>none
 |[],b,q=>rfl
 |[]::a,b,q=>rfl
 |(h::t)::a,b,q=>by
  show el n (ef n q h t) (a++b)=_
  rw[fH a b];rfl
theorem vK {n:Nat} {q:List Int×List Int} {h:List UInt8} {t:Ws} (h1:∀ x∈q.1,bN x) (h2:∀ x∈q.2,bN x):(∀ x∈(ef n q h t).1,bN x)∧(∀ x∈(ef n q h t).2,bN x)∧(ef n q h t).1.length=q.1.length∧(ef n q h t).2.length≤q.2.length+1:=by
 have hg:∀ i,bN ((bD t).1.getD i 0):=fun i=>by
  rw[List.getD_eq_getElem?_getD]
  cases hx:(bD t).1[i]? with
  |none=>unfold bN;show _≤(0:Int)∧(0:Int)≤_;omega
  |some x=>exact xF x (List.mem_of_getElem? hx)
 unfold ef
 split
 ·refine⟨fun x hx=>?_,h2,by rw[List.length_set],Nat.le_succ _⟩
  rcases List.mem_or_eq_of_mem_set hx with hx|rfl
  ·exact h1 x hx
  ·exact hg 1
 ·split
  ·refine⟨h1,fun x hx=>?_,rfl,by simp⟩
   rcases List.mem_append.1 hx with hx|hx
   ·exact h2 x hx
   ·rw[List.mem_singleton.1 hx];exact hg 0
  ·exact⟨h1,h2,rfl,Nat.le_succ _⟩
def mG (N:a8) (l:List UInt8) (f s:List Int):Prop:=el N.arcs.length (List.replicate N.arcs.length 0,[]) ((bc l).map bx)=some (f,s)∧aH N f∧eq N s∧ev f s (cY (N.arcs.zip f) N.snk) (ec s N.arcs)=l
def xT (N:a8) (l:List UInt8) (v:Value) (H':Heap):Prop:=
 (∃ (f s:List Int) (A B:Option Addr) (c d:Nat),mG N l f s∧v=.tuple #[.slice A f.length c,.slice B s.length d,.int .i64 0]∧H'=[.own (.slice A f.length c) 2 1 f.length (ap f),.own (.slice B s.length d) 3 1 s.length (ap s)])∨
 ((¬ ∃ f s,mG N l f s)∧v=.tuple #[.slice none 0 0,.slice none 0 0,.int .i64 2]∧H'=[])
end Go.Proofs.YtpbmihpjgjbndaaGreatDoor
