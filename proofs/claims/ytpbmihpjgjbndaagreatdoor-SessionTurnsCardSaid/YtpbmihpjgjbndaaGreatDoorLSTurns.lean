/- SessionTurns: engines that are asked one behind the other, in any order, tell one value each time, and what they leave is proved; other engines there are none. No condition but what the row lists. -/
import Derived.Test.YtpbmihpjgjbndaaGreatDoorQX37
import Derived.Test.YtpbmihpjgjbndaaGreatDoorQX24
import Derived.Test.YtpbmihpjgjbndaaGreatDoorQX34
set_option linter.unusedVariables false
set_option linter.unusedSimpArgs false
namespace Go.Proofs.YtpbmihpjgjbndaaGreatDoor
open Go.RowKit
structure qZ (N:bc) (m:cl) (val:Int):Prop where
 a:m.a=true
 net:m.N=N
 ok:m.OK
 yet:val<0→val=-1∧m.b=false
 was:0≤val→m.b=true∧m.d=true∧eY N m.f∧mn N m.f m.s∧val=dg (N.arcs.zip m.f) N.snk
theorem xi {N:bc} (hR:N.Right) {f:List Int} (h:eY N f):0≤dg (N.arcs.zip f) N.snk:=by
 have:=lI hR h (gR N hR)
 rw[sJ] at this
 exact this
theorem wh {N:bc} (hR:N.Right) {f g:List Int} (h:eY N f) (k:eY N g):dg (N.arcs.zip f) N.snk=dg (N.arcs.zip g) N.snk:=by
 have:=lI hR h k.1
 have:=lI hR k h.1
 omega
theorem vQ {N:bc} (hR:N.Right) {f s:List Int} (h:eY N f) (hs:mn N f s):qj N f s=0:=by
 obtain⟨hc,hcl,_⟩:=hs.cut hR h
 unfold qj
 rw[if_pos h.1,if_pos hc,if_pos ((mR hR h.1 hc).2 hcl).symm]
theorem oO {m:cl} (hb:m.a=true) (h1:m.b=true) (h2:m.d=true):m.lack [false,true]=0:=by
 unfold cl.lack
 rw[if_neg (by rw[hb];decide),if_pos]
 intro c hc
 cases c with
 |false=>exact h1
 |true=>exact h2
theorem oh {m:cl} (hb:m.a=true) (h1:m.b=false) (l:List Bool):m.lack (false::l)=8:=by
 unfold cl.lack
 rw[if_neg (by rw[hb];decide),if_neg]
 intro h
 have:=h false (by simp)
 unfold cl.has at this
 rw[show (bif false then m.d else m.b)=m.b from rfl,h1] at this
 exact Bool.noConfusion this
set_option maxHeartbeats 2000000 in
theorem kX (V:eb) (nd:Int) (hnd:cL nd) (en:Int) (hen:cL en) (A:Option Addr) (c b o:Nat) (l:List dG) (hA:l≠[]→A=some ⟨b,o,none⟩) (hl:∀ x∈l,cL x.fr∧cL x.to∧cL x.cap) (hs:l.length*24≤140737488351232)
 (es:List UInt8) (wes:es.length≤140737488351232):
 Fn 5 [.int .i64 nd,.int .i64 en,.slice A l.length c,eN es] [] ([.seg b o (arcs l)]++V.heap) fun v _=>v=.bool true:=by
 refine aK Tryz.func5 rfl rfl fun w0=>?_
 refine ad (aa (ae [] rfl ?_))
 refine ad (aa (ah [] rfl ?_))
 refine ap [] q9 rfl rfl rfl rfl (by kernel_rfl) trivial (fun _=>rfl) ?_
 rintro v H' ⟨rfl,rfl⟩
 refine⟨rfl,?_⟩
 refine ae [] rfl ?_
 refine ad (aa (ah [] rfl ?_))
 refine ap [] sX rfl rfl rfl rfl (by kernel_rfl) trivial (fun _=>rfl) ?_
 rintro v H' ⟨p,rfl,rfl⟩
 refine⟨rfl,?_⟩
 refine ae [] rfl ?_
 refine ad (ad (aa (ah [] rfl ?_)))
 refine ah [2] rfl ?_
 refine ab [2] (v:=.bool false) (qG rfl rfl rfl (by kernel_rfl)) rfl ?_
 refine ah [2,6] rfl ?_
 by_cases hlen:12<es.length
 ·refine av 33 (v':=.bool true) rfl (congrArg Value.bool (aA (by rw[cN];omega))) ?_
  refine ai ?_
  refine a8 rfl ?_
  refine ad (aa (ah [] rfl ?_))
  refine ah [1] rfl ?_
  refine ab [1] (v:=.bool true) (yb rfl rfl rfl (by kernel_rfl)) rfl ?_
  refine ah [1] rfl ?_
  refine ai ?_
  exact aC [] (by decide) rfl (ay ⟨_,rfl,rfl⟩)
 refine av 33 (v':=.bool false) rfl (congrArg Value.bool (aB (by rw[cN];omega))) ?_
 refine ai ?_
 refine bq rfl ?_
 refine aq (ad (aa (ah [] rfl ?_)))
 refine ap [] (tY nd en hnd hen A c b o l hA hl (by omega)) rfl rfl rfl rfl (by kernel_rfl) ⟨⟨1,_,by simp,rfl,am _ _ _,aw⟩,trivial⟩ (fun _=>rfl) ?_
 rintro v H' ⟨N,A',c',hR,hn9,hl24,hcap,rfl,rfl⟩
 refine⟨rfl,?_⟩
 refine bA rfl rfl rfl (fun _=>rfl) fun p11=>?_
 refine aE 0 rfl rfl rfl rfl rfl [] rfl ?_
 refine gq (bg 1 rfl) fun ⟨_,_,hA1,hl1⟩=>?_
 obtain⟨g1,hA1⟩:=cd hA1 hl1
 refine ae [] rfl ?_
 refine ad (aa (ah [] rfl ?_))
 refine ab [] (v:=bn N A' c') (af 0 rfl rfl rfl rfl) rfl ?_
 refine ap [] (wF V N hR.fits' A' c' g1 0 (fS hA1)) rfl rfl rfl rfl (by kernel_rfl) ⟨⟨1,_,by simp,rfl,aS hA1,aX hA1⟩,⟨4,by simp,rfl⟩,⟨5,by simp,rfl⟩,⟨6,by simp,rfl⟩,trivial⟩ (fun _=>rfl) ?_
 rintro v H' ⟨rfl,rfl⟩
 refine⟨rfl,?_⟩
 have hpr:nj N=.tuple #[eN (gJ N),.int .i64 0]:=by
  unfold nj
  rw[if_pos hR.check,if_pos hR.check]
 rw[hpr]
 refine ae [] rfl ?_
 have hF:=hR.fits4
 have hHl:=vZ N hF
 have hAl:=vT N hF N.arcs fun a h=>h
 have hPl:(gJ N).length≤9999999:=by unfold gJ;rw[List.length_append];omega
 have hpp:=pK hR
 refine ad (aa (ah [] rfl ?_))
 refine dC 3 1 ?_
 refine dC 2 1 ?_
 refine dC 70 3 ?_
 refine au (fst:=[]) (cap:=[]) [] (xc V p uw (gJ N) hPl) rfl rfl rfl rfl (by kernel_rfl) (K:=V.heap) (aL.picks [5,0,1,2,7,8,9] (by decide) rfl) ⟨⟨0,by simp[eb.heap],rfl⟩,⟨1,by simp[eb.heap],rfl⟩,⟨2,by simp[eb.heap],rfl⟩,trivial⟩ (fun _=>rfl) ?_
 rintro v H' (⟨h0,_⟩|⟨_,A2,c2,rfl,rfl⟩)
 case inl=>rw[hpp] at h0;exact absurd rfl h0
 rw[hpp]
 refine⟨rfl,?_⟩
 refine ae [] rfl ?_
 refine ad (aa (ae [] rfl ?_))
 refine ad (ad (aa (ae [] rfl ?_)))
 refine ax ?_
 refine cF (σ:={ t:Nat×cl×Int//t.1≤es.length∧qZ N t.2.1 t.2.2 }) (fun t=>[(17,.int .i64 (t.1.1:Int)),(3,eN es),(10,.pointer (some ⟨p,0,none⟩)),(16,.int .i64 t.1.2.2),(15,.int .i64 0)])
  (fun t=>d9 p t.1.2.1) (fun _=>True) (fun t=>es.length-t.1.1) ⟨(0,uw.load N A2 c2,-1),Nat.zero_le _,⟨rfl,rfl,⟨fun _=>hR,fun _ h=>absurd h List.not_mem_nil,Nat.zero_le _,Nat.zero_le _⟩,fun _=>⟨rfl,rfl⟩,fun h=>absurd h (by show ¬ (0:Int)≤-1;decide)⟩⟩ ⟨rfl,rfl,rfl,rfl,rfl,trivial⟩ (aL.picks [0,1,2,3] (by decide) rfl) trivial ?_
 rintro⟨⟨k,m,val⟩,hk,hT⟩-
 simp only at hk hT ⊢
 refine ad (ad (aa (ae [] rfl ?_)))
 refine aD rfl (fun hlt=>aq ?_) (fun hge=>a6 ?_)
 case refine_2=>
  refine ad (aa (ae [] rfl ?_))
  exact aC [] (by decide) rfl (ay ⟨_,rfl,congrArg Value.bool (aA rfl)⟩)
 have hlt:k<es.length:=by rw[cN] at hlt;omega
 obtain⟨e,he⟩:∃ e,es[k]?=some e:=⟨es[k],List.getElem?_eq_getElem hlt⟩
 refine ad (ax ?_)
 refine (nk (σ:={ t:cl×Int×Int//t.1.a=true∧t.1.N=N∧t.1.OK∧(((e.toNat:Int)=112∨(e.toNat:Int)=116∨(e.toNat:Int)=115)→t.2.2=0∧0≤t.2.1∧(0≤val→t.2.1=val)∧qZ N t.1 t.2.1)∧(¬ ((e.toNat:Int)=112∨(e.toNat:Int)=116∨(e.toNat:Int)=115)→t.2.1=0∧t.2.2=1∧qZ N t.1 val) })
  (fun t=>[(17,.int .i64 k),(3,eN es),(10,.pointer (some ⟨p,0,none⟩)),(16,.int .i64 val),(15,.int .i64 0),(18,.int .i64 t.1.2.1),(19,.int .i64 t.1.2.2)]) (fun t=>d9 p t.1.1) ?_ ?_)
 ·skip
  refine aa (ah [] rfl ?_)
  refine ab [] (ie rfl rfl rfl rfl he) rfl ?_
  by_cases hkn:(e.toNat:Int)=112∨(e.toNat:Int)=116∨(e.toNat:Int)=115
  ·have hRm:m.N.Right:=by rw[hT.net];exact hR
   refine au (fst:=[]) (cap:=[]) [] (wR p m hT.a hRm (e.toNat:Int) hkn) rfl rfl rfl rfl (by kernel_rfl) (K:=[]) (aL.picks [0,1,2,3] (by decide) rfl) trivial (fun _=>rfl) ?_
   rintro v H' ⟨f,s,Af,cf,As,cs,hS,hFs,rfl,rfl⟩
   refine⟨rfl,?_⟩
   refine ah [] rfl ?_
   rw[hT.net] at hS hFs ⊢
   have hMx:=hS.max hR
   have hpos:=xi hR hMx
   have hc:=hFs.cut hR hMx
   have hb:=dF hR hMx.1.toRanged N.snk
   have hfl:=hMx.1.len
   have hl2:=hR.len
   refine ai ⟨⟨(m.both f s Af cf As cs,dg (N.arcs.zip f) N.snk,0),hT.a,hT.net,⟨hT.ok.net,aN.inB hR hMx.1.toRanged,by show f.length≤_;omega,by show s.length≤_;omega⟩,fun _=>⟨rfl,hpos,fun h0=>?_,⟨hT.a,hT.net,⟨hT.ok.net,aN.inB hR hMx.1.toRanged,by show f.length≤_;omega,by show s.length≤_;omega⟩,fun h=>by simp only at h;omega,fun _=>⟨rfl,rfl,hMx,hFs,rfl⟩⟩⟩,fun h=>absurd hkn h⟩,⟨rfl,rfl,rfl,rfl,rfl,rfl,rfl,trivial⟩,?_⟩
   ·obtain⟨_,_,h3,_,h5⟩:=hT.was h0
    simp only
    rw[h5]
    exact wh hR hMx h3
   ·exact aL.picks [0,1,2,3] (by decide) rfl
  ·refine ap (fst:=[]) (cap:=[]) [] (tt m hT.a p (e.toNat:Int) hkn) rfl rfl rfl rfl (by kernel_rfl) ⟨⟨0,_,by simp[d9],rfl,aF _ _ _ (0,0),.inr rfl⟩,trivial⟩ (fun _=>rfl) ?_
   rintro v H' ⟨rfl,rfl⟩
   refine⟨rfl,?_⟩
   refine ah [] rfl ?_
   exact ai ⟨⟨(m,0,1),hT.a,hT.net,hT.ok,fun h=>absurd h hkn,fun _=>⟨rfl,rfl,hT⟩⟩,⟨rfl,rfl,rfl,rfl,rfl,rfl,rfl,trivial⟩,aL.picks [0,1,2,3] (by decide) rfl⟩
 rintro⟨⟨m1,v1,f1⟩,ha,hN1,hok1,hyes,hno⟩
 simp only at ha hN1 hok1 hyes hno ⊢
 have hokn:=hok1
 by_cases hkn:(e.toNat:Int)=112∨(e.toNat:Int)=116∨(e.toNat:Int)=115
 ·obtain⟨rfl,hv0,hvv,hT1⟩:=hyes hkn
  refine dM [(20,.bool true),(17,.int .i64 k),(3,eN es),(10,.pointer (some ⟨p,0,none⟩)),(16,.int .i64 val),(15,.int .i64 0),(18,.int .i64 v1),(19,.int .i64 0)] (d9 p m1) ?_ ?_
  ·skip
   refine aa (ah [] rfl ?_)
   refine ab [] (ie rfl rfl rfl rfl he) rfl ?_
   refine ah [] rfl ?_
   by_cases h1:(e.toNat:Int)=112
   ·refine av 72 (v':=.bool true) rfl (congrArg Value.bool (aA h1)) ?_
    refine ah [4,10] rfl ?_
    exact ai ⟨[0,1,2,3],⟨rfl,rfl,rfl,rfl,rfl,rfl,rfl,rfl,trivial⟩,by decide,rfl⟩
   refine av 72 (v':=.bool false) rfl (congrArg Value.bool (aB h1)) ?_
   refine ah [4] rfl ?_
   refine ab [4] (ie rfl rfl rfl rfl he) rfl ?_
   refine ah [4] rfl ?_
   by_cases h2:(e.toNat:Int)=116
   ·refine av 78 (v':=.bool true) rfl (congrArg Value.bool (aA h2)) ?_
    refine ah [4,10] rfl ?_
    exact ai ⟨[0,1,2,3],⟨rfl,rfl,rfl,rfl,rfl,rfl,rfl,rfl,trivial⟩,by decide,rfl⟩
   refine av 78 (v':=.bool false) rfl (congrArg Value.bool (aB h2)) ?_
   refine ah [4,10] rfl ?_
   refine ab [4,10] (ie rfl rfl rfl rfl he) rfl ?_
   refine ah [4,10] rfl ?_
   refine ai ⟨[0,1,2,3],⟨?_,rfl,rfl,rfl,rfl,rfl,rfl,rfl,trivial⟩,by decide,rfl⟩
   exact congrArg (fun z=>some (Value.bool z)) (aA (by omega))
  refine ad (ad (aa (ah [] rfl ?_)))
  refine av 88 (v':=.bool false) rfl (congrArg Value.bool (by rw[aA rfl];rfl)) ?_
  refine ah [4,7,10] rfl ?_
  refine ai ?_
  refine bq rfl (aq ?_)
  refine bB (bg 1 rfl) fun ⟨_,_,hB1,hn1⟩=>?_
  obtain⟨w1,hB1⟩:=cd hB1 hn1
  refine bB (bg 2 rfl) fun ⟨_,_,hB2,hn2⟩=>?_
  obtain⟨w2,hB2⟩:=cd hB2 hn2
  refine bB (bg 3 rfl) fun ⟨_,_,hB3,hn3⟩=>?_
  obtain⟨w3,hB3⟩:=cd hB3 hn3
  have hat:m1.At w1 w2 w3:=⟨fS hB1,ia hB2,ia hB3⟩
  obtain⟨t1,t2,t3,t4,t5⟩:=hT1.was hv0
  have hck:m1.checkZ=0:=by
   unfold cl.checkZ
   rw[if_neg (fun h=>h (oO hT1.a t1 t2)),hN1]
   exact vQ hR t3 t4
  refine ad (dM [(114,.bool false),(20,.bool true),(17,.int .i64 k),(3,eN es),(10,.pointer (some ⟨p,0,none⟩)),(16,.int .i64 val),(15,.int .i64 0),(18,.int .i64 v1)] (d9 p m1) ?_ ?_)
  ·skip
   refine aa (ah [] rfl ?_)
   refine ah [1] rfl ?_
   have hgo:∀ E,gb E 109=some (.bool false)→True:=fun _ _=>trivial
   by_cases h0:0≤val
   ·refine av 104 (v':=.bool true) rfl (congrArg Value.bool (aA h0)) ?_
    refine ah [1,4] rfl ?_
    refine av 109 (v':=.bool false) rfl (congrArg Value.bool (aB (fun h=>h (hvv h0)))) ?_
    refine ah [1,4,9] rfl ?_
    refine ap [1,4,9] (kZ m1 hok1 p w1 w2 w3 hat) rfl rfl rfl rfl (by kernel_rfl) ⟨⟨0,_,by simp[d9],rfl,aF _ _ _ (0,0),.inr rfl⟩,⟨1,_,by simp[d9],rfl,aS hB1,aX hB1⟩,⟨2,_,by simp[d9],rfl,aS hB2,aX hB2⟩,⟨3,_,by simp[d9],rfl,aS hB3,aX hB3⟩,trivial⟩ (fun _=>rfl) ?_
    rintro v H' ⟨rfl,rfl⟩
    refine⟨rfl,?_⟩
    rw[hck]
    refine ah [1,4,9] rfl ?_
    refine ai ⟨[0,1,2,3],⟨?_,rfl,rfl,rfl,rfl,rfl,rfl,rfl,trivial⟩,by decide,rfl⟩
    exact congrArg (fun z=>some (Value.bool z)) (aB (by decide))
   ·refine av 104 (v':=.bool false) rfl (congrArg Value.bool (aB h0)) ?_
    refine ah [1,4,9] rfl ?_
    refine ap [1,4,9] (kZ m1 hok1 p w1 w2 w3 hat) rfl rfl rfl rfl (by kernel_rfl) ⟨⟨0,_,by simp[d9],rfl,aF _ _ _ (0,0),.inr rfl⟩,⟨1,_,by simp[d9],rfl,aS hB1,aX hB1⟩,⟨2,_,by simp[d9],rfl,aS hB2,aX hB2⟩,⟨3,_,by simp[d9],rfl,aS hB3,aX hB3⟩,trivial⟩ (fun _=>rfl) ?_
    rintro v H' ⟨rfl,rfl⟩
    refine⟨rfl,?_⟩
    rw[hck]
    refine ah [1,4,9] rfl ?_
    refine ai ⟨[0,1,2,3],⟨?_,rfl,rfl,rfl,rfl,rfl,rfl,rfl,trivial⟩,by decide,rfl⟩
    exact congrArg (fun z=>some (Value.bool z)) (aB (by decide))
  refine bq rfl (aq ?_)
  refine ad (ad (aa (ae [] rfl ?_)))
  refine a8 rfl ?_
  refine aa (ae [] rfl ?_)
  refine ad (aa (ah [] rfl ?_))
  refine av 119 (v':=.bool false) rfl (congrArg Value.bool (aB (by omega))) ?_
  refine ah [2] rfl ?_
  refine ai ?_
  refine bq rfl (aq ?_)
  refine aa (ae [] rfl ?_)
  refine⟨⟨(k+1,m1,v1),by simp only;omega,hT1⟩,⟨?_,rfl,rfl,rfl,rfl,trivial⟩,aL.refl,trivial,by simp only;omega⟩
  exact congrArg (fun z=>some (Value.int .i64 z)) (cj (by omega))
 ·obtain⟨rfl,rfl,hT1⟩:=hno hkn
  refine dM [(20,.bool false),(17,.int .i64 k),(3,eN es),(10,.pointer (some ⟨p,0,none⟩)),(16,.int .i64 val),(15,.int .i64 0),(18,.int .i64 0),(19,.int .i64 1)] (d9 p m1) ?_ ?_
  ·skip
   refine aa (ah [] rfl ?_)
   refine ab [] (ie rfl rfl rfl rfl he) rfl ?_
   refine ah [] rfl ?_
   refine av 72 (v':=.bool false) rfl (congrArg Value.bool (aB (fun h=>hkn (.inl h)))) ?_
   refine ah [4] rfl ?_
   refine ab [4] (ie rfl rfl rfl rfl he) rfl ?_
   refine ah [4] rfl ?_
   refine av 78 (v':=.bool false) rfl (congrArg Value.bool (aB (fun h=>hkn (.inr (.inl h))))) ?_
   refine ah [4,10] rfl ?_
   refine ab [4,10] (ie rfl rfl rfl rfl he) rfl ?_
   refine ah [4,10] rfl ?_
   refine ai ⟨[0,1,2,3],⟨?_,rfl,rfl,rfl,rfl,rfl,rfl,rfl,trivial⟩,by decide,rfl⟩
   exact congrArg (fun z=>some (Value.bool z)) (aB (fun h=>hkn (.inr (.inr h))))
  refine ad (ad (aa (ah [] rfl ?_)))
  refine av 88 (v':=.bool false) rfl (congrArg Value.bool (by rw[aB (by decide)];rfl)) ?_
  refine ah [4,7] rfl ?_
  refine av 94 (v':=.bool false) rfl (congrArg Value.bool (aB (fun h=>h rfl))) ?_
  refine ah [4,7,10] rfl ?_
  refine av 99 (v':=.bool false) rfl (congrArg Value.bool (aB (fun h=>h rfl))) ?_
  refine ai ?_
  refine bq rfl (aq ?_)
  refine ad (ad (aa (ah [] rfl ?_)))
  refine ah [1,4,9] rfl ?_
  refine ai ?_
  refine bq rfl (aq ?_)
  refine ad (ad (aa (ae [] rfl ?_)))
  refine bq rfl (aq ?_)
  refine bB (bg 1 rfl) fun ⟨_,_,hB1,hn1⟩=>?_
  obtain⟨w1,hB1⟩:=cd hB1 hn1
  refine bB (bg 2 rfl) fun ⟨_,_,hB2,hn2⟩=>?_
  obtain⟨w2,hB2⟩:=cd hB2 hn2
  refine bB (bg 3 rfl) fun ⟨_,_,hB3,hn3⟩=>?_
  obtain⟨w3,hB3⟩:=cd hB3 hn3
  have hat:m1.At w1 w2 w3:=⟨fS hB1,ia hB2,ia hB3⟩
  refine (dM [(123,.bool false),(17,.int .i64 k),(3,eN es),(10,.pointer (some ⟨p,0,none⟩)),(16,.int .i64 val),(15,.int .i64 0),(18,.int .i64 0)] (d9 p m1) ?_ ?_)
  ·skip
   refine aa (ah [] rfl ?_)
   by_cases h0:val<0
   ·obtain⟨_,hb⟩:=hT1.yet h0
    have hck:m1.checkZ=8:=by
     unfold cl.checkZ
     rw[if_pos (by rw[oh hT1.a hb];decide),oh hT1.a hb]
    refine av 119 (v':=.bool true) rfl (congrArg Value.bool (aA h0)) ?_
    refine ah [2] rfl ?_
    refine ap [2] (kZ m1 hok1 p w1 w2 w3 hat) rfl rfl rfl rfl (by kernel_rfl) ⟨⟨0,_,by simp[d9],rfl,aF _ _ _ (0,0),.inr rfl⟩,⟨1,_,by simp[d9],rfl,aS hB1,aX hB1⟩,⟨2,_,by simp[d9],rfl,aS hB2,aX hB2⟩,⟨3,_,by simp[d9],rfl,aS hB3,aX hB3⟩,trivial⟩ (fun _=>rfl) ?_
    rintro v H' ⟨rfl,rfl⟩
    refine⟨rfl,?_⟩
    rw[hck]
    refine ah [2] rfl ?_
    refine ai ⟨[0,1,2,3],⟨?_,rfl,rfl,rfl,rfl,rfl,rfl,trivial⟩,by decide,rfl⟩
    exact congrArg (fun z=>some (Value.bool z)) (aB (by decide))
   ·refine av 119 (v':=.bool false) rfl (congrArg Value.bool (aB h0)) ?_
    refine ah [2] rfl ?_
    exact ai ⟨[0,1,2,3],⟨rfl,rfl,rfl,rfl,rfl,rfl,rfl,trivial⟩,by decide,rfl⟩
  refine bq rfl (aq ?_)
  refine aa (ae [] rfl ?_)
  refine⟨⟨(k+1,m1,val),by simp only;omega,hT1⟩,⟨?_,rfl,rfl,rfl,rfl,trivial⟩,aL.refl,trivial,by simp only;omega⟩
  exact congrArg (fun z=>some (Value.int .i64 z)) (cj (by omega))
theorem sessionTurns_fn (V:eb) (nd:Int) (hnd:cL nd) (en:Int) (hen:cL en) (A:Option Addr) (c b o:Nat) (l:List dG) (hA:l≠[]→A=some ⟨b,o,none⟩) (hl:∀ x∈l,cL x.fr∧cL x.to∧cL x.cap) (hs:l.length*24≤140737488351232)
 (s:ByteArray) (ws:s.size≤140737488351232):
 Fn 5 [.int .i64 nd,.int .i64 en,.slice A l.length c,.string s] [] ([.seg b o (arcs l)]++V.heap) fun v _=>v=.bool true:=by
 have:=kX V nd hnd en hen A c b o l hA hl hs s.data.toList (by simpa using ws)
 exact this
end Go.Proofs.YtpbmihpjgjbndaaGreatDoor
