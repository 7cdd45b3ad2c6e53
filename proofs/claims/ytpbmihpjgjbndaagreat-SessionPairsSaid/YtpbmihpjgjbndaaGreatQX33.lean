/- The engine and the words that all chapters share: several texts in one. -/
import Derived.Test.YtpbmihpjgjbndaaGreatQX26
import Derived.Test.YtpbmihpjgjbndaaGreatQX20
import Derived.Test.YtpbmihpjgjbndaaGreatQC
import Derived.Test.YtpbmihpjgjbndaaGreatQB
/- The references' words: what is wrong with amounts, and what is left in a node. -/
set_option linter.unusedVariables false
set_option linter.unusedSimpArgs false
namespace Go.Proofs.YtpbmihpjgjbndaaGreat
open Go.RowKit
theorem uZ {N:bt} {f:List Int} {k:Nat} {a:dQ} {x:Int} (ha:N.arcs[k]?=some a) (hx:f[k]?=some x) (v:Int):ex ((N.arcs.zip f).take (k+1)) v=ex ((N.arcs.zip f).take k) v+((if a.to=v then x else 0)-(if a.fr=v then x else 0)):=by
 rw[List.take_add_one,dr ha hx]
 simp[ex]
theorem uU {N:bt} (hR:N.Right) {f:List Int} (hf:Ranged N f) (k:Nat) (v:Int):-4611686018427387903≤ex ((N.arcs.zip f).take k) v∧ex ((N.arcs.zip f).take k) v≤4611686018427387903∧∀ a x,N.arcs[k]?=some a→f[k]?=some x→ex ((N.arcs.zip f).take k) v+x≤4611686018427387903∧x≤4611686018427387903:=by
 have hall:∀ p∈(N.arcs.zip f).take k,0≤p.2∧p.2≤p.1.cap:=fun p hp=>hf.all p (List.mem_of_mem_take hp)
 have h1:=l7 _ v hall
 have hsum:=hR.sum
 have e:N.arcs=(N.arcs.zip f).map (·.1):=(List.map_fst_zip (by have:=hf.len;omega)).symm
 have hnn:∀ p∈N.arcs.zip f,0≤p.1.cap:=fun p hp=>by have:=hf.all p hp;omega
 have hcut:∀ (ps:List (dQ×Int)) (k:Nat),(∀ p∈ps,0≤p.1.cap)→((ps.take k).map (·.1.cap)).sum≤(ps.map (·.1.cap)).sum:=by
  intro ps
  induction ps with
  |nil=>intro k _;simp
  |cons q ps ih=>
   intro k h
   have h0:=h q (by simp)
   cases k with
   |zero=>
    have:=jO ((q::ps).map (·.1.cap)) (fun y hy=>by obtain⟨p,hp,rfl⟩:=List.mem_map.1 hy;exact h p hp)
    simpa using this
   |succ k=>
    have:=ih k fun p hp=>h p (by simp[hp])
    simp only[List.take_succ_cons,List.map_cons,List.sum_cons]
    omega
 have e2:((N.arcs.zip f).map (·.1.cap)).sum=(N.arcs.map (·.cap)).sum:=by
  conv=>rhs;rw[e]
  rw[List.map_map];rfl
 have h2:=hcut (N.arcs.zip f) k hnn
 refine⟨by omega,by omega,fun a x ha hx=>?_⟩
 have h3:=hcut (N.arcs.zip f) (k+1) hnn
 have hz:=dr ha hx
 have hax:=hf.all _ (List.mem_of_getElem? hz)
 rw[List.take_add_one,hz] at h3
 simp only[Option.toList_some,List.map_append,List.map_cons,List.map_nil,List.sum_append,List.sum_cons,List.sum_nil] at h3
 simp only at hax
 have h4:=jO (((N.arcs.zip f).take k).map (·.1.cap)) (fun y hy=>by obtain⟨p,hp,rfl⟩:=List.mem_map.1 hy;exact hnn p (List.mem_of_mem_take hp))
 omega
set_option maxHeartbeats 1000000 in
theorem qO (N:bt) (hR:N.Right) (A:Option Addr) (c b o:Nat) (hA:N.arcs≠[]→A=some ⟨b,o,none⟩) (f:List Int) (hf:Ranged N f) (F:Option Addr) (cf bf of:Nat) (hF:f≠[]→F=some ⟨bf,of,none⟩) (v:Int):
 Fn 79 [bi N A c,.slice F f.length cf,.int .i64 v] [] [.seg b o (arcs N.arcs),.seg bf of (aw f)] fun u H'=>u=.int .i64 (ex (N.arcs.zip f) v)∧H'=[]:=by
 have hl2:=hR.len
 have hfl:=hf.len
 refine aM Tryz.func79 rfl rfl fun w0=>?_
 refine ae (aa ?_)
 refine a6 (cs:=bJ N A c) rfl rfl rfl (fun _=>rfl) fun p=>?_
 refine af [] rfl ?_
 refine ae (aa (af [] rfl ?_))
 refine ae (ae (aa (af [] rfl ?_)))
 refine au ?_
 refine bM (σ:=Nat) (fun k=>[(8,.int .i64 (k:Int)),(7,.int .i64 (ex ((N.arcs.zip f).take k) v)),(3,.pointer (some ⟨p,0,none⟩)),(1,.slice F f.length cf),(2,.int .i64 v)])
  (fun _=>[blk p 50 (bJ N A c),.seg b o (arcs N.arcs),.seg bf of (aw f)]) (fun k=>k≤N.arcs.length) (fun k=>N.arcs.length-k) 0 ⟨rfl,rfl,rfl,rfl,rfl,trivial⟩ aH.refl (Nat.zero_le _) ?_
 intro k hk
 refine ae (ae (aa (ah [] rfl ?_)))
 refine ab [] (v:=.slice A N.arcs.length c) (ad 0 rfl rfl rfl rfl) rfl ?_
 refine af [] rfl ?_
 refine aC rfl (fun hlt=>aq ?_) (fun hge=>aO ?_)
 ·have hkl:k<N.arcs.length:=by omega
  obtain⟨a,ha⟩:∃ a,N.arcs[k]?=some a:=⟨N.arcs[k],List.getElem?_eq_getElem hkl⟩
  obtain⟨x,hx⟩:∃ x,f[k]?=some x:=⟨f[k]'(by omega),List.getElem?_eq_getElem (by omega)⟩
  obtain rfl:=hA (by intro h;rw[h] at hkl;simp at hkl)
  obtain rfl:=hF (by rintro rfl;simp at hx)
  obtain⟨hfr,hto,_⟩:=fm ha
  obtain⟨b1,b2,b3⟩:=uU hR hf k v
  obtain⟨b3,b4⟩:=b3 a x ha hx
  have hxr:=hf.all _ (List.mem_of_getElem? (dr ha hx))
  simp only at hxr
  have hnext:=uZ ha hx v
  refine ae (au ?_)
  refine dg [(7,.int .i64 (ex ((N.arcs.zip f).take k) v+if a.to=v then x else 0)),(8,.int .i64 (k:Int)),(3,.pointer (some ⟨p,0,none⟩)),(1,.slice (some ⟨bf,of,none⟩) f.length cf),(2,.int .i64 v)]
   [blk p 50 (bJ N (some ⟨b,o,none⟩) c),.seg b o (arcs N.arcs),.seg bf of (aw f)] ?_ ?_
  ·refine ae (aa (ah [] rfl ?_))
   refine ab [] (v:=.slice (some ⟨b,o,none⟩) N.arcs.length c) (ad 0 rfl rfl rfl rfl) rfl ?_
   refine ah [] rfl ?_
   refine ab [] (eH rfl rfl rfl rfl rfl hkl) rfl ?_
   refine ah [] rfl ?_
   refine ab [] (aU 1 rfl rfl rfl rfl hto) rfl ?_
   refine af [] rfl ?_
   refine aC rfl (fun h1=>?_) (fun h1=>?_)
   ·skip
    refine aa (ah [] rfl ?_)
    refine ab [] (cW rfl rfl rfl rfl rfl (by omega)) rfl ?_
    refine ab [] (aU 2 rfl rfl rfl rfl (bn hx)) rfl ?_
    refine af [] rfl ?_
    refine⟨[0,1,2],⟨?_,rfl,rfl,rfl,rfl,trivial⟩,by decide,rfl⟩
    rw[if_pos h1]
    exact congrArg some (congrArg (Value.int .i64) (bK (by omega)))
   ·refine aq ⟨[0,1,2],⟨?_,rfl,rfl,rfl,rfl,trivial⟩,by decide,rfl⟩
    rw[if_neg h1,Int.add_zero];rfl
  ·refine ae (aa (ah [] rfl ?_))
   refine ab [] (v:=.slice (some ⟨b,o,none⟩) N.arcs.length c) (ad 0 rfl rfl rfl rfl) rfl ?_
   refine ah [] rfl ?_
   refine ab [] (eH rfl rfl rfl rfl rfl hkl) rfl ?_
   refine ah [] rfl ?_
   refine ab [] (aU 1 rfl rfl rfl rfl hfr) rfl ?_
   refine af [] rfl ?_
   refine aC rfl (fun h1=>?_) (fun h1=>?_)
   ·skip
    refine aa (ah [] rfl ?_)
    refine ab [] (cW rfl rfl rfl rfl rfl (by omega)) rfl ?_
    refine ab [] (aU 2 rfl rfl rfl rfl (bn hx)) rfl ?_
    refine af [] rfl ?_
    refine aa (af [] rfl ?_)
    refine⟨k+1,⟨?_,?_,rfl,rfl,rfl,trivial⟩,aH.refl,hkl,by show N.arcs.length-(k+1)<N.arcs.length-k;omega⟩
    ·show some (Value.int .i64 (IntKind.i64.wrap ((k:Int)+1)))=_
     rw[bK (by omega)];rfl
    ·show some (Value.int .i64 (IntKind.i64.wrap (_-x)))=_
     rw[hnext,if_pos h1]
     exact congrArg some (congrArg (Value.int .i64) ((bK (by split<;>omega)).trans (by omega)))
   ·refine aq (aa (af [] rfl ?_))
    refine⟨k+1,⟨?_,?_,rfl,rfl,rfl,trivial⟩,aH.refl,hkl,by show N.arcs.length-(k+1)<N.arcs.length-k;omega⟩
    ·show some (Value.int .i64 (IntKind.i64.wrap ((k:Int)+1)))=_
     rw[bK (by omega)];rfl
    ·rw[hnext,if_neg h1,Int.sub_zero];rfl
 ·obtain rfl:k=N.arcs.length:=by omega
  rw[List.take_of_length_le (by rw[List.length_zip];omega)]
  refine ae (aa (af [] rfl ?_))
  exact aE [] (by decide) rfl (aB ⟨_,rfl,rfl,rfl⟩)
noncomputable def ir (N:bt) (f:List Int):Int:=if bW N≠0 then bW N else dP N f
set_option maxHeartbeats 1000000 in
theorem qo (N:bt) (hN:N.Fits) (A:Option Addr) (c b o:Nat) (hA:N.arcs≠[]→A=some ⟨b,o,none⟩) (f:List Int) (F:Option Addr) (cf bf of:Nat) (hF:f≠[]→F=some ⟨bf,of,none⟩) (hf:∀ x∈f,dw x) (hfl:f.length*8≤140737488351232):
 Fn 78 [bi N A c,.slice F f.length cf] [] [.seg b o (arcs N.arcs),.seg bf of (aw f)] fun v H'=>v=.int .i64 (ir N f)∧H'=[]:=by
 have hln:=hN.len
 refine aM Tryz.func78 rfl rfl fun w0=>?_
 refine ae (aa ?_)
 refine a6 (cs:=bJ N A c) rfl rfl rfl (fun _=>rfl) fun p=>?_
 refine af [] rfl ?_
 refine ae (aa ?_)
 refine ab [] (v:=bi N A c) (ad 0 rfl rfl rfl rfl) rfl ?_
 refine ax [] (sx N hN A c b o hA) rfl rfl rfl rfl (by kernel_rfl) ⟨⟨1,_,by simp,rfl,ak _ _ _,ap⟩,trivial⟩ (fun _=>rfl) ?_
 rintro v H' ⟨rfl,rfl⟩
 refine⟨rfl,?_⟩
 refine af [] rfl ?_
 refine ae (ae (aa (af [] rfl ?_)))
 refine aC rfl (fun h=>?_) (fun hz=>aq ?_)
 ·refine ae (aa (af [] rfl ?_))
  refine aE [] (by decide) rfl (aB ⟨_,rfl,?_,rfl⟩)
  unfold ir;rw[if_pos h];rfl
 have hr:ir N f=dP N f:=by unfold ir;rw[if_neg hz]
 rw[hr]
 refine ae (ae (aa (ah [] rfl ?_)))
 refine ab [] (v:=.slice A N.arcs.length c) (ad 0 rfl rfl rfl rfl) rfl ?_
 refine af [] rfl ?_
 refine aC rfl (fun h=>?_) (fun h=>aq ?_)
 ·refine ae (aa (af [] rfl ?_))
  refine aE [] (by decide) rfl (aB ⟨_,rfl,?_,rfl⟩)
  unfold dP;rw[if_pos (by omega)];rfl
 have hlen:f.length=N.arcs.length:=by omega
 refine ae (ae (aa (af [] rfl ?_)))
 refine au ?_
 refine bM (σ:=Nat) (fun k=>[(6,.int .i64 (k:Int)),(1,.slice F f.length cf),(2,.pointer (some ⟨p,0,none⟩))])
  (fun k=>[blk p 50 (bJ N A c),.seg b o (arcs N.arcs),.seg bf of (aw f)]) (fun k=>k≤f.length∧∀ q∈(N.arcs.zip f).take k,0≤q.2∧q.2≤q.1.cap) (fun k=>f.length-k)
  0 ⟨rfl,rfl,rfl,trivial⟩ aH.refl ⟨Nat.zero_le _,fun q hq=>by simp at hq⟩ ?_
 rintro k ⟨hk,hall⟩
 refine ae (ae (aa (af [] rfl ?_)))
 refine aC rfl (fun hlt=>aq ?_) (fun hge=>aO ?_)
 ·have hlt:k<f.length:=by omega
  obtain rfl:=hF (by rintro rfl;simp at hlt)
  obtain rfl:=hA (by intro h;have h0:N.arcs.length=0:=by rw[h];rfl
                     omega)
  obtain⟨x,hx⟩:∃ x,f[k]?=some x:=⟨f[k],List.getElem?_eq_getElem hlt⟩
  obtain⟨a,ha⟩:∃ a,N.arcs[k]?=some a:=⟨N.arcs[k],List.getElem?_eq_getElem (by omega)⟩
  obtain⟨_,_,hcap⟩:=fm ha
  have hz:(N.arcs.zip f)[k]?=some (a,x):=by simp[List.getElem?_zip_eq_some,ha,hx]
  have hbad:¬ (0≤x∧x≤a.cap)→dP N f=3:=by
   intro hb
   unfold dP
   rw[if_neg (by omega),if_neg (fun hall=>hb (hall _ (List.mem_of_getElem? hz)))]
  refine ae (au ?_)
  refine dg [(41,.bool (cU (¬ (0≤x∧x≤a.cap)))),(6,.int .i64 (k:Int)),(1,.slice (some ⟨bf,of,none⟩) f.length cf),(2,.pointer (some ⟨p,0,none⟩))] [blk p 50 (bJ N (some ⟨b,o,none⟩) c),.seg b o (arcs N.arcs),.seg bf of (aw f)] ?_ ?_
  ·refine bq 18 [(0,true),(1,true),(2,true),(3,true),(4,true),(5,true),(6,true),(7,true),(8,true),(9,true),(10,true),(11,true),(12,true),(13,true),(14,true),(15,true),(16,true),(17,true)] [0,1,2] (by kernel_rfl) (by decide) rfl ?_
   refine aJ [] rfl ?_
   refine ai [] rfl (cW rfl rfl rfl rfl rfl hlt) rfl ?_
   refine ai [] rfl (aU 2 rfl rfl rfl rfl (bn hx)) rfl ?_
   refine aL (gs:=[]) rfl rfl ?_
   refine aL (gs:=[]) rfl rfl ?_
   by_cases h0:x<0
   ·refine bH 29 (v':=.bool true) rfl (congrArg Value.bool (az h0)) ?_
    refine cA [5] rfl ?_
    refine aj ?_
    exact⟨[0,1,2],⟨congrArg some (congrArg Value.bool (az (by omega)).symm),rfl,rfl,rfl,trivial⟩,by decide,rfl⟩
   refine bH 29 (v':=.bool false) rfl (congrArg Value.bool (aA h0)) ?_
   refine aJ [5] rfl ?_
   refine ai [5] rfl (cW rfl rfl rfl rfl rfl hlt) rfl ?_
   refine ai [5] rfl (aU 2 rfl rfl rfl rfl (bn hx)) rfl ?_
   refine aJ [5] rfl ?_
   refine ai [5] rfl (ad (v:=.slice (some ⟨b,o,none⟩) N.arcs.length c) 0 rfl rfl rfl rfl) rfl ?_
   refine aJ [5] rfl ?_
   refine ai [5] rfl (eH rfl rfl rfl rfl rfl (show k<N.arcs.length by omega)) rfl ?_
   refine aJ [5] rfl ?_
   refine ai [5] rfl (aU 1 rfl rfl rfl rfl hcap) rfl ?_
   refine cA [5] rfl ?_
   refine aj ?_
   exact⟨[0,1,2],⟨congrArg some (congrArg Value.bool (db (by omega))),rfl,rfl,rfl,trivial⟩,by decide,rfl⟩
  ·refine aC rfl (fun h1=>?_) (fun h1=>aq ?_)
   ·refine ae (aa (af [] rfl ?_))
    refine aE [] (by decide) rfl (aB ⟨_,rfl,by rw[hbad h1];rfl,rfl⟩)
   refine aa (af [] rfl ?_)
   refine⟨k+1,⟨?_,rfl,rfl,trivial⟩,aH.refl,⟨by omega,fun q hq=>?_⟩,by omega⟩
   ·show some (Value.int .i64 (IntKind.i64.wrap ((k:Int)+1)))=_
    rw[bK (by omega)];rfl
   ·rw[List.take_add_one,hz] at hq
    rcases List.mem_append.1 hq with hq|hq
    ·exact hall q hq
    ·simp only[Option.toList_some,List.mem_singleton] at hq
     subst hq
     exact Classical.not_not.1 h1
 ·have hk':k=f.length:=by omega
  subst hk'
  refine ae (aa (af [] rfl ?_))
  refine aE [] (by decide) rfl (aB ⟨_,rfl,?_,rfl⟩)
  unfold dP
  rw[if_neg (by omega),if_pos (fun q hq=>hall q (by rw[List.take_of_length_le (by simp;omega)];exact hq))]
  rfl
end Go.Proofs.YtpbmihpjgjbndaaGreat
/- The references' words: flows checked, and their room. -/
set_option linter.unusedVariables false
set_option linter.unusedSimpArgs false
namespace Go.Proofs.YtpbmihpjgjbndaaGreat
open Go.RowKit
theorem oX {N:bt} {f:List Int} (h:ir N f≠0):dT N f=ir N f:=by
 unfold dT ir at*
 by_cases hc:bW N≠0
 ·rw[if_pos hc,if_pos hc]
 ·rw[if_neg hc] at h
  rw[if_neg hc,if_neg hc]
  unfold ez
  rw[if_pos h]
theorem rj {N:bt} {f:List Int} (h:ir N f=0):N.Right∧Ranged N f∧dT N f=ez N f:=by
 unfold ir at h
 by_cases hc:bW N≠0
 ·rw[if_pos hc] at h;exact absurd h hc
 ·rw[if_neg hc] at h
  refine⟨jd (Classical.not_not.1 hc),eQ.1 h,?_⟩
  unfold dT;rw[if_neg hc]
theorem dH {N:bt} {f:List Int}:dT N f=0↔N.Right∧aT N f:=by
 constructor
 ·intro h
  unfold dT at h
  by_cases hc:bW N≠0
  ·rw[if_pos hc] at h;exact absurd h hc
  ·rw[if_neg hc] at h
   exact⟨jd (Classical.not_not.1 hc),dJ.1 h⟩
 ·rintro⟨hR,hf⟩
  unfold dT
  rw[if_neg (fun h=>h hR.check)]
  exact dJ.2 hf
set_option maxHeartbeats 1000000 in
theorem oK (N:bt) (hN:N.Fits) (A:Option Addr) (c b o:Nat) (hA:N.arcs≠[]→A=some ⟨b,o,none⟩) (f:List Int) (F:Option Addr) (cf bf of:Nat) (hF:f≠[]→F=some ⟨bf,of,none⟩) (hf:∀ x∈f,dw x) (hfl:f.length*8≤140737488351232):
 Fn 76 [bi N A c,.slice F f.length cf] [] [.seg b o (arcs N.arcs),.seg bf of (aw f)] fun v H'=>v=.int .i64 (dT N f)∧H'=[]:=by
 refine aM Tryz.func76 rfl rfl fun w0=>?_
 refine ae (aa ?_)
 refine a6 (cs:=bJ N A c) rfl rfl rfl (fun _=>rfl) fun p=>?_
 refine af [] rfl ?_
 refine ae (aa ?_)
 refine ab [] (v:=bi N A c) (ad 0 rfl rfl rfl rfl) rfl ?_
 refine ah [] rfl ?_
 refine ax [] (qo N hN A c b o hA f F cf bf of hF hf hfl) rfl rfl rfl rfl (by kernel_rfl) ⟨⟨1,_,by simp,rfl,ak _ _ _,ap⟩,⟨2,_,by simp,rfl,ak _ _ _,ap⟩,trivial⟩ (fun _=>rfl) ?_
 rintro v H' ⟨rfl,rfl⟩
 refine⟨rfl,?_⟩
 refine af [] rfl ?_
 refine ae (ae (aa (af [] rfl ?_)))
 refine aC rfl (fun h=>?_) (fun hz=>aq ?_)
 ·refine ae (aa (af [] rfl ?_))
  refine aE [] (by decide) rfl (aB ⟨_,rfl,?_,rfl⟩)
  rw[oX h];rfl
 obtain⟨hR,hr,hw⟩:=rj (Classical.not_not.1 hz)
 rw[hw]
 have hnn:=hR.nodes
 obtain⟨n,hn⟩:∃ n:Nat,N.nodes=n:=⟨N.nodes.toNat,by omega⟩
 refine ae (ae (aa (af [] rfl ?_)))
 refine au ?_
 refine bM (σ:=Nat) (fun k=>[(6,.int .i64 ((k+1:Nat):Int)),(1,.slice F f.length cf),(2,.pointer (some ⟨p,0,none⟩))])
  (fun k=>[blk p 50 (bJ N A c),.seg b o (arcs N.arcs),.seg bf of (aw f)]) (fun k=>k≤n∧∀ v:Int,1≤v∧v≤k→v≠N.src→v≠N.snk→ex (N.arcs.zip f) v=0) (fun k=>n-k)
  0 ⟨rfl,rfl,rfl,trivial⟩ aH.refl ⟨Nat.zero_le _,fun v hv=>by omega⟩ ?_
 rintro k ⟨hk,hall⟩
 refine ae (ae (aa (ah [] rfl ?_)))
 refine ab [] (v:=.int .i64 N.nodes) (ad 0 rfl rfl rfl rfl) rfl ?_
 refine af [] rfl ?_
 refine aC rfl (fun hlt=>aq ?_) (fun hge=>aO ?_)
 ·have hkn:k<n:=by omega
  refine ae (au ?_)
  refine dg [(35,.bool (cU (((k+1:Nat):Int)≠N.src∧((k+1:Nat):Int)≠N.snk∧ex (N.arcs.zip f) ((k+1:Nat):Int)≠0))),(6,.int .i64 ((k+1:Nat):Int)),(1,.slice F f.length cf),(2,.pointer (some ⟨p,0,none⟩))] [blk p 50 (bJ N A c),.seg b o (arcs N.arcs),.seg bf of (aw f)] ?_ ?_
  ·skip
   refine aa (ah [] rfl ?_)
   refine ab [] (v:=.int .i64 N.src) (ad 0 rfl rfl rfl rfl) rfl ?_
   refine ao (gs:=[999]) rfl ?_
   refine ao (gs:=[999]) rfl ?_
   by_cases h1:((k+1:Nat):Int)≠N.src
   case neg=>
    refine av 23 (v':=.bool false) rfl (congrArg Value.bool (aA h1)) ?_
    refine af [4,10] rfl ?_
    exact⟨[0,1,2],⟨congrArg some (congrArg Value.bool (aA (fun h=>h1 h.1)).symm),rfl,rfl,rfl,trivial⟩,by decide,rfl⟩
   refine av 23 (v':=.bool true) rfl (congrArg Value.bool (az h1)) ?_
   refine ah [4] rfl ?_
   refine ab [4] (v:=.int .i64 N.snk) (ad 0 rfl rfl rfl rfl) rfl ?_
   refine ah [4] rfl ?_
   by_cases h2:((k+1:Nat):Int)≠N.snk
   case neg=>
    refine av 29 (v':=.bool false) rfl (congrArg Value.bool (aA h2)) ?_
    refine af [4,10] rfl ?_
    exact⟨[0,1,2],⟨congrArg some (congrArg Value.bool (aA (fun h=>h2 h.2.1)).symm),rfl,rfl,rfl,trivial⟩,by decide,rfl⟩
   refine av 29 (v':=.bool true) rfl (congrArg Value.bool (az h2)) ?_
   refine ah [4,10] rfl ?_
   refine ab [4,10] (v:=bi N A c) (ad 0 rfl rfl rfl rfl) rfl ?_
   refine ah [4,10] rfl ?_
   refine ax [4,10] (qO N hR A c b o hA f hr F cf bf of hF ((k+1:Nat):Int)) rfl rfl rfl rfl (by kernel_rfl) ⟨⟨1,_,by simp,rfl,ak _ _ _,ap⟩,⟨2,_,by simp,rfl,ak _ _ _,ap⟩,trivial⟩ (fun _=>rfl) ?_
   rintro v H' ⟨rfl,rfl⟩
   refine⟨rfl,?_⟩
   refine af [4,10] rfl ?_
   exact⟨[0,1,2],⟨congrArg some (congrArg Value.bool (db ⟨fun h=>⟨h1,h2,h⟩,fun h=>h.2.2⟩)),rfl,rfl,rfl,trivial⟩,by decide,rfl⟩
  ·refine aC rfl (fun h1=>?_) (fun h1=>aq ?_)
   ·refine ae (aa (af [] rfl ?_))
    refine aE [] (by decide) rfl (aB ⟨_,rfl,?_,rfl⟩)
    rw[mv hr (fun h=>h1.2.2 (h _ ⟨by omega,by omega⟩ h1.1 h1.2.1))];rfl
   refine aa (af [] rfl ?_)
   refine⟨k+1,⟨?_,rfl,rfl,trivial⟩,aH.refl,⟨by omega,fun v hv h2 h3=>?_⟩,by omega⟩
   ·show some (Value.int .i64 (IntKind.i64.wrap (((k+1:Nat):Int)+1)))=_
    rw[bK (by omega)];rfl
   ·by_cases e:v=((k+1:Nat):Int)
    ·subst e
     exact Classical.byContradiction fun h=>h1 ⟨h2,h3,h⟩
    ·exact hall v (by omega) h2 h3
 ·obtain rfl:k=n:=by omega
  refine ae (aa (af [] rfl ?_))
  refine aE [] (by decide) rfl (aB ⟨_,rfl,?_,rfl⟩)
  rw[kT hr (fun v hv h2 h3=>hall v (by omega) h2 h3)];rfl
end Go.Proofs.YtpbmihpjgjbndaaGreat
/- The references' words: room, and the ends of tracks. -/
set_option linter.unusedVariables false
set_option linter.unusedSimpArgs false
namespace Go.Proofs.YtpbmihpjgjbndaaGreat
open Go.RowKit
def xx (N:bt) (f:List Int) (v:Value) (H':Heap):Prop:=
 (N.Right∧aT N f∧∃ A' c',v=.tuple #[.slice A' (2*N.arcs.length) c',.int .i64 0]∧H'=[.own (.slice A' (2*N.arcs.length) c') 2 1 (2*N.arcs.length) (aw (aK (N.arcs.zip f)))])∨
 (dT N f≠0∧v=.tuple #[.slice none 0 0,.int .i64 (dT N f)]∧H'=[])
set_option maxHeartbeats 1000000 in
theorem iZ (N:bt) (hN:N.Fits) (A:Option Addr) (c b o:Nat) (hA:N.arcs≠[]→A=some ⟨b,o,none⟩) (f:List Int) (F:Option Addr) (cf bf of:Nat) (hF:f≠[]→F=some ⟨bf,of,none⟩) (hf:∀ x∈f,dw x) (hfl:f.length*8≤140737488351232):
 Fn 70 [bi N A c,.slice F f.length cf] [] [.seg b o (arcs N.arcs),.seg bf of (aw f)] (xx N f):=by
 refine aM Tryz.func70 rfl rfl fun w0=>?_
 refine ae (aa ?_)
 refine a6 (cs:=bJ N A c) rfl rfl rfl (fun _=>rfl) fun p=>?_
 refine af [] rfl ?_
 refine ae (aa ?_)
 refine ab [] (v:=bi N A c) (ad 0 rfl rfl rfl rfl) rfl ?_
 refine ah [] rfl ?_
 refine ax [] (oK N hN A c b o hA f F cf bf of hF hf hfl) rfl rfl rfl rfl (by kernel_rfl) ⟨⟨1,_,by simp,rfl,ak _ _ _,ap⟩,⟨2,_,by simp,rfl,ak _ _ _,ap⟩,trivial⟩ (fun _=>rfl) ?_
 rintro v H' ⟨rfl,rfl⟩
 refine⟨rfl,?_⟩
 refine af [] rfl ?_
 refine ae (ae (aa (af [] rfl ?_)))
 refine aC rfl (fun h=>?_) (fun hz=>aq ?_)
 ·refine ae (aa (af [] rfl ?_))
  exact aE [] (by decide) rfl (aB ⟨_,rfl,.inr ⟨h,rfl,rfl⟩⟩)
 obtain⟨hR,hW⟩:=dH.1 (Classical.not_not.1 hz)
 have hlen:=hW.len
 have hl2:=hR.len
 refine ae (aa (af [] rfl ?_))
 refine ae (ae (aa (af [] rfl ?_)))
 refine au ?_
 refine bO 2 1 ?_
 refine bu (σ:=Nat×Option Addr×Nat) (fun s=>[(8,.int .i64 (s.1:Int)),(7,.slice s.2.1 (2*s.1) s.2.2),(1,.slice F f.length cf),(2,.pointer (some ⟨p,0,none⟩))])
  (fun s=>[.own (.slice s.2.1 (2*s.1) s.2.2) 2 1 (2*s.1) (aw (aK ((N.arcs.zip f).take s.1))),blk p 50 (bJ N A c),.seg b o (arcs N.arcs),.seg bf of (aw f)]) (fun s=>s.1≤f.length) (fun s=>f.length-s.1)
  (0,none,0) [0,1,2,3] ⟨rfl,rfl,rfl,rfl,trivial⟩ (by decide) rfl (Nat.zero_le _) ?_
 rintro⟨k,A1,c1⟩ hk
 simp only at hk ⊢
 refine ae (ae (aa (af [] rfl ?_)))
 refine aC rfl (fun hlt=>aq ?_) (fun hge=>aO ?_)
 ·have hlt:k<f.length:=by omega
  obtain rfl:=hF (by rintro rfl;simp at hlt)
  obtain rfl:=hA (by intro h;have h0:N.arcs.length=0:=by rw[h];rfl
                     omega)
  obtain⟨x,hx⟩:∃ x,f[k]?=some x:=⟨f[k],List.getElem?_eq_getElem hlt⟩
  obtain⟨a,ha⟩:∃ a,N.arcs[k]?=some a:=⟨N.arcs[k],List.getElem?_eq_getElem (by omega)⟩
  obtain⟨_,_,hcap⟩:=fm ha
  have hz:(N.arcs.zip f)[k]?=some (a,x):=dr ha hx
  have hxr:=hW.all _ (List.mem_of_getElem? hz)
  simp only at hxr
  have hrl:=b7 ((N.arcs.zip f).take k)
  have hrs:=me hz
  have hcb:=(hN.arc a (List.mem_of_getElem? ha)).2.2
  unfold dw at hcb
  refine ae (au ?_)
  refine ae ?_
  refine bq 15 [(0,true),(1,true),(2,true),(3,true),(4,true),(5,true),(6,true),(7,true),(8,true),(9,true),(10,true),(11,true),(12,false),(13,false),(14,true)] [1,2,3] (by kernel_rfl) (by decide) rfl ?_
  refine aJ [] rfl ?_
  refine ai [] rfl (ad (v:=.slice (some ⟨b,o,none⟩) N.arcs.length c) 0 rfl rfl rfl rfl) rfl ?_
  refine aJ [] rfl ?_
  refine ai [] rfl (eH rfl rfl rfl rfl rfl (show k<N.arcs.length by omega)) rfl ?_
  refine aJ [] rfl ?_
  refine ai [] rfl (aU 1 rfl rfl rfl rfl hcap) rfl ?_
  refine aJ [] rfl ?_
  refine ai [] rfl (cW rfl rfl rfl rfl rfl hlt) rfl ?_
  refine ai [] rfl (aU 2 rfl rfl rfl rfl (bn hx)) rfl ?_
  refine aJ [] rfl ?_
  refine bH 32 (v':=.int .i64 (a.cap-x)) rfl (congrArg (Value.int .i64) (bK (by omega))) ?_
  refine bc rfl ?_
  refine b8 rfl rfl rfl rfl rfl rfl rfl (fun _=>rfl) fun g=>?_
  refine aj ⟨⟨[2,3,4],by decide,rfl⟩,?_⟩
  refine bc rfl ?_
  refine a9 (n:=2*k) (off:=0) (m:=1) (news:=aw [a.cap-x]) 1 0 rfl rfl rfl rfl rfl rfl (by decide) rfl rfl (aR g _ _ (0,0)) (fun _=>rfl) rfl rfl (by omega) (by omega) (fun _ _=>rfl) fun A2 c2=>?_
  refine aj ⟨⟨[2,3,4],by decide,rfl⟩,?_⟩
  refine cA [] rfl ?_
  refine aj ?_
  refine aa (ah [] rfl ?_)
  refine ab [] (cW rfl rfl rfl rfl rfl hlt) rfl ?_
  refine ab [] (aU 4 rfl rfl rfl rfl (bn hx)) rfl ?_
  refine b8 rfl rfl rfl rfl rfl rfl rfl (fun _=>rfl) fun g2=>?_
  refine a9 (n:=2*k+1) (off:=0) (m:=1) (news:=aw [x]) 2 0 rfl rfl rfl rfl rfl rfl (by decide) rfl rfl (aR g2 _ _ (0,0)) (fun _=>rfl) rfl rfl (by omega) (by omega) (fun _ _=>rfl) fun A3 c3=>?_
  refine af [] rfl ?_
  refine aa (af [] rfl ?_)
  refine⟨(k+1,A3,c3),[2,3,4,5],⟨?_,rfl,rfl,rfl,trivial⟩,by decide,?_,by simp only;omega,by simp only;omega⟩
  ·show some (Value.int .i64 (IntKind.i64.wrap ((k:Int)+1)))=_
   rw[bK (by omega)];rfl
  ·show some [aW.own _ _ _ _ (aw (aK ((N.arcs.zip f).take k))++aw [a.cap-x]++aw [x]),_,_,_]=some [aW.own _ _ _ _ (aw (aK ((N.arcs.zip f).take (k+1)))),_,_,_]
   rw[hrs]
   simp[aw]
   rfl
 ·obtain rfl:k=f.length:=by omega
  rw[List.take_of_length_le (by rw[List.length_zip];omega),hlen]
  refine ae (aa (af [] rfl ?_))
  exact aE [0] (by decide) rfl (aB ⟨_,rfl,.inl ⟨hR,hW,A1,c1,rfl,rfl⟩⟩)
set_option maxHeartbeats 1000000 in
theorem i6 (N:bt) (A:Option Addr) (c b o:Nat) (hA:N.arcs≠[]→A=some ⟨b,o,none⟩) (hl:N.arcs.length≤2000) (r:Nat) (hr:r<2*N.arcs.length):
 Fn 74 [bi N A c,.int .i64 r] [] [.seg b o (arcs N.arcs)] fun v H'=>v=pZ (cL N r)∧H'=[]:=by
 obtain rfl:=hA (by intro h;rw[h] at hr;simp at hr)
 obtain⟨a,ha⟩:∃ a,N.arcs[r/2]?=some a:=⟨N.arcs[r/2]'(by omega),List.getElem?_eq_getElem (by omega)⟩
 have he:cL N r=dI a r:=by unfold cL;rw[ha]
 have hq:IntKind.i64.wrap ((r:Int).tdiv 2)=((r/2:Nat):Int):=by rw[bK (by rw[Int.tdiv_eq_ediv_of_nonneg (by omega)];omega),Int.tdiv_eq_ediv_of_nonneg (by omega)];omega
 have hm:(r:Int).tmod 2=((r%2:Nat):Int):=by rw[Int.tmod_eq_emod_of_nonneg (by omega)];omega
 rw[he]
 refine aM Tryz.func74 rfl rfl fun w0=>?_
 refine ae (aa ?_)
 refine a6 (cs:=bJ N (some ⟨b,o,none⟩) c) rfl rfl rfl (fun _=>rfl) fun p=>?_
 refine af [] rfl ?_
 refine ae (ae (aa ?_))
 refine ao (gs:=[999]) rfl ?_
 refine ao (gs:=[999]) rfl ?_
 refine ao (gs:=[999]) rfl ?_
 refine av 9 (v':=.bool false) rfl (congrArg Value.bool (aA (by omega))) ?_
 refine ah [2] rfl ?_
 refine ab [2] (v:=.slice (some ⟨b,o,none⟩) N.arcs.length c) (ad 0 rfl rfl rfl rfl) rfl ?_
 refine ao (gs:=[2]) rfl ?_
 refine ao (gs:=[2]) rfl ?_
 refine av 14 (v':=.int .i64 ((2*N.arcs.length:Nat):Int)) rfl (congrArg (Value.int .i64) ((bK (by omega)).trans (by omega))) ?_
 refine af [2] rfl ?_
 refine aC rfl (fun h=>absurd h (by omega)) (fun _=>aq ?_)
 refine ae (aa (ah [] rfl ?_))
 refine ab [] (v:=.slice (some ⟨b,o,none⟩) N.arcs.length c) (ad 0 rfl rfl rfl rfl) rfl ?_
 refine ao (gs:=[999]) rfl ?_
 refine ab [] (rS (b:=2) rfl rfl rfl (by decide)) rfl ?_
 refine av 20 (v':=.int .i64 ((r/2:Nat):Int)) rfl (congrArg (Value.int .i64) hq) ?_
 refine ab [] (eH rfl rfl rfl rfl rfl (by omega)) rfl ?_
 refine ab [] (aU 1 rfl rfl rfl rfl (gW ha)) rfl ?_
 refine aQ rfl rfl rfl (fun _=>rfl) fun q=>?_
 refine aD 0 rfl rfl rfl rfl rfl [] rfl ?_
 refine aj ?_
 refine ae (ae (aa ?_))
 refine ao (gs:=[999]) rfl ?_
 refine ao (gs:=[999]) rfl ?_
 refine av 24 (v':=.int .i64 ((r%2:Nat):Int)) rfl (congrArg (Value.int .i64) hm) ?_
 refine af [] rfl ?_
 refine aC rfl (fun h=>?_) (fun h=>aq ?_)
 ·have e:dI a r=(a.to,a.fr):=by unfold dI;rw[if_pos (by omega)]
  rw[e]
  refine ae ?_
  refine bq 6 [(0,true),(1,true),(2,true),(3,true),(4,true),(5,true)] [0] (by kernel_rfl) (by decide) rfl ?_
  refine aJ [] rfl ?_
  refine ai [] rfl (ad (v:=.int .i64 a.to) 0 rfl rfl rfl rfl) rfl ?_
  refine aJ [] rfl ?_
  refine ai [] rfl (ad (v:=.int .i64 a.fr) 0 rfl rfl rfl rfl) rfl ?_
  refine cA [] rfl ?_
  refine aj ?_
  exact aE [] (by decide) rfl (aB ⟨_,rfl,rfl,rfl⟩)
 ·have e:dI a r=(a.fr,a.to):=by unfold dI;rw[if_neg (by omega)]
  rw[e]
  refine ae ?_
  refine bq 6 [(0,true),(1,true),(2,true),(3,true),(4,true),(5,true)] [0] (by kernel_rfl) (by decide) rfl ?_
  refine aJ [] rfl ?_
  refine ai [] rfl (ad (v:=.int .i64 a.fr) 0 rfl rfl rfl rfl) rfl ?_
  refine aJ [] rfl ?_
  refine ai [] rfl (ad (v:=.int .i64 a.to) 0 rfl rfl rfl rfl) rfl ?_
  refine cA [] rfl ?_
  refine aj ?_
  exact aE [] (by decide) rfl (aB ⟨_,rfl,rfl,rfl⟩)
end Go.Proofs.YtpbmihpjgjbndaaGreat
