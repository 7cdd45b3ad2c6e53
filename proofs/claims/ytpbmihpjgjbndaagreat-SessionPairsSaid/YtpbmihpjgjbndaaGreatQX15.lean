/- The engine and the words that all chapters share: several texts in one. -/
import Derived.Test.YtpbmihpjgjbndaaGreatQX29
import Derived.Test.YtpbmihpjgjbndaaGreatQF
/- The references' words: amounts led along a walk. -/
set_option linter.unusedVariables false
set_option linter.unusedSimpArgs false
namespace Go.Proofs.YtpbmihpjgjbndaaGreat
open Go.RowKit
set_option maxHeartbeats 2000000 in
theorem uq (N:bt) (hN:N.Fits) (hR:N.Right) (A:Option Addr) (c b o:Nat) (hA:N.arcs≠[]→A=some ⟨b,o,none⟩) (f:List Int) (hW:aT N f) (F:Option Addr) (cf bf of:Nat) (hF:f≠[]→F=some ⟨bf,of,none⟩)
 (W:List Nat) (hlt:∀ r∈W,r<2*N.arcs.length) (hne:W≠[]) (ht:Tr N N.src.toNat W N.snk.toNat) (hdi:W.Pairwise fun r q=>r/2≠q/2) (B:Option Addr) (cb bb ob:Nat) (hB:W≠[]→B=some ⟨bb,ob,none⟩) (hwl:W.length≤100000) (a:Int) (ha:1≤a) (hab:dw a) (hroom:∀ r∈W,a≤(aK (N.arcs.zip f)).getD r 0):
 Fn 71 [bi N A c,.slice F f.length cf,.slice B W.length cb,.int .i64 a] [] [.seg b o (arcs N.arcs),.seg bf of (aw f),.seg bb ob (bs W)] fun v H'=>∃ (A':Option Addr) (c':Nat),v=.tuple #[.slice A' f.length c',.int .i64 0]∧H'=[.own (.slice A' f.length c') 2 1 f.length (aw (fQ a W f))]:=by
 have hl2:=hR.len
 have hfl:=hW.len
 have hfin:=aT.inB hR hW.toRanged
 refine aM Tryz.func71 rfl rfl fun w0=>?_
 refine ae (aa ?_)
 refine a6 (cs:=bJ N A c) rfl rfl rfl (fun _=>rfl) fun p=>?_
 refine af [] rfl ?_
 refine ae (aa ?_)
 refine ab [] (v:=bi N A c) (ad 0 rfl rfl rfl rfl) rfl ?_
 refine ah [] rfl ?_
 refine ax [] (oK N hN A c b o hA f F cf bf of hF hfin (by omega)) rfl rfl rfl rfl (by kernel_rfl) ⟨⟨1,_,by simp,rfl,ak _ _ _,ap⟩,⟨2,_,by simp,rfl,ak _ _ _,ap⟩,trivial⟩ (fun _=>rfl) ?_
 rintro v H' ⟨rfl,rfl⟩
 refine⟨rfl,?_⟩
 rw[dH.2 ⟨hR,hW⟩]
 refine af [] rfl ?_
 refine ae (ae (aa (af [] rfl ?_)))
 refine aC rfl (fun h=>absurd rfl h) (fun _=>aq ?_)
 refine ae (ae (aa ?_))
 refine ab [] (v:=bi N A c) (ad 0 rfl rfl rfl rfl) rfl ?_
 refine ah [] rfl ?_
 refine ax [] (sc N hR A c b o hA W hlt hne ht B cb bb ob hB hwl) rfl rfl rfl rfl (by kernel_rfl) ⟨⟨1,_,by simp,rfl,ak _ _ _,ap⟩,⟨3,_,by simp,rfl,ak _ _ _,ap⟩,trivial⟩ (fun _=>rfl) ?_
 rintro v H' ⟨rfl,rfl⟩
 refine⟨rfl,?_⟩
 refine af [] rfl ?_
 refine bP rfl ?_
 refine aq (ae (ae (aa (af [] rfl ?_))))
 refine aC rfl (fun h=>absurd h (by omega)) (fun _=>aq ?_)
 refine ae (aa ?_)
 refine b8 rfl rfl rfl rfl rfl rfl rfl (fun _=>rfl) fun gx=>?_
 refine b6 (fun w h=>h.blkOwn (sz:=1) (n:=0) rfl (by decide)) ?_
 refine ao (gs:=[999]) rfl ?_
 refine a9 (n:=0) (m:=f.length) (off:=of) (news:=aw f) 0 3 rfl rfl rfl rfl rfl rfl (by decide) rfl rfl (ak _ _ _) (fun hne=>hF (by rintro rfl;exact hne rfl)) (by rw[bh];simp) (fK _) (by omega) (by omega) (fun _ _=>rfl) fun A3 c3=>?_
 refine af [] rfl ?_
 rw[show ([]:List Value)++aw f=aw f from rfl,Nat.zero_add]
 refine ae (ae (aa (af [] rfl ?_)))
 refine au ?_
 refine bM (σ:=Nat×List Int) (fun s=>[(12,.int .i64 (s.1:Int)),(11,.slice A3 f.length c3),(2,.slice B W.length cb),(3,.int .i64 a),(4,.pointer (some ⟨p,0,none⟩))])
  (fun s=>[.own (.slice A3 f.length c3) 2 1 f.length (aw s.2),blk p 50 (bJ N A c),.seg b o (arcs N.arcs),.seg bb ob (bs W)])
  (fun s=>s.1≤W.length∧s.2.length=f.length∧fQ a (W.drop s.1) s.2=fQ a W f∧∀ r∈W.drop s.1,s.2.getD (r/2) 0=f.getD (r/2) 0) (fun s=>W.length-s.1) (0,f) ⟨rfl,rfl,rfl,rfl,rfl,trivial⟩ (aH.picks [0,1,2,4] (by decide) rfl) ⟨Nat.zero_le _,rfl,rfl,fun _ _=>rfl⟩ ?_
 rintro⟨i,out⟩ ⟨hi,hol,hpu,hsame⟩
 simp only at hi hol hpu hsame ⊢
 refine bG (bp 0 rfl) fun ⟨_,_,hA3,hla⟩=>?_
 obtain⟨g3,hA3⟩:=bQ hA3 hla
 refine ae (ae (aa (af [] rfl ?_)))
 refine aC rfl (fun hlt'=>aq ?_) (fun hge=>aO ?_)
 ·have hil:i<W.length:=by omega
  obtain⟨r,hr⟩:∃ r,W[i]?=some r:=⟨W[i],List.getElem?_eq_getElem hil⟩
  have hd:W.drop i=r::W.drop (i+1):=by
   obtain⟨_,rfl⟩:=List.getElem?_eq_some_iff.1 hr
   rw[List.drop_eq_getElem_cons hil]
  have hrm:=List.mem_of_getElem? hr
  have hrl:=hlt r hrm
  obtain rfl:=hB hne
  obtain⟨ar,har⟩:∃ ar,N.arcs[r/2]?=some ar:=⟨N.arcs[r/2]'(by omega),List.getElem?_eq_getElem (by omega)⟩
  obtain rfl:=hA (by intro h;rw[h] at har;simp at har)
  obtain⟨_,_,hcap⟩:=fm har
  obtain⟨x,hx⟩:∃ x,out[r/2]?=some x:=⟨out[r/2]'(by omega),List.getElem?_eq_getElem (by omega)⟩
  have hxd:out.getD (r/2) 0=x:=by rw[List.getD_eq_getElem?_getD,hx];rfl
  have hfx:f[r/2]?=some x:=by
   have h1:=hsame r (by rw[hd];simp)
   rw[hxd] at h1
   rw[List.getElem?_eq_getElem (show r/2<f.length by omega)]
   have:f.getD (r/2) 0=f[r/2]'(by omega):=by rw[List.getD_eq_getElem?_getD,List.getElem?_eq_getElem (by omega)];rfl
   rw[← this,← h1]
  have hz:=dr har hfx
  have hxr:=hW.all _ (List.mem_of_getElem? hz)
  simp only at hxr
  obtain⟨r1,r2⟩:=dl hz
  simp only at r1 r2
  have hro:=hroom r hrm
  have hcb:=(hN.arc ar (List.mem_of_getElem? har)).2.2
  unfold dw at hcb hab
  obtain rfl:=hA3 (fun h0=>by
   have h5:(aw out).length=0:=by rw[h0];rfl
   rw[bh] at h5
   have:=(List.getElem?_eq_some_iff.1 hx).1
   omega)
  have hlsr:(bs W)[i]?=some (.int .i64 (r:Int)):=cR (l:=W.map fun (i:Nat)=>(i:Int)) (by rw[List.getElem?_map,hr];rfl)
  have hq:IntKind.i64.wrap ((i:Int)+1)=((i+1:Nat):Int):=bK (by omega)
  have hq2:IntKind.i64.wrap ((r:Int).tdiv 2)=((r/2:Nat):Int):=by rw[bK (by rw[Int.tdiv_eq_ediv_of_nonneg (by omega)];omega),Int.tdiv_eq_ediv_of_nonneg (by omega)];omega
  have hmd:(r:Int).tmod 2=((r%2:Nat):Int):=by rw[Int.tmod_eq_emod_of_nonneg (by omega)];omega
  rw[hd] at hpu hsame
  have hdi2:∀ q∈W.drop (i+1),r/2≠q/2:=by
   have h1:=hdi.drop (i:=i)
   rw[hd] at h1
   exact (List.pairwise_cons.1 h1).1
  have hkeep:∀ (y:Int),∀ q∈W.drop (i+1),(out.set (r/2) y).getD (q/2) 0=f.getD (q/2) 0:=by
   intro y q hq3
   rw[List.getD_eq_getElem?_getD,List.getElem?_set_ne (hdi2 q hq3),← List.getD_eq_getElem?_getD]
   exact hsame q (by simp[hq3])
  have hk:r/2<f.length:=by omega
  refine ae (au ?_)
  refine ae (aa (ah [] rfl ?_))
  refine ab [] (cW rfl rfl rfl rfl rfl hil) rfl ?_
  refine ab [] (aU (v:=.int .i64 (r:Int)) 3 rfl rfl rfl rfl hlsr) rfl ?_
  refine ab [] (rS (b:=2) rfl rfl rfl (by decide)) rfl ?_
  refine av 39 (v':=.int .i64 ((r/2:Nat):Int)) rfl (congrArg (Value.int .i64) hq2) ?_
  refine af [] rfl ?_
  refine ae (aa (ah [] rfl ?_))
  refine ab [] (cW rfl rfl rfl rfl rfl hil) rfl ?_
  refine ab [] (aU (v:=.int .i64 (r:Int)) 3 rfl rfl rfl rfl hlsr) rfl ?_
  refine ao (gs:=[999]) rfl ?_
  refine av 44 (v':=.int .i64 ((r%2:Nat):Int)) rfl (congrArg (Value.int .i64) hmd) ?_
  refine af [] rfl ?_
  refine aC rfl (fun hev=>?_) (fun hod=>?_)
  ·have hro2:a≤ar.cap-x:=by
    rw[List.getD_eq_getElem?_getD,show r=2*(r/2) by omega,r1] at hro
    simpa using hro
   refine ae (ae ?_)
   refine bq 13 [(0,true),(1,true),(2,true),(3,true),(4,true),(5,true),(6,true),(7,true),(8,true),(9,true),(10,true),(11,true),(12,true)] [0,1,2] (by kernel_rfl) (by decide) rfl ?_
   refine aJ [] rfl ?_
   refine ai [] rfl (ad (v:=.slice (some ⟨b,o,none⟩) N.arcs.length c) 1 rfl rfl rfl rfl) rfl ?_
   refine aJ [] rfl ?_
   refine ai [] rfl (eH rfl rfl rfl rfl rfl (show r/2<N.arcs.length by omega)) rfl ?_
   refine aJ [] rfl ?_
   refine ai [] rfl (aU 2 rfl rfl rfl rfl hcap) rfl ?_
   refine aJ [] rfl ?_
   refine ai [] rfl (aI rfl rfl rfl rfl rfl hk) rfl ?_
   refine ai [] rfl (aF 0 rfl rfl rfl (bn hx)) rfl ?_
   refine aL (gs:=[]) rfl rfl ?_
   refine bH 56 (v':=.int .i64 (ar.cap-x)) rfl (congrArg (Value.int .i64) (bK (by omega))) ?_
   refine cA [] rfl ?_
   refine aj ?_
   refine aC rfl (fun h=>absurd h (by omega)) (fun _=>aq ?_)
   refine aa (ah [] rfl ?_)
   refine ab [] (aI rfl rfl rfl rfl rfl hk) rfl ?_
   refine ab [] (aF 0 rfl rfl rfl (bn hx)) rfl ?_
   refine ao (gs:=[999]) rfl ?_
   refine ao (gs:=[999]) rfl ?_
   refine av 66 (v':=.int .i64 (x+a)) rfl (congrArg (Value.int .i64) (bK (by omega))) ?_
   refine ab [] (aI rfl rfl rfl rfl rfl hk) rfl ?_
   refine aG 0 rfl rfl rfl rfl (du rfl (by omega)) [] rfl ?_
   refine aj ?_
   refine aa (af [] rfl ?_)
   have e:eb a r out=out.set (r/2) (x+a):=by unfold eb;rw[if_neg (by omega),hxd]
   refine⟨(i+1,out.set (r/2) (x+a)),⟨congrArg some (congrArg (Value.int .i64) hq),rfl,rfl,rfl,rfl,trivial⟩,aH.refl,⟨hil,by simp only[List.length_set];exact hol,?_,hkeep _⟩,by simp only;omega⟩
   rw[← e];exact hpu
  ·have hro2:a≤x:=by
    rw[List.getD_eq_getElem?_getD,show r=2*(r/2)+1 by omega,r2] at hro
    simpa using hro
   refine ae (ae (aa (ah [] rfl ?_)))
   refine ab [] (aI rfl rfl rfl rfl rfl hk) rfl ?_
   refine ab [] (aF 0 rfl rfl rfl (bn hx)) rfl ?_
   refine af [] rfl ?_
   refine aC rfl (fun h=>absurd h (by omega)) (fun _=>aq ?_)
   refine aa (ah [] rfl ?_)
   refine ab [] (aI rfl rfl rfl rfl rfl hk) rfl ?_
   refine ab [] (aF 0 rfl rfl rfl (bn hx)) rfl ?_
   refine ao (gs:=[999]) rfl ?_
   refine ao (gs:=[999]) rfl ?_
   refine av 81 (v':=.int .i64 (x+-a)) rfl (congrArg (Value.int .i64) ((bK (by omega)).trans (by omega))) ?_
   refine ab [] (aI rfl rfl rfl rfl rfl hk) rfl ?_
   refine aG 0 rfl rfl rfl rfl (du rfl (by omega)) [] rfl ?_
   refine aj ?_
   refine aa (af [] rfl ?_)
   have e:eb a r out=out.set (r/2) (x+-a):=by unfold eb;rw[if_pos (by omega),hxd]
   refine⟨(i+1,out.set (r/2) (x+-a)),⟨congrArg some (congrArg (Value.int .i64) hq),rfl,rfl,rfl,rfl,trivial⟩,aH.refl,⟨hil,by simp only[List.length_set];exact hol,?_,hkeep _⟩,by simp only;omega⟩
   rw[← e];exact hpu
 ·obtain rfl:i=W.length:=by omega
  rw[List.drop_length] at hpu
  have hpu:out=fQ a W f:=hpu
  refine ae (aa (af [] rfl ?_))
  rw[hpu]
  exact aE [0] (by decide) rfl (aB ⟨_,rfl,A3,c3,rfl,rfl⟩)
end Go.Proofs.YtpbmihpjgjbndaaGreat
/- Levels, found one behind the other over all tracks, in plain terms. -/
set_option linter.unusedVariables false
set_option linter.unusedSimpArgs false
namespace Go.Proofs.YtpbmihpjgjbndaaGreat
open Go.RowKit
theorem kf:∀ (l m:List Int),l.Nodup→(∀ x∈l,x∈m)→l.length≤m.length
 |[],_,_,_=>Nat.zero_le _
 |x::l,m,hn,hs=>by
  have h1:=List.nodup_cons.1 hn
  have hx:=hs x (by simp)
  have ih:=kf l (m.erase x) h1.2 fun y hy=>by
   have hne:y≠x:=fun e=>h1.1 (by rw[← e];exact hy)
   rw[List.mem_erase_of_ne hne]
   exact hs y (by simp[hy])
  rw[List.length_erase_of_mem hx] at ih
  have:0<m.length:=List.length_pos_of_mem hx
  rw[List.length_cons];omega
structure RV (N:bt) (rm:List Int) (least:Int) (k j:Nat) (lv:List Int):Prop where
 len:lv.length=N.nodes.toNat+1
 src:bT lv N.src.toNat=0
 nil:bT lv 0=-1
 rng:∀ v,bT lv v=-1∨0≤bT lv v∧bT lv v≤(k:Int)+1
 zero:∀ v,bT lv v=0→v=N.src.toNat
 done:∀ r,r<2*N.arcs.length→least≤rm.getD r 0→0≤bT lv (bU N r)→(bT lv (bU N r)<k∨bT lv (bU N r)=k∧r<j)→0≤bT lv (cH N r)∧bT lv (cH N r)≤bT lv (bU N r)+1
 back:∀ v,0<bT lv v→∃ r,r<2*N.arcs.length∧least≤rm.getD r 0∧cH N r=v∧bT lv (bU N r)=bT lv v-1
section
variable {N:bt} {rm:List Int} {least:Int} {k j:Nat} {lv:List Int}
theorem RV.init (hR:N.Right):RV N rm least 0 0 ((List.replicate (N.nodes.toNat+1) (-1)).set N.src.toNat 0):=by
 have hsr:=hR.src
 have hnn:=hR.nodes
 have e:∀ v,bT ((List.replicate (N.nodes.toNat+1) (-1)).set N.src.toNat 0) v=if N.src.toNat=v then 0 else-1:=by
  intro v
  rw[lH (by simp;omega)]
  split
  ·rfl
  ·unfold bT
   rw[List.getD_eq_getElem?_getD,List.getElem?_replicate]
   split<;>rfl
 refine⟨by simp,by rw[e,if_pos rfl],by rw[e,if_neg (by omega)],fun v=>?_,fun v hv=>?_,fun r _ _ h0 h1=>?_,fun v hv=>?_⟩
 ·rw[e];split
  ·exact .inr ⟨Int.le_refl _,by omega⟩
  ·exact .inl rfl
 ·rw[e] at hv;split at hv
  ·omega
  ·omega
 ·omega
 ·rw[e] at hv;split at hv<;>omega
theorem RV.keep (h:RV N rm least k j lv) (hno:¬ (least≤rm.getD j 0∧bT lv (bU N j)=k∧bT lv (cH N j)<0)):RV N rm least k (j+1) lv:=by
 refine⟨h.len,h.src,h.nil,h.rng,h.zero,fun r hr hl h0 h1=>?_,h.back⟩
 by_cases e:r=j
 ·subst e
  by_cases hk:bT lv (bU N r)=k
  ·have h2:¬ bT lv (cH N r)<0:=fun h3=>hno ⟨hl,hk,h3⟩
   have:=h.rng (cH N r)
   omega
  ·exact h.done r hr hl h0 (by omega)
 ·exact h.done r hr hl h0 (by omega)
theorem RV.put (hR:N.Right) (h:RV N rm least k j lv) (hj:j<2*N.arcs.length) (hl:least≤rm.getD j 0) (hk:bT lv (bU N j)=k) (hn:bT lv (cH N j)<0):RV N rm least k (j+1) (lv.set (cH N j) ((k:Int)+1)):=by
 obtain⟨_,t1,t2⟩:=d6 hR hj
 obtain⟨_,f1,f2⟩:=eD hR hj
 have hlen:=h.len
 have hsr:=hR.src
 have hlt:cH N j<lv.length:=by omega
 have e:∀ v,bT (lv.set (cH N j) ((k:Int)+1)) v=if cH N j=v then (k:Int)+1 else bT lv v:=fun v=>lH hlt
 have hsrc:=h.src
 have hne:cH N j≠N.src.toNat:=fun h1=>by rw[h1] at hn;omega
 refine⟨by rw[List.length_set];exact hlen,by rw[e,if_neg hne];exact hsrc,by rw[e,if_neg (by omega)];exact h.nil,fun v=>?_,fun v hv=>?_,fun r hr hl' h0 h1=>?_,fun v hv=>?_⟩
 ·rw[e];split
  ·exact .inr ⟨by omega,by omega⟩
  ·exact h.rng v
 ·rw[e] at hv;split at hv
  ·omega
  ·exact h.zero v hv
 ·have hf:cH N j≠bU N r:=fun h2=>by rw[e,if_pos h2] at h1;omega
  rw[e,if_neg hf] at h0 h1
  rw[e (bU N r),if_neg hf,e (cH N r)]
  by_cases hrj:r=j
  ·subst hrj
   rw[if_pos rfl];omega
  ·have h3:=h.done r hr hl' h0 (by omega)
   rw[if_neg (fun h4=>by rw[← h4] at h3;omega)]
   exact h3
 ·rw[e] at hv
  split at hv
  ·rename_i h2
   subst h2
   refine⟨j,hj,hl,rfl,?_⟩
   rw[e,e,if_pos rfl,if_neg (fun h3=>by rw[← h3] at hk;omega),hk];omega
  ·rename_i h2
   obtain⟨r,hr,h3,h4,h5⟩:=h.back v hv
   refine⟨r,hr,h3,h4,?_⟩
   rw[e,e,if_neg h2,if_neg (fun h6=>by rw[← h6] at h5;omega)]
   exact h5
theorem RV.round (h:RV N rm least k (2*N.arcs.length) lv):RV N rm least (k+1) 0 lv:=
 ⟨h.len,h.src,h.nil,fun v=>by have:=h.rng v;omega,h.zero,fun r hr hl h0 h1=>h.done r hr hl h0 (by omega),h.back⟩
theorem u6 {x:Int} {v:Nat} (h:bT lv v=x) (hx:x≠-1):x∈lv:=by
 have hlt:v<lv.length:=Classical.byContradiction fun hc=>hx (by rw[← h];exact nS (by omega))
 have:=eB hlt
 rw[h] at this
 exact List.mem_of_getElem? this
theorem RV.bound (h:RV N rm least k j lv) {v:Nat} (hv:0≤bT lv v):bT lv v<N.nodes.toNat:=by
 have key:∀ (L v:Nat),bT lv v=L→∀ i:Nat,i≤L→(i:Int)∈lv:=by
  intro L
  induction L with
  |zero=>intro v hv i hi;exact u6 (v:=v) (by rw[hv];congr 1;omega) (by omega)
  |succ L ih=>
   intro v hv i hi
   by_cases hL:i=L+1
   ·subst hL;exact u6 hv (by omega)
   ·obtain⟨r,_,_,_,h5⟩:=h.back v (by omega)
    exact ih (bU N r) (by omega) i (by omega)
 obtain⟨L,hL⟩:∃ L:Nat,bT lv v=L:=⟨(bT lv v).toNat,by omega⟩
 have hlen:=h.len
 have h0:(-1:Int)∈lv:=by
  have:=eB (lv:=lv) (v:=0) (by omega)
  rw[h.nil] at this
  exact List.mem_of_getElem? this
 have:=kf (-1::(List.range (L+1)).map fun (i:Nat)=>(i:Int)) lv (by
  rw[List.nodup_cons]
  refine⟨fun hc=>?_,List.pairwise_map.2 (List.nodup_range.imp fun hne he=>hne (by omega))⟩
  obtain⟨i,_,hi⟩:=List.mem_map.1 hc
  omega) (fun x hx=>by
  rcases List.mem_cons.1 hx with rfl|hx
  ·exact h0
  ·obtain⟨i,hi,rfl⟩:=List.mem_map.1 hx
   exact key L v hL i (by have:=List.mem_range.1 hi;omega))
 simp only[List.length_cons,List.length_map,List.length_range] at this
 omega
theorem RV.lev (hR:N.Right) (h:RV N rm least N.nodes.toNat j lv):dx N rm least lv:=by
 have hnn:=hR.nodes
 have hb:∀ v,-1≤bT lv v∧bT lv v<N.nodes:=fun v=>by
  rcases h.rng v with h1|h1
  ·omega
  ·have:=h.bound h1.1;omega
 exact⟨h.len,h.src,h.nil,hb,h.zero,fun r hr hl h0=>h.done r hr hl h0 (.inl (by have:=h.bound h0;omega)),h.back⟩
end
end Go.Proofs.YtpbmihpjgjbndaaGreat
