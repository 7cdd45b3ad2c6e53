/- The engine and the words that all chapters share: several texts in one. -/
import Derived.Test.YtpbmihpjgjbndaaGreatQX9
import Derived.Test.YtpbmihpjgjbndaaGreatQX33
/- The references' words: the first walk from a node on. -/
set_option linter.unusedVariables false
set_option linter.unusedSimpArgs false
namespace Go.Proofs.YtpbmihpjgjbndaaGreat
open Go.RowKit
section
variable {N:bt} {ls:List Nat} {least:Int} {rm:List Int} {D:List Bool}
def lG (D D':List Bool):Prop:=∀ v:Nat,D[v]?=some true→D'[v]?=some true
theorem lG.refl (D:List Bool):lG D D:=fun _ h=>h
theorem lG.trans {D D' D'':List Bool} (h:lG D D') (k:lG D' D''):lG D D'':=fun v hv=>k v (h v hv)
theorem iT.put (h:iT N ls least rm D) {u:Nat} (hu:u<N.nodes.toNat+1) (hs:u≠N.snk.toNat) (hall:∀ r∈ls,bU N r=u→rm.getD r 0<least∨D[cH N r]?=some true):iT N ls least rm (D.set u true)∧lG D (D.set u true)∧(D.set u true)[u]?=some true:=by
 have hm:lG D (D.set u true):=fun v hv=>by
  by_cases e:u=v
  ·subst e;rw[List.getElem?_set_self (by rw[h.len];exact hu)]
  ·rw[List.getElem?_set_ne e];exact hv
 refine⟨⟨by rw[List.length_set];exact h.len,?_,fun v hv r hr he=>?_⟩,hm,List.getElem?_set_self (by rw[h.len];exact hu)⟩
 ·rw[List.getElem?_set_ne hs];exact h.snk
 ·by_cases e:u=v
  ·subst e
   exact (hall r hr he).imp id fun h1=>hm _ h1
  ·rw[List.getElem?_set_ne e] at hv
   exact (h.closed v hv r hr he).imp id fun h1=>hm _ h1
end
theorem uF {N:bt} {lv:Nat→Int}:∀ {W:List Nat} {a z:Nat},Tr N a W z→(∀ r∈W,lv (cH N r)=lv (bU N r)+1)→lv z=lv a+W.length
 |[],a,z,ht,_=>by
  have e:a=z:=ht
  subst e;simp
 |r::W,a,z,ht,hl=>by
  obtain⟨e,ht'⟩:bU N r=a∧Tr N (cH N r) W z:=ht
  have ih:=uF ht' fun q hq=>hl q (by simp[hq])
  have:=hl r (by simp)
  rw[e] at this
  rw[List.length_cons,ih,this];omega
def xP (N:bt) (ls:List Nat) (least:Int) (rm:List Int) (D:List Bool) (u n gd:Nat) (v:Value) (H':Heap):Prop:=
 ∃ D',iT N ls least rm D'∧lG D D'∧
 ((∃ (W:List Nat) (A':Option Addr) (c':Nat),Tr N u W N.snk.toNat∧(∀ r∈W,nI N ls least rm D' r)∧v=.tuple #[.slice A' W.length c',.bool true]∧
     H'=[.own (.slice A' W.length c') 3 1 W.length (bs W),.own (.slice (some ⟨gd,0,none⟩) (n+1) (n+1)) 4 1 (n+1) (aY D')])∨
  (D'[u]?=some true∧v=.tuple #[.slice none 0 0,.bool false]∧H'=[.own (.slice (some ⟨gd,0,none⟩) (n+1) (n+1)) 4 1 (n+1) (aY D')]))
set_option maxHeartbeats 2000000 in
theorem vZ (N:bt) (hR:N.Right) (A:Option Addr) (c b o:Nat) (hA:N.arcs≠[]→A=some ⟨b,o,none⟩) (rm:List Int) (hrl:rm.length=2*N.arcs.length) (R:Option Addr) (cr br or_:Nat) (hRm:rm≠[]→R=some ⟨br,or_,none⟩)
 (ls:List Nat) (hlt:∀ r∈ls,r<2*N.arcs.length) (hs:ls.Pairwise (·<·)) (hll:ls.length≤4000) (B:Option Addr) (cb bb ob:Nat) (hB:ls≠[]→B=some ⟨bb,ob,none⟩) (least:Int) (n gd:Nat) (hn:N.nodes=n) (lv:Nat→Int) (hlv:∀ r∈ls,lv (cH N r)=lv (bU N r)+1) (hhi:∀ v,-1≤lv v∧lv v<N.nodes):
 ∀ (k:Nat) (D:List Bool) (u:Nat),u≤n→1≤u→N.nodes≤lv u+k→iT N ls least rm D→
 Fn 75 [bi N A c,.slice R (2*N.arcs.length) cr,.slice B ls.length cb,.int .i64 least,.int .i64 (u:Int),.slice (some ⟨gd,0,none⟩) (n+1) (n+1)] (aX [.own (.slice (some ⟨gd,0,none⟩) (n+1) (n+1)) 4 1 (n+1) (aY D)])
  ([.seg b o (arcs N.arcs),.seg br or_ (aw rm),.seg bb ob (bs ls)]++[.own (.slice (some ⟨gd,0,none⟩) (n+1) (n+1)) 4 1 (n+1) (aY D)]) (xP N ls least rm D u n gd):=by
 intro k
 induction k with
 |zero=>
  intro D u _ _ hk
  have:=hhi u
  omega
 |succ k ih=>
  intro D u hun hu1 hk hD
  have hnn:=hR.nodes
  have hsk:=hR.snk
  have hl2:=hR.len
  have hDl:=hD.len
  have hn':N.nodes.toNat=n:=by omega
  generalize hM:aX _=M
  refine aM Tryz.func75 rfl rfl fun w0=>?_
  refine ae (aa ?_)
  refine a6 (cs:=bJ N A c) rfl rfl rfl (fun _=>rfl) fun p=>?_
  refine af [] rfl ?_
  refine ae (ae (aa (ah [] rfl ?_)))
  refine ab [] (v:=.int .i64 N.snk) (ad 0 rfl rfl rfl rfl) rfl ?_
  refine af [] rfl ?_
  refine aC rfl (fun h=>?_) (fun hus=>aq ?_)
  ·refine ae (aa (af [] rfl ?_))
   refine bO 3 1 ?_
   refine bN (K:=[.own (.slice none 0 0) 3 1 0 [],.own (.slice (some ⟨gd,0,none⟩) (n+1) (n+1)) 4 1 (n+1) (aY D)]) (aH.picks [0,5] (by decide) rfl) ?_
   exact aE [0,1] (by decide) rfl (aB ⟨_,rfl,D,hD,lG.refl D,.inl ⟨[],none,0,(by show u=N.snk.toNat;omega),by simp,rfl,rfl⟩⟩)
  have hus':u≠N.snk.toNat:=by omega
  refine ae (ae (aa (af [] rfl ?_)))
  refine au ?_
  refine bM (σ:=Nat×List Bool) (fun s=>[(14,.int .i64 (s.1:Int)),(1,.slice R (2*N.arcs.length) cr),(2,.slice B ls.length cb),(3,.int .i64 least),(4,.int .i64 (u:Int)),(5,.slice (some ⟨gd,0,none⟩) (n+1) (n+1)),(6,.pointer (some ⟨p,0,none⟩))])
   (fun s=>[.own (.slice (some ⟨gd,0,none⟩) (n+1) (n+1)) 4 1 (n+1) (aY s.2),blk p 50 (bJ N A c),.seg b o (arcs N.arcs),.seg br or_ (aw rm),.seg bb ob (bs ls)])
   (fun s=>s.1≤ls.length∧iT N ls least rm s.2∧lG D s.2∧∀ (j r:Nat),j<s.1→ls[j]?=some r→bU N r=u→rm.getD r 0<least∨s.2[cH N r]?=some true) (fun s=>ls.length-s.1) (0,D) ⟨rfl,rfl,rfl,rfl,rfl,rfl,rfl,trivial⟩ (aH.picks [4,0,1,2,3] (by decide) rfl) ⟨Nat.zero_le _,hD,lG.refl D,fun j r hj=>by omega⟩ ?_
  rintro⟨i,D1⟩ ⟨hi,hD1,hm1,hall⟩
  simp only at hi hD1 hm1 hall ⊢
  have hDl1:=hD1.len
  refine ae (ae (aa (af [] rfl ?_)))
  refine aC rfl (fun hlt'=>aq ?_) (fun hge=>aO ?_)
  ·have hil:i<ls.length:=by omega
   obtain⟨r,hr⟩:∃ r,ls[i]?=some r:=⟨ls[i],List.getElem?_eq_getElem hil⟩
   have hrm:=List.mem_of_getElem? hr
   have hrl2:=hlt r hrm
   obtain⟨e1,f1,f2⟩:=eD hR hrl2
   obtain⟨e2,t1,t2⟩:=d6 hR hrl2
   have hE:cL N r=((bU N r:Int),(cH N r:Int)):=Prod.ext e1 e2
   have T:=i6 N A c b o hA hl2 r hrl2
   rw[hE] at T
   obtain⟨x,hx⟩:∃ x,rm[r]?=some x:=⟨rm[r]'(by omega),List.getElem?_eq_getElem (by omega)⟩
   have hxd:rm.getD r 0=x:=by rw[List.getD_eq_getElem?_getD,hx];rfl
   obtain⟨bd,hbd⟩:∃ bd,D1[cH N r]?=some bd:=⟨_,List.getElem?_eq_getElem (show cH N r<D1.length by omega)⟩
   obtain rfl:=hB (by rintro rfl;simp at hil)
   obtain rfl:=hRm (by rintro rfl;simp at hx)
   have hlsr:(bs ls)[i]?=some (.int .i64 (r:Int)):=cR (l:=ls.map fun (i:Nat)=>(i:Int)) (by rw[List.getElem?_map,hr];rfl)
   have hq:IntKind.i64.wrap ((i:Int)+1)=((i+1:Nat):Int):=bK (by omega)
   refine ae (au ?_)
   refine ae ?_
   refine bq 11 [(0,true),(1,true),(2,true),(3,true),(4,true),(5,false),(6,true),(7,true),(8,true),(9,true),(10,true)] [1,4] (by kernel_rfl) (by decide) rfl ?_
   refine ai [] rfl (ad (v:=bi N A c) 0 rfl rfl rfl rfl) rfl ?_
   refine aJ [] rfl ?_
   refine ai [] rfl (cW rfl rfl rfl rfl rfl hil) rfl ?_
   refine ai [] rfl (aU (v:=.int .i64 (r:Int)) 1 rfl rfl rfl rfl hlsr) rfl ?_
   refine bc rfl ?_
   refine ax [] T rfl rfl rfl rfl (by kernel_rfl) ⟨⟨2,_,by simp,rfl,ak _ _ _,ap⟩,trivial⟩ (fun _=>rfl) ?_
   rintro v H' ⟨rfl,rfl⟩
   refine⟨rfl,aj ⟨⟨[1,4],by decide,rfl⟩,?_⟩⟩
   refine cA [] rfl ?_
   refine aj ?_
   refine ae ?_
   refine dg [(57,.bool (cU (bU N r≠u∨bd=true∨x<least))),(16,.int .i64 (cH N r:Int)),(14,.int .i64 (i:Int)),(1,.slice (some ⟨br,or_,none⟩) (2*N.arcs.length) cr),(2,.slice (some ⟨bb,ob,none⟩) ls.length cb),(3,.int .i64 least),(4,.int .i64 (u:Int)),(5,.slice (some ⟨gd,0,none⟩) (n+1) (n+1)),(6,.pointer (some ⟨p,0,none⟩))]
    [.own (.slice (some ⟨gd,0,none⟩) (n+1) (n+1)) 4 1 (n+1) (aY D1),blk p 50 (bJ N A c),.seg b o (arcs N.arcs),.seg br or_ (aw rm),.seg bb ob (bs ls)] ?_ ?_
   ·skip
    refine aa ?_
    refine ao (gs:=[999]) rfl ?_
    refine ao (gs:=[999]) rfl ?_
    refine ao (gs:=[999]) rfl ?_
    refine ao (gs:=[999]) rfl ?_
    by_cases h1:bU N r=u
    case neg=>
     refine av 41 (v':=.bool true) rfl (congrArg Value.bool (az (by omega))) ?_
     refine af [3,9] rfl ?_
     exact⟨[0,1,2,3,4],⟨congrArg some (congrArg Value.bool (az (.inl h1)).symm),rfl,rfl,rfl,rfl,rfl,rfl,rfl,rfl,trivial⟩,by decide,rfl⟩
    refine av 41 (v':=.bool false) rfl (congrArg Value.bool (aA (by omega))) ?_
    refine ah [3] rfl ?_
    refine ab [3] (aI rfl rfl rfl rfl rfl (show cH N r<n+1 by omega)) rfl ?_
    refine ab [3] (aF 0 rfl rfl rfl (show (aY _)[cH N r]?=some (.bool bd) from cD hbd)) rfl ?_
    cases bd with
    |true=>
     refine af [3,9] rfl ?_
     exact⟨[0,1,2,3,4],⟨congrArg some (congrArg Value.bool (az (.inr (.inl rfl))).symm),rfl,rfl,rfl,rfl,rfl,rfl,rfl,rfl,trivial⟩,by decide,rfl⟩
    |false=>
     refine ah [3,9] rfl ?_
     refine ab [3,9] (cW rfl rfl rfl rfl rfl hil) rfl ?_
     refine ab [3,9] (aU (v:=.int .i64 (r:Int)) 4 rfl rfl rfl rfl hlsr) rfl ?_
     refine ab [3,9] (cW rfl rfl rfl rfl rfl hrl2) rfl ?_
     refine ab [3,9] (aU 3 rfl rfl rfl rfl (bn hx)) rfl ?_
     refine af [3,9] rfl ?_
     exact⟨[0,1,2,3,4],⟨congrArg some (congrArg Value.bool (db ⟨fun h=>.inr (.inr h),fun h=>(h.resolve_left (fun k=>k h1)).resolve_left (fun k=>Bool.noConfusion k)⟩)),rfl,rfl,rfl,rfl,rfl,rfl,rfl,rfl,trivial⟩,by decide,rfl⟩
   ·refine aC rfl (fun hgo=>?_) (fun hgo=>aq ?_)
    ·refine aO ?_
     refine aa (af [] rfl ?_)
     refine⟨(i+1,D1),⟨congrArg some (congrArg (Value.int .i64) hq),rfl,rfl,rfl,rfl,rfl,rfl,trivial⟩,aH.refl,⟨hil,hD1,hm1,fun j q hj hq2 he=>?_⟩,by simp only;omega⟩
     by_cases e:j=i
     ·subst e
      rw[hr] at hq2
      obtain rfl:=Option.some.inj hq2
      rcases hgo with h1|h1|h1
      ·exact absurd he h1
      ·subst h1;exact .inr hbd
      ·exact .inl (by omega)
     ·exact hall j q (by simp only at hj;omega) hq2 he
    ·have hfr:bU N r=u:=Classical.byContradiction fun h=>hgo (.inl h)
     have hbf:bd=false:=by cases bd;rfl;exact absurd (.inr (.inl rfl)) hgo
     have hxl:least≤x:=Classical.byContradiction fun h=>hgo (.inr (.inr (by omega)))
     have hlr:=hlv r hrm
     rw[hfr] at hlr
     refine ae (aa (ah [] rfl ?_))
     refine ab [] (v:=bi N A c) (ad 1 rfl rfl rfl rfl) rfl ?_
     refine ah [] rfl ?_
     refine ay [] (ih D1 (cH N r) (by omega) (by omega) (by omega) hD1) rfl rfl rfl rfl (by kernel_rfl) aH.refl ⟨⟨1,_,by simp,rfl,ak _ _ _,ap⟩,⟨2,_,by simp,rfl,ak _ _ _,ap⟩,⟨3,_,by simp,rfl,ak _ _ _,ap⟩,trivial⟩ (fun _=>rfl) ?_
     rintro v H' ⟨D2,hD2,hm2,(⟨W,A',c',hT,hF,rfl,rfl⟩|⟨hdead,rfl,rfl⟩)⟩
     ·refine⟨rfl,?_⟩
      have hwl:=uF (lv:=lv) hT fun q hq=>hlv q (hF q hq).1
      have h5:=hhi N.snk.toNat
      have h6:=hhi (cH N r)
      refine af [] rfl ?_
      refine ae (aa (af [] rfl ?_))
      refine bz rfl ?_
      refine ae (aa (ah [] rfl ?_))
      refine ab [] (cW rfl rfl rfl rfl rfl hil) rfl ?_
      refine ab [] (aU (v:=.int .i64 (r:Int)) 5 rfl rfl rfl rfl hlsr) rfl ?_
      refine fG (bp 0 rfl) fun ⟨_,_,hAw,hw1⟩=>?_
      obtain⟨gw,hAw⟩:=bQ hAw hw1
      refine b8 rfl rfl rfl rfl rfl rfl rfl (fun _=>rfl) fun gx=>?_
      refine b6 (fun w h=>h.blkOwn (sz:=1) (n:=1) rfl (by decide)) ?_
      refine ao (gs:=[999]) rfl ?_
      refine a9 (n:=1) (m:=W.length) (off:=0) (news:=bs W) 0 1 rfl rfl rfl rfl rfl rfl (by decide) rfl rfl (aS hAw) hAw (by unfold bs;rw[bh];simp) (fK _) (by omega) (by omega) (fun _ _=>rfl) fun A3 c3=>?_
      refine af [] rfl ?_
      have hlen:1+W.length=(r::W).length:=by rw[List.length_cons];omega
      have hrow:(Value.int IntKind.i64 (r:Int)).cells.toList++[]++bs W=bs (r::W):=rfl
      rw[hrow,hlen]
      have hfirst:nI N ls least rm D2 r:=by
       refine⟨hrm,by omega,fun q hq' he hqr=>?_⟩
       obtain⟨j,hj,hjq⟩:=List.mem_iff_getElem.1 hq'
       obtain⟨hil',hir⟩:=List.getElem?_eq_some_iff.1 hr
       have hji:j<i:=by
        refine Classical.byContradiction fun hc=>?_
        by_cases e:j=i
        ·subst e;rw[hir] at hjq;omega
        ·have:=List.pairwise_iff_getElem.1 hs i j hil' hj (by omega)
         omega
       exact (hall j q hji (by rw[List.getElem?_eq_getElem hj,hjq]) (by rw[he,hfr])).imp id fun h=>hm2 _ h
      refine bN (K:=[.own (.slice A3 (r::W).length c3) 3 1 (r::W).length (bs (r::W)),.own (.slice (some ⟨gd,0,none⟩) (n+1) (n+1)) 4 1 (n+1) (aY D2)]) (aH.picks [0,2] (by decide) rfl) ?_
      refine aE [0,1] (by decide) rfl (aB ⟨_,rfl,D2,hD2,hm1.trans hm2,.inl ⟨r::W,A3,c3,⟨hfr,hT⟩,fun q hq=>?_,rfl,rfl⟩⟩)
      rcases List.mem_cons.1 hq with rfl|hq
      ·exact hfirst
      ·exact hF q hq
     ·refine⟨rfl,?_⟩
      refine af [] rfl ?_
      refine ae (aa (af [] rfl ?_))
      refine bP rfl (aq ?_)
      refine aa (af [] rfl ?_)
      refine⟨(i+1,D2),⟨congrArg some (congrArg (Value.int .i64) hq),rfl,rfl,rfl,rfl,rfl,rfl,trivial⟩,aH.refl,⟨hil,hD2,hm1.trans hm2,fun j q hj hq2 he=>?_⟩,by simp only;omega⟩
      by_cases e:j=i
      ·subst e
       rw[hr] at hq2
       obtain rfl:=Option.some.inj hq2
       exact .inr hdead
      ·exact (hall j q (by simp only at hj;omega) hq2 he).imp id fun h=>hm2 _ h
  ·obtain rfl:i=ls.length:=by omega
   obtain⟨q1,q2,q3⟩:=hD1.put (u:=u) (by omega) hus' fun r hr he=>by
    obtain⟨j,hj,hjr⟩:=List.mem_iff_getElem.1 hr
    exact hall j r hj (by rw[List.getElem?_eq_getElem hj,hjr]) he
   refine ae (aa (ah [] rfl ?_))
   refine ab [] (aI rfl rfl rfl rfl rfl (show u<n+1 by omega)) rfl ?_
   refine aG 0 rfl rfl rfl rfl (dn rfl (by omega)) [] rfl ?_
   refine aj ?_
   refine ae (aa (af [] rfl ?_))
   refine bN (K:=[.own (.slice (some ⟨gd,0,none⟩) (n+1) (n+1)) 4 1 (n+1) (aY (D1.set u true))]) (aH.picks [0] (by decide) rfl) ?_
   exact aE [0] (by decide) rfl (aB ⟨_,rfl,_,q1,hm1.trans q2,.inr ⟨q3,rfl,rfl⟩⟩)
end Go.Proofs.YtpbmihpjgjbndaaGreat
/- The references' words: the next walk. -/
set_option linter.unusedVariables false
set_option linter.unusedSimpArgs false
namespace Go.Proofs.YtpbmihpjgjbndaaGreat
open Go.RowKit
def wX (N:bt) (ls:List Nat) (least:Int) (rm:List Int) (v:Value) (H':Heap):Prop:=
 (∃ (pos W:List Nat) (A':Option Addr) (c':Nat),PI N (cP N ls) least rm pos W∧cE N W=N.snk.toNat∧Tr N N.src.toNat W N.snk.toNat∧(∀ r∈W,r∈ls∧least≤rm.getD r 0)∧v=.tuple #[.slice A' W.length c',.bool true]∧H'=[.own (.slice A' W.length c') 3 1 W.length (bs W)])∨
 (∃ pos:List Nat,PI N (cP N ls) least rm pos []∧jc (cP N ls) pos N.src.toNat∧v=.tuple #[.slice none 0 0,.bool false]∧H'=[])
set_option maxHeartbeats 1000000 in
theorem uD (N:bt) (hN:N.Fits) (hR:N.Right) (A:Option Addr) (c b o:Nat) (hA:N.arcs≠[]→A=some ⟨b,o,none⟩) (f:List Int) (hW:aT N f) (F:Option Addr) (cf bf of:Nat) (hF:f≠[]→F=some ⟨bf,of,none⟩)
 (ls:List Nat) (hlt:∀ r∈ls,r<2*N.arcs.length) (hs:ls.Pairwise (·<·)) (hll:ls.length≤4000) (B:Option Addr) (cb bb ob:Nat) (hB:ls≠[]→B=some ⟨bb,ob,none⟩) (least:Int) (lv:Nat→Int) (hlv:∀ r∈ls,lv (cH N r)=lv (bU N r)+1) (hhi:∀ v,-1≤lv v∧lv v<N.nodes):
 Fn 69 [bi N A c,.slice F f.length cf,.slice B ls.length cb,.int .i64 least] [] [.seg b o (arcs N.arcs),.seg bf of (aw f),.seg bb ob (bs ls)] (wX N ls least (aK (N.arcs.zip f))):=by
 have hnn:=hR.nodes
 have hsr:=hR.src
 have hsk:=hR.snk
 have hl2:=hR.len
 have hfl:=hW.len
 have hfin:=aT.inB hR hW.toRanged
 obtain⟨n,hn⟩:∃ n:Nat,N.nodes=n:=⟨N.nodes.toNat,by omega⟩
 obtain⟨s0,hs0⟩:∃ s0:Nat,N.src=s0:=⟨N.src.toNat,by omega⟩
 have hs':N.src.toNat=s0:=by omega
 refine aM Tryz.func69 rfl rfl fun w0=>?_
 refine ae (aa ?_)
 refine a6 (cs:=bJ N A c) rfl rfl rfl (fun _=>rfl) fun p=>?_
 refine af [] rfl ?_
 refine ae (aa ?_)
 refine ab [] (v:=bi N A c) (ad 0 rfl rfl rfl rfl) rfl ?_
 refine ah [] rfl ?_
 refine ax [] (iZ N hN A c b o hA f F cf bf of hF hfin (by omega)) rfl rfl rfl rfl (by kernel_rfl) ⟨⟨1,_,by simp,rfl,ak _ _ _,ap⟩,⟨2,_,by simp,rfl,ak _ _ _,ap⟩,trivial⟩ (fun _=>rfl) ?_
 rintro v H' (⟨_,_,A1,c1,rfl,rfl⟩|⟨hw,rfl,rfl⟩)
 case inr=>exact absurd (dH.2 ⟨hR,hW⟩) hw
 refine⟨rfl,?_⟩
 refine af [] rfl ?_
 refine ae (ae (aa (af [] rfl ?_)))
 refine aC rfl (fun h=>absurd rfl h) (fun _=>aq ?_)
 obtain⟨rm,hrm⟩:∃ rm,rm=aK (N.arcs.zip f):=⟨_,rfl⟩
 have hrl:rm.length=2*N.arcs.length:=by rw[hrm,b7,List.length_zip,hW.len,Nat.min_self]
 rw[← hrm]
 refine bG (bp 0 rfl) fun ⟨_,_,hA1,hla⟩=>?_
 obtain⟨gr,hA1⟩:=bQ hA1 hla
 have hD0:iT N ls least rm (List.replicate (n+1) false):=by
  have hf:∀ v:Nat,(List.replicate (n+1) false)[v]?≠some true:=fun v h=>by
   rw[List.getElem?_replicate] at h
   split at h<;>simp at h
  exact⟨by simp;omega,hf _,fun v hv=>absurd hv (hf v)⟩
 have hsrc:=hhi s0
 refine ae ?_
 refine bq 15 [(0,true),(1,true),(2,true),(3,true),(4,true),(5,true),(6,true),(7,true),(8,true),(9,false),(10,false),(11,true),(12,true),(13,true),(14,true)] [1] (by kernel_rfl) (by decide) rfl ?_
 refine ai [] rfl (ad (v:=bi N A c) 0 rfl rfl rfl rfl) rfl ?_
 refine aJ [] rfl ?_
 refine ai [] rfl (ad (v:=.int .i64 N.src) 0 rfl rfl rfl rfl) rfl ?_
 refine bH 25 (v':=.int .i64 (s0:Int)) rfl (congrArg (Value.int .i64) hs0) ?_
 refine aJ [] rfl ?_
 refine ai [] rfl (ad (v:=.int .i64 N.nodes) 0 rfl rfl rfl rfl) rfl ?_
 refine aL (gs:=[]) rfl rfl ?_
 refine bH 28 (v':=.int .i64 ((n+1:Nat):Int)) rfl (congrArg (Value.int .i64) ((bK (n:=N.nodes+1) (by omega)).trans (by omega))) ?_
 refine bc rfl ?_
 refine cv (n:=n+1) (c:=n+1) rfl rfl rfl rfl rfl rfl (by omega) (by omega) (by omega) (fun _=>rfl) fun g=>?_
 rw[show made [Value.bool false] ((n+1)*1)=aY (List.replicate (n+1) false) by rw[ce,Nat.mul_one];simp[aY]]
 refine aj ⟨⟨[2],by decide,rfl⟩,?_⟩
 refine bc rfl ?_
 refine ay [] (vZ N hR A c b o hA rm hrl A1 c1 gr 0 (fun h=>hA1 fun h0=>h (List.length_eq_zero_iff.1 (by rw[← bh,h0];rfl))) ls hlt hs hll B cb bb ob hB least n g hn lv hlv hhi (n+1) _ s0 (by omega) (by omega) (by omega) hD0) rfl rfl rfl rfl (by kernel_rfl) aH.refl ⟨⟨2,_,by simp,rfl,ak _ _ _,ap⟩,⟨0,_,by simp,rfl,aS hA1,aZ hA1⟩,⟨4,_,by simp,rfl,ak _ _ _,ap⟩,trivial⟩ (fun _=>rfl) ?_
 rintro v H' ⟨D',hD',_,(⟨W,A',c',hT,hFT,rfl,rfl⟩|⟨hdead,rfl,rfl⟩)⟩
 ·refine⟨rfl,aj ⟨⟨[3],by decide,rfl⟩,?_⟩⟩
  refine cA [] rfl ?_
  refine aj ?_
  refine bN (K:=[.own (.slice A' W.length c') 3 1 W.length (bs W)]) (aH.picks [0] (by decide) rfl) ?_
  rw[← hs'] at hT
  have hPI:=rr hR hs hlt hD' hT (.inl hD'.snk) hFT
  exact aE [0] (by decide) rfl (aB ⟨_,rfl,.inl ⟨_,W,A',c',hPI,(nV hT).symm,hT,fun r hr=>⟨(hFT r hr).1,(hFT r hr).2.1⟩,rfl,rfl⟩⟩)
 ·refine⟨rfl,aj ⟨⟨[2],by decide,rfl⟩,?_⟩⟩
  refine cA [] rfl ?_
  refine aj ?_
  rw[← hs'] at hdead
  have hPI:=rr (W:=[]) (z:=N.src.toNat) hR hs hlt hD' rfl (.inr rfl) (by simp)
  exact aE [] (by decide) rfl (aB ⟨_,rfl,.inr ⟨_,hPI,mY hD' hdead,rfl,rfl⟩⟩)
end Go.Proofs.YtpbmihpjgjbndaaGreat
/- The references' words: whether tracks are a walk, and amounts led along one. -/
set_option linter.unusedVariables false
set_option linter.unusedSimpArgs false
namespace Go.Proofs.YtpbmihpjgjbndaaGreat
open Go.RowKit
set_option maxHeartbeats 1000000 in
theorem sc (N:bt) (hR:N.Right) (A:Option Addr) (c b o:Nat) (hA:N.arcs≠[]→A=some ⟨b,o,none⟩) (W:List Nat) (hlt:∀ r∈W,r<2*N.arcs.length) (hne:W≠[]) (ht:Tr N N.src.toNat W N.snk.toNat) (B:Option Addr) (cb bb ob:Nat) (hB:W≠[]→B=some ⟨bb,ob,none⟩) (hwl:W.length≤100000):
 Fn 77 [bi N A c,.slice B W.length cb] [] [.seg b o (arcs N.arcs),.seg bb ob (bs W)] fun v H'=>v=.bool true∧H'=[]:=by
 have hnn:=hR.nodes
 have hsr:=hR.src
 have hsk:=hR.snk
 have hl2:=hR.len
 obtain⟨s0,hs0⟩:∃ s0:Nat,N.src=s0:=⟨N.src.toNat,by omega⟩
 have hs':N.src.toNat=s0:=by omega
 have hpos:0<W.length:=List.length_pos_iff.2 hne
 obtain rfl:=hB hne
 rw[hs'] at ht
 refine aM Tryz.func77 rfl rfl fun w0=>?_
 refine ae (aa ?_)
 refine a6 (cs:=bJ N A c) rfl rfl rfl (fun _=>rfl) fun p=>?_
 refine af [] rfl ?_
 refine ae (aa (ah [] rfl ?_))
 refine ab [] (v:=.int .i64 N.src) (ad 0 rfl rfl rfl rfl) rfl ?_
 refine av 10 (v':=.int .i64 (s0:Int)) rfl (congrArg (Value.int .i64) hs0) ?_
 refine af [] rfl ?_
 refine ae (ae (aa (af [] rfl ?_)))
 refine au ?_
 refine bM (σ:=Nat×Nat) (fun s=>[(6,.int .i64 (s.1:Int)),(5,.int .i64 (s.2:Int)),(1,.slice (some ⟨bb,ob,none⟩) W.length cb),(2,.pointer (some ⟨p,0,none⟩))])
  (fun _=>[blk p 50 (bJ N A c),.seg b o (arcs N.arcs),.seg bb ob (bs W)]) (fun s=>s.1≤W.length∧Tr N s.2 (W.drop s.1) N.snk.toNat) (fun s=>W.length-s.1) (0,s0) ⟨rfl,rfl,rfl,rfl,trivial⟩ aH.refl ⟨Nat.zero_le _,ht⟩ ?_
 rintro⟨i,a⟩ ⟨hi,hT⟩
 simp only at hi hT ⊢
 refine ae (ae (aa (af [] rfl ?_)))
 refine aC rfl (fun hlt'=>aq ?_) (fun hge=>aO ?_)
 ·have hil:i<W.length:=by omega
  obtain⟨r,hr⟩:∃ r,W[i]?=some r:=⟨W[i],List.getElem?_eq_getElem hil⟩
  have hd:W.drop i=r::W.drop (i+1):=by
   obtain⟨_,rfl⟩:=List.getElem?_eq_some_iff.1 hr
   rw[List.drop_eq_getElem_cons hil]
  rw[hd] at hT
  obtain⟨hfr,hT'⟩:bU N r=a∧Tr N (cH N r) (W.drop (i+1)) N.snk.toNat:=hT
  have hrl:=hlt r (List.mem_of_getElem? hr)
  obtain⟨e1,f1,f2⟩:=eD hR hrl
  obtain⟨e2,t1,t2⟩:=d6 hR hrl
  have hE:cL N r=((bU N r:Int),(cH N r:Int)):=Prod.ext e1 e2
  have T:=i6 N A c b o hA hl2 r hrl
  rw[hE] at T
  have hlsr:(bs W)[i]?=some (.int .i64 (r:Int)):=cR (l:=W.map fun (i:Nat)=>(i:Int)) (by rw[List.getElem?_map,hr];rfl)
  have hq:IntKind.i64.wrap ((i:Int)+1)=((i+1:Nat):Int):=bK (by omega)
  refine ae (au ?_)
  refine ae ?_
  refine bq 11 [(0,true),(1,true),(2,true),(3,true),(4,true),(5,false),(6,true),(7,true),(8,true),(9,true),(10,true)] [0,2] (by kernel_rfl) (by decide) rfl ?_
  refine ai [] rfl (ad (v:=bi N A c) 0 rfl rfl rfl rfl) rfl ?_
  refine aJ [] rfl ?_
  refine ai [] rfl (cW rfl rfl rfl rfl rfl hil) rfl ?_
  refine ai [] rfl (aU (v:=.int .i64 (r:Int)) 1 rfl rfl rfl rfl hlsr) rfl ?_
  refine bc rfl ?_
  refine ax [] T rfl rfl rfl rfl (by kernel_rfl) ⟨⟨1,_,by simp,rfl,ak _ _ _,ap⟩,trivial⟩ (fun _=>rfl) ?_
  rintro v H' ⟨rfl,rfl⟩
  refine⟨rfl,aj ⟨⟨[0,2],by decide,rfl⟩,?_⟩⟩
  refine cA [] rfl ?_
  refine aj ?_
  refine ae (ae (aa ?_))
  refine ao (gs:=[999]) rfl ?_
  refine ao (gs:=[999]) rfl ?_
  refine ao (gs:=[999]) rfl ?_
  refine ao (gs:=[999]) rfl ?_
  refine av 29 (v':=.bool false) rfl (congrArg Value.bool (aA (by omega))) ?_
  refine af [3] rfl ?_
  refine aC rfl (fun h=>absurd h (by omega)) (fun _=>aq ?_)
  refine aa (af [] rfl ?_)
  refine aa (af [] rfl ?_)
  exact⟨(i+1,cH N r),⟨congrArg some (congrArg (Value.int .i64) hq),rfl,rfl,rfl,trivial⟩,aH.refl,⟨hil,hT'⟩,by simp only;omega⟩
 ·obtain rfl:i=W.length:=by omega
  rw[List.drop_length] at hT
  have hT:a=N.snk.toNat:=hT
  refine ae (aa ?_)
  refine ao (gs:=[999]) rfl ?_
  refine ao (gs:=[999]) rfl ?_
  refine ao (gs:=[999]) rfl ?_
  refine ao (gs:=[999]) rfl ?_
  refine av 37 (v':=.bool true) rfl (congrArg Value.bool (az (by omega))) ?_
  refine ah [3] rfl ?_
  refine ab [3] (v:=.int .i64 N.snk) (ad 0 rfl rfl rfl rfl) rfl ?_
  refine af [3] rfl ?_
  exact aE [] (by decide) rfl (aB ⟨_,rfl,congrArg Value.bool (az (by omega)),rfl⟩)
end Go.Proofs.YtpbmihpjgjbndaaGreat
