/- The engine and the words that all chapters share: several texts in one. -/
import Derived.Test.YtpbmihpjgjbndaaGreatQX33
import Derived.Test.YtpbmihpjgjbndaaGreatQF
import Derived.Test.YtpbmihpjgjbndaaGreatLeadN
import Derived.Test.YtpbmihpjgjbndaaGreatTblkN
/- The references' words: where one comes (that it ends, and what is wrong). -/
set_option linter.unusedVariables false
set_option linter.unusedSimpArgs false
namespace Go.Proofs.YtpbmihpjgjbndaaGreat
open Go.RowKit
noncomputable def dM (N:bt) (f:List Int) (least:Int):Int:=if dT N f≠0 then dT N f else if least<1 then 3 else 0
theorem iG {N:bt} {f:List Int} {least:Int} (h:dT N f≠0):dM N f least=dT N f:=by unfold dM;rw[if_pos h]
theorem jF {N:bt} {f:List Int} {least:Int} (h:dT N f=0) (hl:least<1):dM N f least=3:=by unfold dM;rw[if_neg (fun k=>k h),if_pos hl]
theorem dB {N:bt} {f:List Int} {least:Int}:dM N f least=0↔N.Right∧aT N f∧1≤least:=by
 unfold dM
 constructor
 ·intro h
  by_cases hw:dT N f≠0
  ·rw[if_pos hw] at h;exact absurd h hw
  ·rw[if_neg hw] at h
   obtain⟨hR,hf⟩:=dH.1 (Classical.not_not.1 hw)
   refine⟨hR,hf,?_⟩
   split at h
   ·omega
   ·omega
 ·rintro⟨hR,hf,hl⟩
  rw[if_neg (fun h=>h (dH.2 ⟨hR,hf⟩)),if_neg (by omega)]
def vC (N:bt) (f:List Int) (least:Int) (v:Value) (H':Heap):Prop:=
 (dM N f least=0∧∃ (n g:Nat) (l:List Bool),v=.tuple #[.slice (some ⟨g,0,none⟩) (n+1) (n+1),.int .i64 0]∧H'=[.own (.slice (some ⟨g,0,none⟩) (n+1) (n+1)) 4 1 (n+1) (aY l)])∨
 (dM N f least≠0∧v=.tuple #[.slice none 0 0,.int .i64 (dM N f least)]∧H'=[])
theorem iD:∀ (l:List Bool) (t:Nat),l[t]?=some false→(l.set t true).count false+1=l.count false
 |[],_,h=>by simp at h
 |x::l,0,h=>by
  simp only[List.getElem?_cons_zero,Option.some.injEq] at h
  subst h;simp
 |x::l,t+1,h=>by
  have:=iD l t (by simpa using h)
  simp only[List.set_cons_succ,List.count_cons]
  omega
set_option maxHeartbeats 2000000 in
theorem tw (N:bt) (hN:N.Fits) (A:Option Addr) (c b o:Nat) (hA:N.arcs≠[]→A=some ⟨b,o,none⟩) (f:List Int) (F:Option Addr) (cf bf of:Nat) (hF:f≠[]→F=some ⟨bf,of,none⟩) (hf:∀ x∈f,dw x) (hfl:f.length*8≤140737488351232) (least:Int):
 Fn 73 [bi N A c,.slice F f.length cf,.int .i64 least] [] [.seg b o (arcs N.arcs),.seg bf of (aw f)] (vC N f least):=by
 refine aM Tryz.func73 rfl rfl fun w0=>?_
 refine ae (aa ?_)
 refine a6 (cs:=bJ N A c) rfl rfl rfl (fun _=>rfl) fun p=>?_
 refine af [] rfl ?_
 refine ae (aa ?_)
 refine ab [] (v:=bi N A c) (ad 0 rfl rfl rfl rfl) rfl ?_
 refine ah [] rfl ?_
 refine ax [] (iZ N hN A c b o hA f F cf bf of hF hf hfl) rfl rfl rfl rfl (by kernel_rfl) ⟨⟨1,_,by simp,rfl,ak _ _ _,ap⟩,⟨2,_,by simp,rfl,ak _ _ _,ap⟩,trivial⟩ (fun _=>rfl) ?_
 rintro v H' (⟨hR,hW,A1,c1,rfl,rfl⟩|⟨hw,rfl,rfl⟩)
 case inr=>
  refine⟨rfl,?_⟩
  refine af [] rfl ?_
  refine ae (ae (aa (af [] rfl ?_)))
  refine aC rfl (fun h=>?_) (fun h=>absurd hw h)
  refine ae (aa (af [] rfl ?_))
  refine aE [] (by decide) rfl (aB ⟨_,rfl,.inr ⟨by rw[iG hw];exact hw,?_,rfl⟩⟩)
  rw[iG hw];rfl
 have hw0:=dH.2 ⟨hR,hW⟩
 refine⟨rfl,?_⟩
 refine af [] rfl ?_
 refine ae (ae (aa (af [] rfl ?_)))
 refine aC rfl (fun h=>absurd rfl h) (fun _=>aq ?_)
 refine ae (ae (aa (af [] rfl ?_)))
 refine aC rfl (fun h=>?_) (fun hle=>aq ?_)
 ·refine ae (aa (af [] rfl ?_))
  refine aE [] (by decide) rfl (aB ⟨_,rfl,.inr ⟨by rw[jF hw0 h];decide,?_,rfl⟩⟩)
  rw[jF hw0 h];rfl
 have he0:dM N f least=0:=dB.2 ⟨hR,hW,by omega⟩
 have hnn:=hR.nodes
 have hsr:=hR.src
 have hl2:=hR.len
 obtain⟨n,hn⟩:∃ n:Nat,N.nodes=n:=⟨N.nodes.toNat,by omega⟩
 obtain⟨s0,hs0⟩:∃ s0:Nat,N.src=s0:=⟨N.src.toNat,by omega⟩
 obtain⟨rm,hrm⟩:∃ rm,rm=aK (N.arcs.zip f):=⟨_,rfl⟩
 have hrl:rm.length=2*N.arcs.length:=by rw[hrm,b7,List.length_zip,hW.len,Nat.min_self]
 rw[← hrm]
 refine bG (bp 0 rfl) fun ⟨_,_,hA1,hla⟩=>?_
 obtain⟨gr,hA1⟩:=bQ hA1 hla
 refine ae (aa (ah [] rfl ?_))
 refine ab [] (v:=.int .i64 N.nodes) (ad 1 rfl rfl rfl rfl) rfl ?_
 refine ao (gs:=[999]) rfl ?_
 refine av 28 (v':=.int .i64 ((n+1:Nat):Int)) rfl (congrArg (Value.int .i64) ((bK (n:=N.nodes+1) (by omega)).trans (by omega))) ?_
 refine cv (n:=n+1) (c:=n+1) rfl rfl rfl rfl rfl rfl (by omega) (by omega) (by omega) (fun _=>rfl) fun g=>?_
 refine af [] rfl ?_
 rw[show made [Value.bool false] ((n+1)*1)=aY (List.replicate (n+1) false) by rw[ce,Nat.mul_one];simp[aY]]
 refine ae (aa (ah [] rfl ?_))
 refine ab [] (v:=.int .i64 N.src) (ad 2 rfl rfl rfl rfl) rfl ?_
 refine av 32 (v':=.int .i64 (s0:Int)) rfl (congrArg (Value.int .i64) hs0) ?_
 refine ab [] (aI rfl rfl rfl rfl rfl (show s0<n+1 by omega)) rfl ?_
 refine aG 0 rfl rfl rfl rfl (dn rfl (by simp;omega)) [] rfl ?_
 refine aj ?_
 refine ae (aa (af [] rfl ?_))
 refine ae ?_
 have hm0:((List.replicate (n+1) false).set s0 true).length=n+1:=by simp
 generalize (List.replicate (n+1) false).set s0 true=m0 at hm0
 refine au ?_
 refine bM (σ:=List Bool×Bool) (fun s=>[(11,.bool s.2),(10,.slice (some ⟨g,0,none⟩) (n+1) (n+1)),(8,.slice A1 (2*N.arcs.length) c1),(3,.pointer (some ⟨p,0,none⟩)),(2,.int .i64 least)])
  (fun s=>[.own (.slice (some ⟨g,0,none⟩) (n+1) (n+1)) 4 1 (n+1) (aY s.1),.own (.slice A1 (2*N.arcs.length) c1) 2 1 (2*N.arcs.length) (aw rm),blk p 50 (bJ N A c),.seg b o (arcs N.arcs),.seg bf of (aw f)])
  (fun s=>s.1.length=n+1) (fun s=>2*s.1.count false+(if s.2=true then 1 else 0)) (m0,true) ⟨rfl,rfl,rfl,rfl,rfl,trivial⟩ aH.refl hm0 ?_
 rintro⟨met,more⟩ hml
 simp only at hml ⊢
 refine ae (ae (aa (af [] rfl ?_)))
 cases more with
 |false=>
  refine bP rfl (aO ?_)
  refine ae (aa (af [] rfl ?_))
  refine bN (K:=[.own (.slice (some ⟨g,0,none⟩) (n+1) (n+1)) 4 1 (n+1) (aY met)]) (aH.picks [0] (by decide) rfl) ?_
  exact aE [0] (by decide) rfl (aB ⟨_,rfl,.inl ⟨he0,n,g,met,rfl,rfl⟩⟩)
 |true=>
  refine bz rfl (aq ?_)
  refine au (ae (aa (af [] rfl ?_)))
  refine ae (aa (af [] rfl ?_))
  refine au ?_
  refine bM (σ:=Nat×List Bool×Bool) (fun s=>[(12,.int .i64 (s.1:Int)),(11,.bool s.2.2),(10,.slice (some ⟨g,0,none⟩) (n+1) (n+1)),(8,.slice A1 (2*N.arcs.length) c1),(3,.pointer (some ⟨p,0,none⟩)),(2,.int .i64 least)])
   (fun s=>[.own (.slice (some ⟨g,0,none⟩) (n+1) (n+1)) 4 1 (n+1) (aY s.2.1),.own (.slice A1 (2*N.arcs.length) c1) 2 1 (2*N.arcs.length) (aw rm),blk p 50 (bJ N A c),.seg b o (arcs N.arcs),.seg bf of (aw f)])
   (fun s=>s.1≤2*N.arcs.length∧s.2.1.length=n+1∧s.2.1.count false≤met.count false∧(s.2.2=true→s.2.1.count false<met.count false)) (fun s=>2*N.arcs.length-s.1) (0,met,false) ⟨rfl,rfl,rfl,rfl,rfl,rfl,trivial⟩ aH.refl ⟨Nat.zero_le _,hml,Nat.le_refl _,fun h=>by cases h⟩ ?_
  rintro⟨k,mt,mo⟩ ⟨hk,hmt,hc1,hc2⟩
  simp only at hk hmt hc1 hc2 ⊢
  refine ae (ae (aa (af [] rfl ?_)))
  refine aC rfl (fun hlt=>aq ?_) (fun hge=>aO ?_)
  ·have hkl:k<2*N.arcs.length:=by omega
   obtain⟨e1,f1,f2⟩:=eD hR hkl
   obtain⟨e2,t1,t2⟩:=d6 hR hkl
   have hE:cL N k=((bU N k:Int),(cH N k:Int)):=Prod.ext e1 e2
   have T:=i6 N A c b o hA hl2 k hkl
   rw[hE] at T
   obtain⟨x,hx⟩:∃ x,rm[k]?=some x:=⟨rm[k]'(by omega),List.getElem?_eq_getElem (by omega)⟩
   obtain⟨b1,hb1⟩:∃ b1,mt[bU N k]?=some b1:=⟨_,List.getElem?_eq_getElem (show bU N k<mt.length by omega)⟩
   obtain⟨b2,hb2⟩:∃ b2,mt[cH N k]?=some b2:=⟨_,List.getElem?_eq_getElem (show cH N k<mt.length by omega)⟩
   obtain rfl:=hA1 (by
    intro h0
    have h5:(aw rm).length=0:=by rw[h0];rfl
    rw[bh] at h5
    omega)
   have hq:IntKind.i64.wrap ((k:Int)+1)=((k+1:Nat):Int):=bK (by omega)
   refine ae (au ?_)
   refine ae (aa ?_)
   refine ab [] (v:=bi N A c) (ad 2 rfl rfl rfl rfl) rfl ?_
   refine ah [] rfl ?_
   refine ax [] T rfl rfl rfl rfl (by kernel_rfl) ⟨⟨3,_,by simp,rfl,ak _ _ _,ap⟩,trivial⟩ (fun _=>rfl) ?_
   rintro v H' ⟨rfl,rfl⟩
   refine⟨rfl,?_⟩
   refine af [] rfl ?_
   refine dg [(65,.bool (cU (least≤x∧b1=true∧b2=false))),(14,.int .i64 (cH N k:Int)),(12,.int .i64 (k:Int)),(11,.bool mo),(10,.slice (some ⟨g,0,none⟩) (n+1) (n+1)),(8,.slice (some ⟨gr,0,none⟩) (2*N.arcs.length) c1),(3,.pointer (some ⟨p,0,none⟩)),(2,.int .i64 least)]
    [.own (.slice (some ⟨g,0,none⟩) (n+1) (n+1)) 4 1 (n+1) (aY mt),.own (.slice (some ⟨gr,0,none⟩) (2*N.arcs.length) c1) 2 1 (2*N.arcs.length) (aw rm),blk p 50 (bJ N A c),.seg b o (arcs N.arcs),.seg bf of (aw f)] ?_ ?_
   ·skip
    refine aa (ah [] rfl ?_)
    refine ab [] (aI rfl rfl rfl rfl rfl hkl) rfl ?_
    refine ab [] (aF 1 rfl rfl rfl (bn hx)) rfl ?_
    refine ao (gs:=[999]) rfl ?_
    refine ao (gs:=[999]) rfl ?_
    refine ao (gs:=[999]) rfl ?_
    by_cases h1:least≤x
    case neg=>
     refine av 53 (v':=.bool false) rfl (congrArg Value.bool (aA h1)) ?_
     refine af [6,12] rfl ?_
     exact⟨[0,1,2,3,4],⟨congrArg some (congrArg Value.bool (aA (fun h=>h1 h.1)).symm),rfl,rfl,rfl,rfl,rfl,rfl,rfl,trivial⟩,by decide,rfl⟩
    refine av 53 (v':=.bool true) rfl (congrArg Value.bool (az h1)) ?_
    refine ah [6] rfl ?_
    refine ab [6] (aI rfl rfl rfl rfl rfl (show bU N k<n+1 by omega)) rfl ?_
    refine ab [6] (aF 0 rfl rfl rfl (show (aY _)[bU N k]?=some (.bool b1) from cD hb1)) rfl ?_
    cases b1 with
    |false=>
     refine af [6,12] rfl ?_
     exact⟨[0,1,2,3,4],⟨congrArg some (congrArg Value.bool (aA (fun h=>Bool.noConfusion h.2.1)).symm),rfl,rfl,rfl,rfl,rfl,rfl,rfl,trivial⟩,by decide,rfl⟩
    |true=>
     refine ah [6,12] rfl ?_
     refine ab [6,12] (aI rfl rfl rfl rfl rfl (show cH N k<n+1 by omega)) rfl ?_
     refine ab [6,12] (aF 0 rfl rfl rfl (show (aY _)[cH N k]?=some (.bool b2) from cD hb2)) rfl ?_
     refine af [6,12] rfl ?_
     refine⟨[0,1,2,3,4],⟨?_,rfl,rfl,rfl,rfl,rfl,rfl,rfl,trivial⟩,by decide,rfl⟩
     cases b2 with
     |false=>exact congrArg some (congrArg Value.bool (az ⟨h1,rfl,rfl⟩).symm)
     |true=>exact congrArg some (congrArg Value.bool (aA (fun h=>Bool.noConfusion h.2.2)).symm)
   ·refine aC rfl (fun h1=>?_) (fun h1=>aq ?_)
    ·have hbf:mt[cH N k]?=some false:=by rw[hb2,h1.2.2]
     have hcs:=iD mt _ hbf
     refine ae (aa (ah [] rfl ?_))
     refine ab [] (aI rfl rfl rfl rfl rfl (show cH N k<n+1 by omega)) rfl ?_
     refine aG 0 rfl rfl rfl rfl (dn rfl (by omega)) [] rfl ?_
     refine aj ?_
     refine aa (af [] rfl ?_)
     refine aa (af [] rfl ?_)
     exact⟨(k+1,mt.set (cH N k) true,true),⟨congrArg some (congrArg (Value.int .i64) hq),rfl,rfl,rfl,rfl,rfl,trivial⟩,aH.refl,⟨hkl,by simp only[List.length_set];exact hmt,by simp only;omega,fun _=>by simp only;omega⟩,by simp only;omega⟩
    ·skip
     refine aa (af [] rfl ?_)
     exact⟨(k+1,mt,mo),⟨congrArg some (congrArg (Value.int .i64) hq),rfl,rfl,rfl,rfl,rfl,trivial⟩,aH.refl,⟨hkl,hmt,hc1,hc2⟩,by simp only;omega⟩
  ·refine⟨(mt,mo),⟨rfl,rfl,rfl,rfl,rfl,trivial⟩,aH.refl,hmt,?_⟩
   simp only
   cases mo with
   |false=>simp;omega
   |true=>have:=hc2 rfl;simp;omega
end Go.Proofs.YtpbmihpjgjbndaaGreat
/- What is wrong with a network is told by all that is handed it. -/
set_option linter.unusedVariables false
set_option linter.unusedSimpArgs false
namespace Go.Proofs.YtpbmihpjgjbndaaGreat
open Go.RowKit
theorem qM (N:bt) (hN:N.Fits) (hz:bW N≠0) (A:Option Addr) (c b o:Nat) (hA:N.arcs≠[]→A=some ⟨b,o,none⟩) (f:List Int) (F:Option Addr) (cf bf of:Nat) (hF:f≠[]→F=some ⟨bf,of,none⟩) (hf:∀ x∈f,dw x) (hfl:f.length*8≤140737488351232):
 Fn 61 [bi N A c,.slice F f.length cf] [] [.seg b o (arcs N.arcs),.seg bf of (aw f)] fun v H'=>v=.int .i64 (bW N)∧H'=[]:=by
 refine aM Tryz.func61 rfl rfl fun w0=>?_
 refine ae (aa ?_)
 refine a6 (cs:=bJ N A c) rfl rfl rfl (fun _=>rfl) fun p=>?_
 refine af [] rfl ?_
 refine ae (ae (aa ?_))
 refine ab [] (v:=bi N A c) (ad 0 rfl rfl rfl rfl) rfl ?_
 refine ah [] rfl ?_
 refine ax [] (oM N hN A c b o hA) rfl rfl rfl rfl (by kernel_rfl) ⟨⟨1,_,by simp,rfl,ak _ _ _,ap⟩,trivial⟩ (fun _=>rfl) ?_
 rintro v H' ⟨rfl,rfl⟩
 refine⟨rfl,?_⟩
 refine af [] rfl ?_
 refine ae (aa (af [] rfl ?_))
 refine aC rfl (fun _=>?_) (fun h=>absurd hz h)
 refine ae (aa (af [] rfl ?_))
 exact aE [] (by decide) rfl (aB ⟨_,rfl,rfl,rfl⟩)
theorem qZ (N:bt) (hN:N.Fits) (hz:bW N≠0) (A:Option Addr) (c b o:Nat) (hA:N.arcs≠[]→A=some ⟨b,o,none⟩) (f:List Int) (F:Option Addr) (cf bf of:Nat) (hF:f≠[]→F=some ⟨bf,of,none⟩) (hf:∀ x∈f,dw x) (hfl:f.length*8≤140737488351232):
 Fn 46 [bi N A c,.slice F f.length cf] [] [.seg b o (arcs N.arcs),.seg bf of (aw f)] fun v H'=>v=.int .i64 (bW N)∧H'=[]:=by
 refine aM Tryz.func46 rfl rfl fun w0=>?_
 refine ae (aa ?_)
 refine a6 (cs:=bJ N A c) rfl rfl rfl (fun _=>rfl) fun p=>?_
 refine af [] rfl ?_
 refine ae (ae (aa ?_))
 refine ab [] (v:=bi N A c) (ad 0 rfl rfl rfl rfl) rfl ?_
 refine ah [] rfl ?_
 refine ax [] (qM N hN hz A c b o hA f F cf bf of hF hf hfl) rfl rfl rfl rfl (by kernel_rfl) ⟨⟨1,_,by simp,rfl,ak _ _ _,ap⟩,⟨2,_,by simp,rfl,ak _ _ _,ap⟩,trivial⟩ (fun _=>rfl) ?_
 rintro v H' ⟨rfl,rfl⟩
 refine⟨rfl,?_⟩
 refine af [] rfl ?_
 refine ae (aa (af [] rfl ?_))
 refine aC rfl (fun _=>?_) (fun h=>absurd hz h)
 refine ae (aa (af [] rfl ?_))
 exact aE [] (by decide) rfl (aB ⟨_,rfl,rfl,rfl⟩)
theorem t8 (N:bt) (hN:N.Fits) (hz:bW N≠0) (A:Option Addr) (c b o:Nat) (hA:N.arcs≠[]→A=some ⟨b,o,none⟩) (f:List Int) (F:Option Addr) (cf bf of:Nat) (hF:f≠[]→F=some ⟨bf,of,none⟩) (hf:∀ x∈f,dw x) (hfl:f.length*8≤140737488351232):
 Fn 59 [bi N A c,.slice F f.length cf] [] [.seg b o (arcs N.arcs),.seg bf of (aw f)] fun v H'=>v=.tuple #[.slice none 0 0,.int .i64 (bW N)]∧H'=[]:=by
 refine aM Tryz.func59 rfl rfl fun w0=>?_
 refine ae (aa ?_)
 refine a6 (cs:=bJ N A c) rfl rfl rfl (fun _=>rfl) fun p=>?_
 refine af [] rfl ?_
 refine ae (ae (aa ?_))
 refine ab [] (v:=bi N A c) (ad 0 rfl rfl rfl rfl) rfl ?_
 refine ah [] rfl ?_
 refine ax [] (qZ N hN hz A c b o hA f F cf bf of hF hf hfl) rfl rfl rfl rfl (by kernel_rfl) ⟨⟨1,_,by simp,rfl,ak _ _ _,ap⟩,⟨2,_,by simp,rfl,ak _ _ _,ap⟩,trivial⟩ (fun _=>rfl) ?_
 rintro v H' ⟨rfl,rfl⟩
 refine⟨rfl,?_⟩
 refine af [] rfl ?_
 refine ae (aa (af [] rfl ?_))
 refine aC rfl (fun _=>?_) (fun h=>absurd hz h)
 refine ae (aa (af [] rfl ?_))
 exact aE [] (by decide) rfl (aB ⟨_,rfl,rfl,rfl⟩)
theorem qe (N:bt) (hN:N.Fits) (hz:bW N≠0) (A:Option Addr) (c b o:Nat) (hA:N.arcs≠[]→A=some ⟨b,o,none⟩) (f:List Int) (F:Option Addr) (cf bf of:Nat) (hF:f≠[]→F=some ⟨bf,of,none⟩) (hf:∀ x∈f,dw x) (hfl:f.length*8≤140737488351232) (least:Int):
 Fn 65 [bi N A c,.slice F f.length cf,.int .i64 least] [] [.seg b o (arcs N.arcs),.seg bf of (aw f)] fun v H'=>v=.tuple #[.slice none 0 0,.int .i64 (bW N)]∧H'=[]:=by
 refine aM Tryz.func65 rfl rfl fun w0=>?_
 refine ae (aa ?_)
 refine a6 (cs:=bJ N A c) rfl rfl rfl (fun _=>rfl) fun p=>?_
 refine af [] rfl ?_
 refine ae (aa ?_)
 refine ab [] (v:=bi N A c) (ad 0 rfl rfl rfl rfl) rfl ?_
 refine ah [] rfl ?_
 refine ax [] (t8 N hN hz A c b o hA f F cf bf of hF hf hfl) rfl rfl rfl rfl (by kernel_rfl) ⟨⟨1,_,by simp,rfl,ak _ _ _,ap⟩,⟨2,_,by simp,rfl,ak _ _ _,ap⟩,trivial⟩ (fun _=>rfl) ?_
 rintro v H' ⟨rfl,rfl⟩
 refine⟨rfl,?_⟩
 refine af [] rfl ?_
 refine ae (au (ae (aa (af [] rfl ?_))))
 refine aC rfl (fun _=>?_) (fun h=>absurd hz h)
 refine ae (aa (af [] rfl ?_))
 exact aE [] (by decide) rfl (aB ⟨_,rfl,rfl,rfl⟩)
theorem uX (N:bt) (hN:N.Fits) (hz:bW N≠0) (A:Option Addr) (c b o:Nat) (hA:N.arcs≠[]→A=some ⟨b,o,none⟩) (f:List Int) (F:Option Addr) (cf bf of:Nat) (hF:f≠[]→F=some ⟨bf,of,none⟩) (hf:∀ x∈f,dw x) (hfl:f.length*8≤140737488351232) (least:Int):
 Fn 52 [bi N A c,.slice F f.length cf,.int .i64 least] [] [.seg b o (arcs N.arcs),.seg bf of (aw f)] fun v H'=>v=pZ (0,bW N)∧H'=[]:=by
 refine aM Tryz.func52 rfl rfl fun w0=>?_
 refine ae (aa ?_)
 refine a6 (cs:=bJ N A c) rfl rfl rfl (fun _=>rfl) fun p=>?_
 refine af [] rfl ?_
 refine ae (aa ?_)
 refine ab [] (v:=bi N A c) (ad 0 rfl rfl rfl rfl) rfl ?_
 refine ah [] rfl ?_
 refine ax [] (qe N hN hz A c b o hA f F cf bf of hF hf hfl least) rfl rfl rfl rfl (by kernel_rfl) ⟨⟨1,_,by simp,rfl,ak _ _ _,ap⟩,⟨2,_,by simp,rfl,ak _ _ _,ap⟩,trivial⟩ (fun _=>rfl) ?_
 rintro v H' ⟨rfl,rfl⟩
 refine⟨rfl,?_⟩
 refine af [] rfl ?_
 refine ae (ae (aa (af [] rfl ?_)))
 refine aC rfl (fun _=>?_) (fun h=>absurd hz h)
 refine ae (aa (af [] rfl ?_))
 exact aE [] (by decide) rfl (aB ⟨_,rfl,rfl,rfl⟩)
theorem qC {N:bt} {f:List Int} {least:Int} (hz:bW N≠0):dM N f least=bW N:=by
 have:dT N f=bW N:=by unfold dT;rw[if_pos hz]
 rw[iG (by rw[this];exact hz),this]
theorem tB {N:bt} {f:List Int} {least:Int} (hR:N.Right) (hf:¬ aT N f):dM N f least=ez N f∧ez N f≠0:=by
 have hz:ez N f≠0:=fun h=>hf (dJ.1 h)
 have:dT N f=ez N f:=by unfold dT;rw[if_neg (fun h=>h hR.check)]
 exact⟨by rw[iG (by rw[this];exact hz),this],hz⟩
end Go.Proofs.YtpbmihpjgjbndaaGreat
