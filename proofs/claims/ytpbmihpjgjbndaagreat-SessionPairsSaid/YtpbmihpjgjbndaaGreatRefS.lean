/- The references' words: levels, tracks that lead on, how deep the sink lies. -/
import Derived.Test.YtpbmihpjgjbndaaGreatQX27
import Derived.Test.YtpbmihpjgjbndaaGreatQX15
set_option linter.unusedVariables false
set_option linter.unusedSimpArgs false
namespace Go.Proofs.YtpbmihpjgjbndaaGreat
open Go.RowKit
def xE (N:bt) (f:List Int) (least:Int) (v:Value) (H':Heap):Prop:=
 (dM N f least=0∧∃ (n g:Nat) (lv:List Int),N.nodes=n∧dx N (aK (N.arcs.zip f)) least lv∧v=.tuple #[.slice (some ⟨g,0,none⟩) (n+1) (n+1),.int .i64 0]∧H'=[.own (.slice (some ⟨g,0,none⟩) (n+1) (n+1)) 3 1 (n+1) (aw lv)])∨
 (dM N f least≠0∧v=.tuple #[.slice none 0 0,.int .i64 (dM N f least)]∧H'=[])
set_option maxHeartbeats 2000000 in
theorem mL (N:bt) (hN:N.Fits) (A:Option Addr) (c b o:Nat) (hA:N.arcs≠[]→A=some ⟨b,o,none⟩) (f:List Int) (F:Option Addr) (cf bf of:Nat) (hF:f≠[]→F=some ⟨bf,of,none⟩) (hf:∀ x∈f,dw x) (hfl:f.length*8≤140737488351232) (least:Int):
 Fn 67 [bi N A c,.slice F f.length cf,.int .i64 least] [] [.seg b o (arcs N.arcs),.seg bf of (aw f)] (xE N f least):=by
 refine aM Tryz.func67 rfl rfl fun w0=>?_
 refine ae (aa ?_)
 refine a6 (cs:=bJ N A c) rfl rfl rfl (fun _=>rfl) fun p=>?_
 refine af [] rfl ?_
 refine ae (aa ?_)
 refine ab [] (v:=bi N A c) (ad 0 rfl rfl rfl rfl) rfl ?_
 refine ah [] rfl ?_
 refine ax [] (tw N hN A c b o hA f F cf bf of hF hf hfl least) rfl rfl rfl rfl (by kernel_rfl) ⟨⟨1,_,by simp,rfl,ak _ _ _,ap⟩,⟨2,_,by simp,rfl,ak _ _ _,ap⟩,trivial⟩ (fun _=>rfl) ?_
 rintro v H' (⟨he0,_,_,_,rfl,rfl⟩|⟨he,rfl,rfl⟩)
 case inr=>
  refine⟨rfl,?_⟩
  refine af [] rfl ?_
  refine ae (ae (aa (af [] rfl ?_)))
  refine aC rfl (fun h=>?_) (fun h=>absurd he h)
  refine ae (aa (af [] rfl ?_))
  exact aE [] (by decide) rfl (aB ⟨_,rfl,.inr ⟨he,rfl,rfl⟩⟩)
 obtain⟨hR,hW,hle⟩:=dB.1 he0
 refine⟨rfl,?_⟩
 refine af [] rfl ?_
 refine ae (ae (aa (af [] rfl ?_)))
 refine aC rfl (fun h=>absurd rfl h) (fun _=>aq ?_)
 refine ae (aa ?_)
 refine ab [] (v:=bi N A c) (ad 1 rfl rfl rfl rfl) rfl ?_
 refine ah [] rfl ?_
 refine ax [] (iZ N hN A c b o hA f F cf bf of hF hf hfl) rfl rfl rfl rfl (by kernel_rfl) ⟨⟨2,_,by simp,rfl,ak _ _ _,ap⟩,⟨3,_,by simp,rfl,ak _ _ _,ap⟩,trivial⟩ (fun _=>rfl) ?_
 rintro v H' (⟨_,_,A1,c1,rfl,rfl⟩|⟨hw,rfl,rfl⟩)
 case inr=>exact absurd (dH.2 ⟨hR,hW⟩) hw
 refine⟨rfl,?_⟩
 refine af [] rfl ?_
 have hnn:=hR.nodes
 have hsr:=hR.src
 have hl2:=hR.len
 obtain⟨n,hn⟩:∃ n:Nat,N.nodes=n:=⟨N.nodes.toNat,by omega⟩
 obtain⟨s0,hs0⟩:∃ s0:Nat,N.src=s0:=⟨N.src.toNat,by omega⟩
 have hn':N.nodes.toNat=n:=by omega
 have hs':N.src.toNat=s0:=by omega
 obtain⟨rm,hrm⟩:∃ rm,rm=aK (N.arcs.zip f):=⟨_,rfl⟩
 have hrl:rm.length=2*N.arcs.length:=by rw[hrm,b7,List.length_zip,hW.len,Nat.min_self]
 rw[← hrm]
 refine bG (bp 0 rfl) fun ⟨_,_,hA1,hla⟩=>?_
 obtain⟨gr,hA1⟩:=bQ hA1 hla
 refine ae (aa (ah [] rfl ?_))
 refine ab [] (v:=.int .i64 N.nodes) (ad 2 rfl rfl rfl rfl) rfl ?_
 refine ao (gs:=[999]) rfl ?_
 refine av 36 (v':=.int .i64 ((n+1:Nat):Int)) rfl (congrArg (Value.int .i64) ((bK (n:=N.nodes+1) (by omega)).trans (by omega))) ?_
 refine cv (n:=n+1) (c:=n+1) rfl rfl rfl rfl rfl rfl (by omega) (by omega) (by omega) (fun _=>rfl) fun g=>?_
 refine af [] rfl ?_
 rw[show made [Value.int .i64 0] ((n+1)*1)=aw (List.replicate (n+1) 0) by rw[ce,Nat.mul_one];simp[aw]]
 refine ae (ae (aa (af [] rfl ?_)))
 refine au ?_
 refine bM (σ:=Nat) (fun k=>[(13,.int .i64 (k:Int)),(12,.slice (some ⟨g,0,none⟩) (n+1) (n+1)),(10,.slice A1 (2*N.arcs.length) c1),(3,.pointer (some ⟨p,0,none⟩)),(2,.int .i64 least)])
  (fun k=>[.own (.slice (some ⟨g,0,none⟩) (n+1) (n+1)) 3 1 (n+1) (aw (List.replicate k (-1)++List.replicate (n+1-k) 0)),.own (.slice A1 (2*N.arcs.length) c1) 2 1 (2*N.arcs.length) (aw rm),blk p 50 (bJ N A c),.seg b o (arcs N.arcs),.seg bf of (aw f)])
  (fun k=>k≤n+1) (fun k=>n+1-k) 0 ⟨rfl,rfl,rfl,rfl,rfl,trivial⟩ (aH.picks [0,1,3,4,5] (by decide) rfl) (Nat.zero_le _) ?_
 intro k hk
 refine ae (ae (aa (af [] rfl ?_)))
 refine aC rfl (fun hlt=>aq ?_) (fun hge=>aO ?_)
 ·have hlt:k<n+1:=by omega
  refine ae (au ?_)
  refine aa (ah [] rfl ?_)
  refine ab [] (aI rfl rfl rfl rfl rfl hlt) rfl ?_
  refine aG 0 rfl rfl rfl rfl (du rfl (by simp;omega)) [] rfl ?_
  refine aj ?_
  refine aa (af [] rfl ?_)
  refine⟨k+1,⟨congrArg some (congrArg (Value.int .i64) (bK (n:=(k:Int)+1) (by omega))),rfl,rfl,rfl,rfl,trivial⟩,?_,hlt,by omega⟩
  rw[show List.replicate (k+1) (-1:Int)++List.replicate (n+1-(k+1)) 0=(List.replicate k (-1)++List.replicate (n+1-k) 0).set k (-1) by
   rw[List.set_append_right _ _ (by simp),List.length_replicate,Nat.sub_self,show n+1-k=(n+1-(k+1))+1 by omega,List.replicate_succ (n:=n+1-(k+1)),List.set_cons_zero,List.replicate_succ' (n:=k),List.append_assoc]
   rfl]
  exact aH.refl
 obtain rfl:k=n+1:=by omega
 rw[Nat.sub_self,List.replicate_zero,List.append_nil]
 refine ae (aa (ah [] rfl ?_))
 refine ab [] (v:=.int .i64 N.src) (ad 2 rfl rfl rfl rfl) rfl ?_
 refine av 49 (v':=.int .i64 (s0:Int)) rfl (congrArg (Value.int .i64) hs0) ?_
 refine ab [] (aI rfl rfl rfl rfl rfl (show s0<n+1 by omega)) rfl ?_
 refine aG 0 rfl rfl rfl rfl (du rfl (by simp;omega)) [] rfl ?_
 refine aj ?_
 have hRV:=RV.init (rm:=rm) (least:=least) hR
 rw[hn',hs'] at hRV
 refine ae (ae (aa (af [] rfl ?_)))
 refine au ?_
 refine bM (σ:=Nat×List Int) (fun s=>[(14,.int .i64 (s.1:Int)),(12,.slice (some ⟨g,0,none⟩) (n+1) (n+1)),(10,.slice A1 (2*N.arcs.length) c1),(3,.pointer (some ⟨p,0,none⟩)),(2,.int .i64 least)])
  (fun s=>[.own (.slice (some ⟨g,0,none⟩) (n+1) (n+1)) 3 1 (n+1) (aw s.2),.own (.slice A1 (2*N.arcs.length) c1) 2 1 (2*N.arcs.length) (aw rm),blk p 50 (bJ N A c),.seg b o (arcs N.arcs),.seg bf of (aw f)])
  (fun s=>s.1≤n∧RV N rm least s.1 0 s.2) (fun s=>n-s.1) (0,_) ⟨rfl,rfl,rfl,rfl,rfl,trivial⟩ aH.refl ⟨Nat.zero_le _,hRV⟩ ?_
 rintro⟨k,lv⟩ ⟨hk,hV⟩
 simp only at hk hV ⊢
 refine ae (ae (aa (ah [] rfl ?_)))
 refine ab [] (v:=.int .i64 N.nodes) (ad 2 rfl rfl rfl rfl) rfl ?_
 refine af [] rfl ?_
 refine aC rfl (fun hlt=>aq ?_) (fun hge=>aO ?_)
 case _=>
  refine ae (au ?_)
  refine ae (aa (af [] rfl ?_))
  refine au ?_
  refine bM (σ:=Nat×List Int) (fun s=>[(15,.int .i64 (s.1:Int)),(14,.int .i64 (k:Int)),(12,.slice (some ⟨g,0,none⟩) (n+1) (n+1)),(10,.slice A1 (2*N.arcs.length) c1),(3,.pointer (some ⟨p,0,none⟩)),(2,.int .i64 least)])
   (fun s=>[.own (.slice (some ⟨g,0,none⟩) (n+1) (n+1)) 3 1 (n+1) (aw s.2),.own (.slice A1 (2*N.arcs.length) c1) 2 1 (2*N.arcs.length) (aw rm),blk p 50 (bJ N A c),.seg b o (arcs N.arcs),.seg bf of (aw f)])
   (fun s=>s.1≤2*N.arcs.length∧RV N rm least k s.1 s.2) (fun s=>2*N.arcs.length-s.1) (0,lv) ⟨rfl,rfl,rfl,rfl,rfl,rfl,trivial⟩ aH.refl ⟨Nat.zero_le _,hV⟩ ?_
  rintro⟨j,lw⟩ ⟨hj,hU⟩
  simp only at hj hU ⊢
  refine ae (ae (aa (af [] rfl ?_)))
  refine aC rfl (fun hlt2=>aq ?_) (fun hge=>aO ?_)
  ·have hjl:j<2*N.arcs.length:=by omega
   obtain⟨e1,f1,f2⟩:=eD hR hjl
   obtain⟨e2,t1,t2⟩:=d6 hR hjl
   have hE:cL N j=((bU N j:Int),(cH N j:Int)):=Prod.ext e1 e2
   have T:=i6 N A c b o hA hl2 j hjl
   rw[hE] at T
   have hlw:=hU.len
   obtain⟨x,hx⟩:∃ x,rm[j]?=some x:=⟨rm[j]'(by omega),List.getElem?_eq_getElem (by omega)⟩
   have hxd:rm.getD j 0=x:=by rw[List.getD_eq_getElem?_getD,hx];rfl
   have hl1:=eB (lv:=lw) (v:=bU N j) (by omega)
   have hl3:=eB (lv:=lw) (v:=cH N j) (by omega)
   obtain rfl:=hA1 (by
    intro h0
    have h5:(aw rm).length=0:=by rw[h0];rfl
    rw[bh] at h5
    omega)
   have hq:IntKind.i64.wrap ((j:Int)+1)=((j+1:Nat):Int):=bK (by omega)
   refine ae (au ?_)
   refine ae (aa ?_)
   refine ab [] (v:=bi N A c) (ad 2 rfl rfl rfl rfl) rfl ?_
   refine ah [] rfl ?_
   refine ax [] T rfl rfl rfl rfl (by kernel_rfl) ⟨⟨3,_,by simp,rfl,ak _ _ _,ap⟩,trivial⟩ (fun _=>rfl) ?_
   rintro v H' ⟨rfl,rfl⟩
   refine⟨rfl,?_⟩
   refine af [] rfl ?_
   refine dg [(89,.bool (cU (least≤x∧bT lw (bU N j)=k∧bT lw (cH N j)<0))),(17,.int .i64 (cH N j:Int)),(15,.int .i64 (j:Int)),(14,.int .i64 (k:Int)),(12,.slice (some ⟨g,0,none⟩) (n+1) (n+1)),(10,.slice (some ⟨gr,0,none⟩) (2*N.arcs.length) c1),(3,.pointer (some ⟨p,0,none⟩)),(2,.int .i64 least)]
    [.own (.slice (some ⟨g,0,none⟩) (n+1) (n+1)) 3 1 (n+1) (aw lw),.own (.slice (some ⟨gr,0,none⟩) (2*N.arcs.length) c1) 2 1 (2*N.arcs.length) (aw rm),blk p 50 (bJ N A c),.seg b o (arcs N.arcs),.seg bf of (aw f)] ?_ ?_
   ·skip
    refine aa (ah [] rfl ?_)
    refine ab [] (aI rfl rfl rfl rfl rfl hjl) rfl ?_
    refine ab [] (aF 1 rfl rfl rfl (bn hx)) rfl ?_
    refine ao (gs:=[999]) rfl ?_
    refine ao (gs:=[999]) rfl ?_
    refine ao (gs:=[999]) rfl ?_
    by_cases h1:least≤x
    case neg=>
     refine av 75 (v':=.bool false) rfl (congrArg Value.bool (aA h1)) ?_
     refine af [6,14] rfl ?_
     exact⟨[0,1,2,3,4],⟨congrArg some (congrArg Value.bool (aA (fun h=>h1 h.1)).symm),rfl,rfl,rfl,rfl,rfl,rfl,rfl,trivial⟩,by decide,rfl⟩
    refine av 75 (v':=.bool true) rfl (congrArg Value.bool (az h1)) ?_
    refine ah [6] rfl ?_
    refine ab [6] (aI rfl rfl rfl rfl rfl (show bU N j<n+1 by omega)) rfl ?_
    refine ab [6] (aF 0 rfl rfl rfl (aN hl1)) rfl ?_
    refine ah [6] rfl ?_
    by_cases h2:bT lw (bU N j)=k
    case neg=>
     refine av 83 (v':=.bool false) rfl (congrArg Value.bool (aA h2)) ?_
     refine af [6,14] rfl ?_
     exact⟨[0,1,2,3,4],⟨congrArg some (congrArg Value.bool (aA (fun h=>h2 h.2.1)).symm),rfl,rfl,rfl,rfl,rfl,rfl,rfl,trivial⟩,by decide,rfl⟩
    refine av 83 (v':=.bool true) rfl (congrArg Value.bool (az h2)) ?_
    refine ah [6,14] rfl ?_
    refine ab [6,14] (aI rfl rfl rfl rfl rfl (show cH N j<n+1 by omega)) rfl ?_
    refine ab [6,14] (aF 0 rfl rfl rfl (aN hl3)) rfl ?_
    refine af [6,14] rfl ?_
    exact⟨[0,1,2,3,4],⟨congrArg some (congrArg Value.bool (db ⟨fun h=>⟨h1,h2,h⟩,fun h=>h.2.2⟩)),rfl,rfl,rfl,rfl,rfl,rfl,rfl,trivial⟩,by decide,rfl⟩
   ·refine aC rfl (fun h1=>?_) (fun h1=>aq ?_)
    ·skip
     refine aa (ah [] rfl ?_)
     refine av 93 (v':=.int .i64 ((k:Int)+1)) rfl (congrArg (Value.int .i64) (bK (by omega))) ?_
     refine ab [] (aI rfl rfl rfl rfl rfl (show cH N j<n+1 by omega)) rfl ?_
     refine aG 0 rfl rfl rfl rfl (du rfl (by omega)) [] rfl ?_
     refine aj ?_
     refine aa (af [] rfl ?_)
     exact⟨(j+1,lw.set (cH N j) ((k:Int)+1)),⟨congrArg some (congrArg (Value.int .i64) hq),rfl,rfl,rfl,rfl,rfl,trivial⟩,aH.refl,⟨hjl,hU.put hR hjl (by omega) h1.2.1 h1.2.2⟩,by simp only;omega⟩
    ·skip
     refine aa (af [] rfl ?_)
     exact⟨(j+1,lw),⟨congrArg some (congrArg (Value.int .i64) hq),rfl,rfl,rfl,rfl,rfl,trivial⟩,aH.refl,⟨hjl,hU.keep (by rw[hxd];exact h1)⟩,by simp only;omega⟩
  ·obtain rfl:j=2*N.arcs.length:=by omega
   refine aa (af [] rfl ?_)
   exact⟨(k+1,lw),⟨congrArg some (congrArg (Value.int .i64) (bK (n:=(k:Int)+1) (by omega))),rfl,rfl,rfl,rfl,trivial⟩,aH.refl,⟨by omega,hU.round⟩,by simp only;omega⟩
 obtain rfl:k=n:=by omega
 refine ae (aa (af [] rfl ?_))
 refine bN (K:=[.own (.slice (some ⟨g,0,none⟩) (k+1) (k+1)) 3 1 (k+1) (aw lv)]) (aH.picks [0] (by decide) rfl) ?_
 refine aE [0] (by decide) rfl (aB ⟨_,rfl,.inl ⟨he0,k,g,lv,hn,?_,rfl,rfl⟩⟩)
 rw[← hrm]
 rw[← hn'] at hV
 exact hV.lev hR
end Go.Proofs.YtpbmihpjgjbndaaGreat
