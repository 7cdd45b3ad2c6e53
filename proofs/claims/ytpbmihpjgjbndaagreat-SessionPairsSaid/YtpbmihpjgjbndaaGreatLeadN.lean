/- The tracks that lead one level on, and how deep the sink is. -/
import Derived.Test.YtpbmihpjgjbndaaGreatLevelN
set_option linter.unusedVariables false
set_option linter.unusedSimpArgs false
namespace Go.Proofs.YtpbmihpjgjbndaaGreat
open Go.RowKit
def wL (N:bt) (f:List Int) (least:Int) (v:Value) (H':Heap):Prop:=
 (aT N f∧1≤least∧∃ (lv:List Int) (A':Option Addr) (c':Nat),dx N (aK (N.arcs.zip f)) least lv∧v=.tuple #[.slice A' (bo N (aK (N.arcs.zip f)) least lv (2*N.arcs.length)).length c',.int .i64 0]∧
  H'=[.own (.slice A' (bo N (aK (N.arcs.zip f)) least lv (2*N.arcs.length)).length c') 3 1 (bo N (aK (N.arcs.zip f)) least lv (2*N.arcs.length)).length (aw ((bo N (aK (N.arcs.zip f)) least lv (2*N.arcs.length)).map fun (i:Nat)=>(i:Int)))])∨
 (¬ aT N f∧v=.tuple #[.slice none 0 0,.int .i64 (ez N f)]∧H'=[])∨(aT N f∧least<1∧v=.tuple #[.slice none 0 0,.int .i64 3]∧H'=[])
def xU (N:bt) (f:List Int) (least:Int) (v:Value) (H':Heap):Prop:=
 (aT N f∧1≤least∧∃ (lv:List Int),dx N (aK (N.arcs.zip f)) least lv∧v=pZ (bT lv N.snk.toNat,0)∧H'=[])∨
 (¬ aT N f∧v=pZ (0,ez N f)∧H'=[])∨(aT N f∧least<1∧v=pZ (0,3)∧H'=[])
theorem lB {N:bt} {rm:List Int} {least:Int} {lv:List Int} (k:Nat):bo N rm least lv (k+1)=bo N rm least lv k++(if least≤rm.getD k 0∧bT lv (bU N k)≠-1∧bT lv (cH N k)=bT lv (bU N k)+1 then [k] else []):=by
 unfold bo
 rw[List.range_succ,List.filter_append]
 congr 1
 by_cases h:least≤rm.getD k 0∧bT lv (bU N k)≠-1∧bT lv (cH N k)=bT lv (bU N k)+1
 ·rw[if_pos h,List.filter_cons,if_pos (decide_eq_true h)];rfl
 ·rw[if_neg h,List.filter_cons,if_neg (by simpa using h)];rfl
theorem eA (N:bt) (rm:List Int) (least:Int) (lv:List Int) (k:Nat):(bo N rm least lv k).length≤k:=by
 unfold bo
 exact Nat.le_trans (List.length_filter_le _ _) (by simp)
theorem kG (N:bt) (hN:N.Fits) (hR:N.Right) (A:Option Addr) (c b o:Nat) (hA:N.arcs≠[]→A=some ⟨b,o,none⟩) (f:List Int) (F:Option Addr) (cf bf of:Nat) (hF:f≠[]→F=some ⟨bf,of,none⟩) (hf:∀ x∈f,dw x) (hfl:f.length*8≤140737488351232) (least:Int):
 Fn 52 [bi N A c,.slice F f.length cf,.int .i64 least] [] [.seg b o (arcs N.arcs),.seg bf of (aw f)] (xU N f least):=by
 have hnn:=hR.nodes
 have hsk:=hR.snk
 obtain⟨n,hn⟩:∃ n:Nat,N.nodes=n:=⟨N.nodes.toNat,by omega⟩
 refine aM Tryz.func52 rfl rfl fun w0=>?_
 refine ae (aa ?_)
 refine a6 (cs:=bJ N A c) rfl rfl rfl (fun _=>rfl) fun p=>?_
 refine af [] rfl ?_
 refine ae (aa ?_)
 refine ab [] (v:=bi N A c) (ad 0 rfl rfl rfl rfl) rfl ?_
 refine ah [] rfl ?_
 refine ax [] (mX N hN hR A c b o hA f F cf bf of hF hf hfl least n hn) rfl rfl rfl rfl (by kernel_rfl) ⟨⟨1,_,by simp,rfl,ak _ _ _,ap⟩,⟨2,_,by simp,rfl,ak _ _ _,ap⟩,trivial⟩ (fun _=>rfl) ?_
 rintro v H' (⟨hW,hle,lv,g,hlv,rfl,rfl⟩|⟨hW,rfl,rfl⟩|⟨hW,hle,rfl,rfl⟩)
 case inr.inl=>
  refine⟨rfl,?_⟩
  refine af [] rfl ?_
  refine ae (ae (aa (af [] rfl ?_)))
  refine aC rfl (fun h=>?_) (fun h=>absurd (dJ.1 (Classical.not_not.1 h)) hW)
  refine ae (aa (af [] rfl ?_))
  refine aE [] (by decide) rfl (aB ⟨_,rfl,.inr (.inl ⟨hW,rfl,rfl⟩)⟩)
 case inr.inr=>
  refine⟨rfl,?_⟩
  refine af [] rfl ?_
  refine ae (ae (aa (af [] rfl ?_)))
  refine aC rfl (fun h=>?_) (fun h=>absurd h (by decide))
  refine ae (aa (af [] rfl ?_))
  refine aE [] (by decide) rfl (aB ⟨_,rfl,.inr (.inr ⟨hW,hle,rfl,rfl⟩)⟩)
 refine⟨rfl,?_⟩
 refine af [] rfl ?_
 refine ae (ae (aa (af [] rfl ?_)))
 refine aC rfl (fun h=>absurd rfl h) (fun _=>aq ?_)
 have hll:=hlv.len
 refine ae (aa (ah [] rfl ?_))
 (first|refine ab [] (ad 0 rfl rfl rfl rfl) rfl ?_|refine ab [] (ad 1 rfl rfl rfl rfl) rfl ?_|refine ab [] (ad 2 rfl rfl rfl rfl) rfl ?_|refine ab [] (ad 3 rfl rfl rfl rfl) rfl ?_|refine ab [] (ad 4 rfl rfl rfl rfl) rfl ?_|refine ab [] (ad 5 rfl rfl rfl rfl) rfl ?_|refine ab [] (ad 6 rfl rfl rfl rfl) rfl ?_|refine ab [] (ad 7 rfl rfl rfl rfl) rfl ?_)
 refine av 22 (v':=.int .i64 ((N.snk.toNat:Nat):Int)) rfl (congrArg (Value.int .i64) (by omega)) ?_
 refine ab [] (aI rfl rfl rfl rfl rfl (by omega)) rfl ?_
 refine ab [] (aF 0 rfl rfl rfl (aN (eB (by omega)))) rfl ?_
 refine af [] rfl ?_
 refine aE [] (by decide) rfl (aB ⟨_,rfl,.inl ⟨hW,hle,lv,hlv,rfl,rfl⟩⟩)
set_option maxHeartbeats 1000000 in
theorem pP (N:bt) (hN:N.Fits) (hR:N.Right) (A:Option Addr) (c b o:Nat) (hA:N.arcs≠[]→A=some ⟨b,o,none⟩) (f:List Int) (F:Option Addr) (cf bf of:Nat) (hF:f≠[]→F=some ⟨bf,of,none⟩) (hf:∀ x∈f,dw x) (hfl:f.length*8≤140737488351232) (least:Int):
 Fn 99 [bi N A c,.slice F f.length cf,.int .i64 least] [] [.seg b o (arcs N.arcs),.seg bf of (aw f)] (wL N f least):=by
 have hnn:=hR.nodes
 have hsk:=hR.snk
 have hl2:=hR.len
 obtain⟨n,hn⟩:∃ n:Nat,N.nodes=n:=⟨N.nodes.toNat,by omega⟩
 refine aM Tryz.func99 rfl rfl fun w0=>?_
 refine ae (aa ?_)
 refine a6 (cs:=bJ N A c) rfl rfl rfl (fun _=>rfl) fun p=>?_
 refine af [] rfl ?_
 refine ae (aa ?_)
 refine ab [] (v:=bi N A c) (ad 0 rfl rfl rfl rfl) rfl ?_
 refine ah [] rfl ?_
 refine ax [] (mX N hN hR A c b o hA f F cf bf of hF hf hfl least n hn) rfl rfl rfl rfl (by kernel_rfl) ⟨⟨1,_,by simp,rfl,ak _ _ _,ap⟩,⟨2,_,by simp,rfl,ak _ _ _,ap⟩,trivial⟩ (fun _=>rfl) ?_
 rintro v H' (⟨hW,hle,lv,g,hlv,rfl,rfl⟩|⟨hW,rfl,rfl⟩|⟨hW,hle,rfl,rfl⟩)
 case inr.inl=>
  refine⟨rfl,?_⟩
  refine af [] rfl ?_
  refine ae (ae (aa (af [] rfl ?_)))
  refine aC rfl (fun h=>?_) (fun h=>absurd (dJ.1 (Classical.not_not.1 h)) hW)
  refine ae (aa (af [] rfl ?_))
  refine aE [] (by decide) rfl (aB ⟨_,rfl,.inr (.inl ⟨hW,rfl,rfl⟩)⟩)
 case inr.inr=>
  refine⟨rfl,?_⟩
  refine af [] rfl ?_
  refine ae (ae (aa (af [] rfl ?_)))
  refine aC rfl (fun h=>?_) (fun h=>absurd h (by decide))
  refine ae (aa (af [] rfl ?_))
  refine aE [] (by decide) rfl (aB ⟨_,rfl,.inr (.inr ⟨hW,hle,rfl,rfl⟩)⟩)
 refine⟨rfl,?_⟩
 refine af [] rfl ?_
 refine ae (ae (aa (af [] rfl ?_)))
 refine aC rfl (fun h=>absurd rfl h) (fun _=>aq ?_)
 have hll:=hlv.len
 refine ae (aa ?_)
 refine ab [] (v:=bi N A c) (ad 1 rfl rfl rfl rfl) rfl ?_
 refine ah [] rfl ?_
 refine ax [] (lI N hN hR A c b o hA f F cf bf of hF hf hfl) rfl rfl rfl rfl (by kernel_rfl) ⟨⟨2,_,by simp,rfl,ak _ _ _,ap⟩,⟨3,_,by simp,rfl,ak _ _ _,ap⟩,trivial⟩ (fun _=>rfl) ?_
 rintro v H' (⟨_,A1,c1,rfl,rfl⟩|⟨h,_,_⟩)
 case inr=>exact absurd hW h
 refine⟨rfl,?_⟩
 refine af [] rfl ?_
 unfold wL
 obtain⟨rm,hrm⟩:∃ rm,rm=aK (N.arcs.zip f):=⟨_,rfl⟩
 have hrl:rm.length=2*N.arcs.length:=by rw[hrm,b7,List.length_zip,hW.len,Nat.min_self]
 rw[← hrm] at hlv ⊢
 refine ae (aa (af [] rfl ?_))
 refine ae (ae (aa (af [] rfl ?_)))
 refine bO 3 1 ?_
 refine au ?_
 refine bu (σ:=Nat×Option Addr×Nat) (fun s=>[(35,.int .i64 s.1),(34,.int .i64 ((2*N.arcs.length:Nat):Int)),(33,.slice A1 (2*N.arcs.length) c1),(12,.slice s.2.1 (bo N rm least lv s.1).length s.2.2),(8,.slice (some ⟨g,0,none⟩) (n+1) (n+1)),(3,.pointer (some ⟨p,0,none⟩)),(2,.int .i64 least)])
  (fun s=>[.own (.slice s.2.1 (bo N rm least lv s.1).length s.2.2) 3 1 (bo N rm least lv s.1).length (aw ((bo N rm least lv s.1).map fun (i:Nat)=>(i:Int))),.own (.slice A1 (2*N.arcs.length) c1) 2 1 (2*N.arcs.length) (aw rm),.own (.slice (some ⟨g,0,none⟩) (n+1) (n+1)) 3 1 (n+1) (aw lv),blk p 50 (bJ N A c),.seg b o (arcs N.arcs)])
  (fun s=>s.1≤2*N.arcs.length) (fun s=>2*N.arcs.length-s.1) (0,none,0) [0,1,2,3,4] ⟨rfl,rfl,rfl,rfl,rfl,rfl,rfl,trivial⟩ (by decide) rfl (Nat.zero_le _) ?_
 rintro⟨k,A2,c2⟩ hk
 simp only at hk ⊢
 have hkl:=eA N rm least lv k
 refine bG (bp 1 rfl) fun ⟨_,_,hA1,_⟩=>?_
 refine ae (aa (af [] rfl ?_))
 refine ae (aC rfl (fun hlt=>aq ?_) (fun hge=>aO ?_))
 ·have hlt:k<2*N.arcs.length:=by omega
  obtain⟨g1,rfl⟩:=hA1 (by omega)
  obtain⟨te,htn1,htn2⟩:=d6 hR hlt
  obtain⟨fe,hfn1,hfn2⟩:=eD hR hlt
  obtain⟨x,hxr⟩:∃ x,rm[k]?=some x:=⟨rm[k]'(by omega),List.getElem?_eq_getElem (by omega)⟩
  have hxd:rm.getD k 0=x:=by rw[List.getD_eq_getElem?_getD,hxr];rfl
  have hws:=lB (N:=N) (rm:=rm) (least:=least) (lv:=lv) k
  obtain⟨t,ht⟩:∃ t,cH N k=t:=⟨_,rfl⟩
  obtain⟨u,hu⟩:∃ u,bU N k=u:=⟨_,rfl⟩
  rw[ht] at te htn1 htn2 hws
  rw[hu] at fe hfn1 hfn2 hws
  have hru:=hlv.rng u
  have hnext:IntKind.i64.wrap ((k:Int)+1)=((k+1:Nat):Int):=bK (by omega)
  refine ae (au ?_)
  refine ae (aa (ah [] rfl ?_))
  refine ab [] (aI rfl rfl rfl rfl rfl hlt) rfl ?_
  refine ab [] (aF 1 rfl rfl rfl (bn hxr)) rfl ?_
  refine af [] rfl ?_
  refine ae (aa ?_)
  refine ab [] (v:=bi N A c) (ad 3 rfl rfl rfl rfl) rfl ?_
  refine ah [] rfl ?_
  refine ax [] (gg N A c b o hA hl2 k hlt) rfl rfl rfl rfl (by kernel_rfl) ⟨⟨4,_,by simp,rfl,ak _ _ _,ap⟩,trivial⟩ (fun _=>rfl) ?_
  rintro v' H' ⟨rfl,rfl⟩
  refine⟨rfl,?_⟩
  refine af [] rfl ?_
  refine aV 15 (v':=.int .i64 (u:Int)) rfl (congrArg (Value.int .i64) fe) ?_
  refine aV 16 (v':=.int .i64 (t:Int)) rfl (congrArg (Value.int .i64) te) ?_
  refine dg [(67,.bool (cU (least≤rm.getD k 0∧bT lv u≠-1∧bT lv t=bT lv u+1))),(35,.int .i64 k),(34,.int .i64 ((2*N.arcs.length:Nat):Int)),(33,.slice (some ⟨g1,0,none⟩) (2*N.arcs.length) c1),(13,.int .i64 k),(12,.slice A2 (bo N rm least lv k).length c2),(8,.slice (some ⟨g,0,none⟩) (n+1) (n+1)),(3,.pointer (some ⟨p,0,none⟩)),(2,.int .i64 least)]
   [.own (.slice A2 (bo N rm least lv k).length c2) 3 1 (bo N rm least lv k).length (aw ((bo N rm least lv k).map fun (i:Nat)=>(i:Int))),.own (.slice (some ⟨g1,0,none⟩) (2*N.arcs.length) c1) 2 1 (2*N.arcs.length) (aw rm),.own (.slice (some ⟨g,0,none⟩) (n+1) (n+1)) 3 1 (n+1) (aw lv),blk p 50 (bJ N A c),.seg b o (arcs N.arcs)] ?_ ?_
  ·skip
   refine bq 22 [(0,true),(1,true),(2,true),(3,true),(4,true),(5,true),(6,true),(7,true),(8,true),(9,true),(10,true),(11,true),(12,true),(13,true),(14,true),(15,true),(16,true),(17,true),(18,true),(19,true),(20,true),(21,true)] [2] (by kernel_rfl) (by decide) rfl ?_
   refine aJ [] rfl ?_
   by_cases h1:least≤x
   ·refine bH 49 (v':=.bool true) rfl (congrArg Value.bool (az h1)) ?_
    refine aJ [3] rfl ?_
    refine ai [3] rfl (aI rfl rfl rfl rfl rfl (by omega)) rfl ?_
    refine ai [3] rfl (aF 0 rfl rfl rfl (aN (eB (by omega)))) rfl ?_
    refine aJ [3] rfl ?_
    by_cases h2:bT lv u=-1
    ·refine bH 56 (v':=.bool false) rfl (congrArg Value.bool (aA (fun h=>h h2))) ?_
     refine cA [10] rfl ?_
     refine aj ⟨[0,1,2,3,4],⟨congrArg some (congrArg Value.bool (aA (fun h=>h.2.1 h2)).symm),rfl,rfl,rfl,rfl,rfl,rfl,rfl,rfl,trivial⟩,by decide,rfl⟩
    ·refine bH 56 (v':=.bool true) rfl (congrArg Value.bool (az h2)) ?_
     refine aJ [10] rfl ?_
     refine ai [10] rfl (aI rfl rfl rfl rfl rfl (by omega)) rfl ?_
     refine ai [10] rfl (aF 0 rfl rfl rfl (aN (eB (by omega)))) rfl ?_
     refine aJ [10] rfl ?_
     refine ai [10] rfl (aI rfl rfl rfl rfl rfl (by omega)) rfl ?_
     refine ai [10] rfl (aF 0 rfl rfl rfl (aN (eB (by omega)))) rfl ?_
     refine aJ [10] rfl ?_
     refine cA [10] rfl ?_
     have hw:IntKind.i64.wrap (bT lv u+1)=bT lv u+1:=bK (by omega)
     refine aj ⟨[0,1,2,3,4],⟨congrArg some (congrArg Value.bool (db ⟨fun h=>⟨by omega,h2,by rw[hw] at h;exact h⟩,fun h=>by rw[hw];exact h.2.2⟩)),rfl,rfl,rfl,rfl,rfl,rfl,rfl,rfl,trivial⟩,by decide,rfl⟩
   ·refine bH 49 (v':=.bool false) rfl (congrArg Value.bool (aA h1)) ?_
    refine cA [3,10] rfl ?_
    refine aj ⟨[0,1,2,3,4],⟨congrArg some (congrArg Value.bool (aA (fun h=>h1 (by omega))).symm),rfl,rfl,rfl,rfl,rfl,rfl,rfl,rfl,trivial⟩,by decide,rfl⟩
  ·refine aC rfl (fun hgo=>?_) (fun hno=>aq ?_)
   ·rw[if_pos hgo] at hws
    refine aa (ah [] rfl ?_)
    refine b8 rfl rfl rfl rfl rfl rfl rfl (fun _=>rfl) fun g4=>?_
    refine a9 (n:=(bo N rm least lv k).length) (m:=1) (off:=0) (news:=aw [(k:Int)]) 1 0 rfl rfl rfl rfl rfl rfl (by decide) rfl rfl (aR g4 _ _ (0,0)) (fun _=>rfl) rfl rfl (by omega) (by omega) (fun _ _=>rfl) fun A4 c4=>?_
    rw[show (bo N rm least lv k).length+1=(bo N rm least lv (k+1)).length by rw[hws];simp,show aw ((bo N rm least lv k).map fun (i:Nat)=>(i:Int))++aw [(k:Int)]=aw ((bo N rm least lv (k+1)).map fun (i:Nat)=>(i:Int)) by rw[hws];simp[aw]]
    refine af [] rfl ?_
    refine aa (af [] rfl ?_)
    exact⟨(k+1,A4,c4),[1,2,3,4,5],⟨congrArg some (congrArg (Value.int .i64) hnext),rfl,rfl,rfl,rfl,rfl,rfl,trivial⟩,by decide,rfl,by simp only;omega,by simp only;omega⟩
   ·rw[if_neg hno,List.append_nil] at hws
    refine aa (af [] rfl ?_)
    refine⟨(k+1,A2,c2),[0,1,2,3,4],⟨congrArg some (congrArg (Value.int .i64) hnext),rfl,rfl,by simp only[hws];rfl,rfl,rfl,rfl,trivial⟩,by decide,by simp only[hws];rfl,by simp only;omega,by simp only;omega⟩
 ·obtain rfl:k=2*N.arcs.length:=by omega
  refine ae (aa (af [] rfl ?_))
  exact aE [0] (by decide) rfl (aB ⟨_,rfl,.inl ⟨hW,hle,lv,A2,c2,hlv,rfl,rfl⟩⟩)
end Go.Proofs.YtpbmihpjgjbndaaGreat
