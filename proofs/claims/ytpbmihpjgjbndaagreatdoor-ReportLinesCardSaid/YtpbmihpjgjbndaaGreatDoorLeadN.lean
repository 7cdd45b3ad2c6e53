/- The tracks that lead one level on, and how deep the sink is. -/
import Derived.Test.YtpbmihpjgjbndaaGreatDoorLevelN
set_option linter.unusedVariables false
set_option linter.unusedSimpArgs false
namespace Go.Proofs.YtpbmihpjgjbndaaGreatDoor
open Go.RowKit
def yj (N:a8) (f:List Int) (least:Int) (v:Value) (H':Heap):Prop:=
 (aH N f∧1≤least∧∃ (lv:List Int) (A':Option Addr) (c':Nat),dr N (aM (N.arcs.zip f)) least lv∧v=.tuple #[.slice A' (bJ N (aM (N.arcs.zip f)) least lv (2*N.arcs.length)).length c',.int .i64 0]∧
  H'=[.own (.slice A' (bJ N (aM (N.arcs.zip f)) least lv (2*N.arcs.length)).length c') 3 1 (bJ N (aM (N.arcs.zip f)) least lv (2*N.arcs.length)).length (ap ((bJ N (aM (N.arcs.zip f)) least lv (2*N.arcs.length)).map fun (i:Nat)=>(i:Int)))])∨
 (¬ aH N f∧v=.tuple #[.slice none 0 0,.int .i64 (eO N f)]∧H'=[])∨(aH N f∧least<1∧v=.tuple #[.slice none 0 0,.int .i64 3]∧H'=[])
def zm (N:a8) (f:List Int) (least:Int) (v:Value) (H':Heap):Prop:=
 (aH N f∧1≤least∧∃ (lv:List Int),dr N (aM (N.arcs.zip f)) least lv∧v=sJ (bZ lv N.snk.toNat,0)∧H'=[])∨
 (¬ aH N f∧v=sJ (0,eO N f)∧H'=[])∨(aH N f∧least<1∧v=sJ (0,3)∧H'=[])
theorem qv {N:a8} {rm:List Int} {least:Int} {lv:List Int} (k:Nat):bJ N rm least lv (k+1)=bJ N rm least lv k++(if least≤rm.getD k 0∧bZ lv (cU N k)≠-1∧bZ lv (d9 N k)=bZ lv (cU N k)+1 then [k] else []):=by
 unfold bJ
 rw[List.range_succ,List.filter_append]
 congr 1
 by_cases h:least≤rm.getD k 0∧bZ lv (cU N k)≠-1∧bZ lv (d9 N k)=bZ lv (cU N k)+1
 ·rw[if_pos h,List.filter_cons,if_pos (decide_eq_true h)];rfl
 ·rw[if_neg h,List.filter_cons,if_neg (by simpa using h)];rfl
theorem gQ (N:a8) (rm:List Int) (least:Int) (lv:List Int) (k:Nat):(bJ N rm least lv k).length≤k:=by
 unfold bJ
 exact Nat.le_trans (List.length_filter_le _ _) (by simp)
theorem l7 (N:a8) (hN:N.Fits) (hR:N.Right) (A:Option Addr) (c b o:Nat) (hA:N.arcs≠[]→A=some ⟨b,o,none⟩) (f:List Int) (F:Option Addr) (cf bf of:Nat) (hF:f≠[]→F=some ⟨bf,of,none⟩) (hf:∀ x∈f,bN x) (hfl:f.length*8≤140737488351232) (least:Int):
 Fn 80 [bu N A c,.slice F f.length cf,.int .i64 least] [] [.seg b o (arcs N.arcs),.seg bf of (ap f)] (zm N f least):=by
 have hnn:=hR.nodes
 have hsk:=hR.snk
 obtain⟨n,hn⟩:∃ n:Nat,N.nodes=n:=⟨N.nodes.toNat,by omega⟩
 refine aS Tryz.func80 rfl rfl fun w0=>?_
 refine ad (aa ?_)
 refine bw (cs:=bG N A c) rfl rfl rfl (fun _=>rfl) fun p=>?_
 refine ae [] rfl ?_
 refine ad (aa ?_)
 refine ab [] (v:=bu N A c) (af 0 rfl rfl rfl rfl) rfl ?_
 refine ah [] rfl ?_
 refine ax [] (nY N hN hR A c b o hA f F cf bf of hF hf hfl least n hn) rfl rfl rfl rfl (by kernel_rfl) ⟨⟨1,_,by simp,rfl,aq _ _ _,ay⟩,⟨2,_,by simp,rfl,aq _ _ _,ay⟩,trivial⟩ (fun _=>rfl) ?_
 rintro v H' (⟨hW,hle,lv,g,hlv,rfl,rfl⟩|⟨hW,rfl,rfl⟩|⟨hW,hle,rfl,rfl⟩)
 case inr.inl=>
  refine⟨rfl,?_⟩
  refine ae [] rfl ?_
  refine ad (ad (aa (ae [] rfl ?_)))
  refine aC rfl (fun h=>?_) (fun h=>absurd (cK.1 (Classical.not_not.1 h)) hW)
  refine ad (aa (ae [] rfl ?_))
  refine aE [] (by decide) rfl (aB ⟨_,rfl,.inr (.inl ⟨hW,rfl,rfl⟩)⟩)
 case inr.inr=>
  refine⟨rfl,?_⟩
  refine ae [] rfl ?_
  refine ad (ad (aa (ae [] rfl ?_)))
  refine aC rfl (fun h=>?_) (fun h=>absurd h (by decide))
  refine ad (aa (ae [] rfl ?_))
  refine aE [] (by decide) rfl (aB ⟨_,rfl,.inr (.inr ⟨hW,hle,rfl,rfl⟩)⟩)
 refine⟨rfl,?_⟩
 refine ae [] rfl ?_
 refine ad (ad (aa (ae [] rfl ?_)))
 refine aC rfl (fun h=>absurd rfl h) (fun _=>av ?_)
 have hll:=hlv.len
 refine ad (aa (ah [] rfl ?_))
 (first|refine ab [] (af 0 rfl rfl rfl rfl) rfl ?_|refine ab [] (af 1 rfl rfl rfl rfl) rfl ?_|refine ab [] (af 2 rfl rfl rfl rfl) rfl ?_|refine ab [] (af 3 rfl rfl rfl rfl) rfl ?_|refine ab [] (af 4 rfl rfl rfl rfl) rfl ?_|refine ab [] (af 5 rfl rfl rfl rfl) rfl ?_|refine ab [] (af 6 rfl rfl rfl rfl) rfl ?_|refine ab [] (af 7 rfl rfl rfl rfl) rfl ?_)
 refine aw 22 (v':=.int .i64 ((N.snk.toNat:Nat):Int)) rfl (congrArg (Value.int .i64) (by omega)) ?_
 refine ab [] (aJ rfl rfl rfl rfl rfl (by omega)) rfl ?_
 refine ab [] (aD 0 rfl rfl rfl (df (iV (by omega)))) rfl ?_
 refine ae [] rfl ?_
 refine aE [] (by decide) rfl (aB ⟨_,rfl,.inl ⟨hW,hle,lv,hlv,rfl,rfl⟩⟩)
set_option maxHeartbeats 1000000 in
theorem pY (N:a8) (hN:N.Fits) (hR:N.Right) (A:Option Addr) (c b o:Nat) (hA:N.arcs≠[]→A=some ⟨b,o,none⟩) (f:List Int) (F:Option Addr) (cf bf of:Nat) (hF:f≠[]→F=some ⟨bf,of,none⟩) (hf:∀ x∈f,bN x) (hfl:f.length*8≤140737488351232) (least:Int):
 Fn 237 [bu N A c,.slice F f.length cf,.int .i64 least] [] [.seg b o (arcs N.arcs),.seg bf of (ap f)] (yj N f least):=by
 have hnn:=hR.nodes
 have hsk:=hR.snk
 have hl2:=hR.len
 obtain⟨n,hn⟩:∃ n:Nat,N.nodes=n:=⟨N.nodes.toNat,by omega⟩
 refine aS Tryz.func237 rfl rfl fun w0=>?_
 refine ad (aa ?_)
 refine bw (cs:=bG N A c) rfl rfl rfl (fun _=>rfl) fun p=>?_
 refine ae [] rfl ?_
 refine ad (aa ?_)
 refine ab [] (v:=bu N A c) (af 0 rfl rfl rfl rfl) rfl ?_
 refine ah [] rfl ?_
 refine ax [] (nY N hN hR A c b o hA f F cf bf of hF hf hfl least n hn) rfl rfl rfl rfl (by kernel_rfl) ⟨⟨1,_,by simp,rfl,aq _ _ _,ay⟩,⟨2,_,by simp,rfl,aq _ _ _,ay⟩,trivial⟩ (fun _=>rfl) ?_
 rintro v H' (⟨hW,hle,lv,g,hlv,rfl,rfl⟩|⟨hW,rfl,rfl⟩|⟨hW,hle,rfl,rfl⟩)
 case inr.inl=>
  refine⟨rfl,?_⟩
  refine ae [] rfl ?_
  refine ad (ad (aa (ae [] rfl ?_)))
  refine aC rfl (fun h=>?_) (fun h=>absurd (cK.1 (Classical.not_not.1 h)) hW)
  refine ad (aa (ae [] rfl ?_))
  refine aE [] (by decide) rfl (aB ⟨_,rfl,.inr (.inl ⟨hW,rfl,rfl⟩)⟩)
 case inr.inr=>
  refine⟨rfl,?_⟩
  refine ae [] rfl ?_
  refine ad (ad (aa (ae [] rfl ?_)))
  refine aC rfl (fun h=>?_) (fun h=>absurd h (by decide))
  refine ad (aa (ae [] rfl ?_))
  refine aE [] (by decide) rfl (aB ⟨_,rfl,.inr (.inr ⟨hW,hle,rfl,rfl⟩)⟩)
 refine⟨rfl,?_⟩
 refine ae [] rfl ?_
 refine ad (ad (aa (ae [] rfl ?_)))
 refine aC rfl (fun h=>absurd rfl h) (fun _=>av ?_)
 have hll:=hlv.len
 refine ad (aa ?_)
 refine ab [] (v:=bu N A c) (af 1 rfl rfl rfl rfl) rfl ?_
 refine ah [] rfl ?_
 refine ax [] (kq N hN hR A c b o hA f F cf bf of hF hf hfl) rfl rfl rfl rfl (by kernel_rfl) ⟨⟨2,_,by simp,rfl,aq _ _ _,ay⟩,⟨3,_,by simp,rfl,aq _ _ _,ay⟩,trivial⟩ (fun _=>rfl) ?_
 rintro v H' (⟨_,A1,c1,rfl,rfl⟩|⟨h,_,_⟩)
 case inr=>exact absurd hW h
 refine⟨rfl,?_⟩
 refine ae [] rfl ?_
 unfold yj
 obtain⟨rm,hrm⟩:∃ rm,rm=aM (N.arcs.zip f):=⟨_,rfl⟩
 have hrl:rm.length=2*N.arcs.length:=by rw[hrm,cv,List.length_zip,hW.len,Nat.min_self]
 rw[← hrm] at hlv ⊢
 refine ad (aa (ae [] rfl ?_))
 refine ad (ad (aa (ae [] rfl ?_)))
 refine cC 3 1 ?_
 refine au ?_
 refine bq (σ:=Nat×Option Addr×Nat) (fun s=>[(35,.int .i64 s.1),(34,.int .i64 ((2*N.arcs.length:Nat):Int)),(33,.slice A1 (2*N.arcs.length) c1),(12,.slice s.2.1 (bJ N rm least lv s.1).length s.2.2),(8,.slice (some ⟨g,0,none⟩) (n+1) (n+1)),(3,.pointer (some ⟨p,0,none⟩)),(2,.int .i64 least)])
  (fun s=>[.own (.slice s.2.1 (bJ N rm least lv s.1).length s.2.2) 3 1 (bJ N rm least lv s.1).length (ap ((bJ N rm least lv s.1).map fun (i:Nat)=>(i:Int))),.own (.slice A1 (2*N.arcs.length) c1) 2 1 (2*N.arcs.length) (ap rm),.own (.slice (some ⟨g,0,none⟩) (n+1) (n+1)) 3 1 (n+1) (ap lv),blk p 27 (bG N A c),.seg b o (arcs N.arcs)])
  (fun s=>s.1≤2*N.arcs.length) (fun s=>2*N.arcs.length-s.1) (0,none,0) [0,1,2,3,4] ⟨rfl,rfl,rfl,rfl,rfl,rfl,rfl,trivial⟩ (by decide) rfl (Nat.zero_le _) ?_
 rintro⟨k,A2,c2⟩ hk
 simp only at hk ⊢
 have hkl:=gQ N rm least lv k
 refine bO (bh 1 rfl) fun ⟨_,_,hA1,_⟩=>?_
 refine ad (aa (ae [] rfl ?_))
 refine ad (aC rfl (fun hlt=>av ?_) (fun hge=>aV ?_))
 ·have hlt:k<2*N.arcs.length:=by omega
  obtain⟨g1,rfl⟩:=hA1 (by omega)
  obtain⟨te,htn1,htn2⟩:=fu hR hlt
  obtain⟨fe,hfn1,hfn2⟩:=i7 hR hlt
  obtain⟨x,hxr⟩:∃ x,rm[k]?=some x:=⟨rm[k]'(by omega),List.getElem?_eq_getElem (by omega)⟩
  have hxd:rm.getD k 0=x:=by rw[List.getD_eq_getElem?_getD,hxr];rfl
  have hws:=qv (N:=N) (rm:=rm) (least:=least) (lv:=lv) k
  obtain⟨t,ht⟩:∃ t,d9 N k=t:=⟨_,rfl⟩
  obtain⟨u,hu⟩:∃ u,cU N k=u:=⟨_,rfl⟩
  rw[ht] at te htn1 htn2 hws
  rw[hu] at fe hfn1 hfn2 hws
  have hru:=hlv.rng u
  have hnext:IntKind.i64.wrap ((k:Int)+1)=((k+1:Nat):Int):=bU (by omega)
  refine ad (au ?_)
  refine ad (aa (ah [] rfl ?_))
  refine ab [] (aJ rfl rfl rfl rfl rfl hlt) rfl ?_
  refine ab [] (aD 1 rfl rfl rfl (a9 hxr)) rfl ?_
  refine ae [] rfl ?_
  refine ad (aa ?_)
  refine ab [] (v:=bu N A c) (af 3 rfl rfl rfl rfl) rfl ?_
  refine ah [] rfl ?_
  refine ax [] (e6 N A c b o hA hl2 k hlt) rfl rfl rfl rfl (by kernel_rfl) ⟨⟨4,_,by simp,rfl,aq _ _ _,ay⟩,trivial⟩ (fun _=>rfl) ?_
  rintro v' H' ⟨rfl,rfl⟩
  refine⟨rfl,?_⟩
  refine ae [] rfl ?_
  refine aP 15 (v':=.int .i64 (u:Int)) rfl (congrArg (Value.int .i64) fe) ?_
  refine aP 16 (v':=.int .i64 (t:Int)) rfl (congrArg (Value.int .i64) te) ?_
  refine d7 [(67,.bool (dI (least≤rm.getD k 0∧bZ lv u≠-1∧bZ lv t=bZ lv u+1))),(35,.int .i64 k),(34,.int .i64 ((2*N.arcs.length:Nat):Int)),(33,.slice (some ⟨g1,0,none⟩) (2*N.arcs.length) c1),(13,.int .i64 k),(12,.slice A2 (bJ N rm least lv k).length c2),(8,.slice (some ⟨g,0,none⟩) (n+1) (n+1)),(3,.pointer (some ⟨p,0,none⟩)),(2,.int .i64 least)]
   [.own (.slice A2 (bJ N rm least lv k).length c2) 3 1 (bJ N rm least lv k).length (ap ((bJ N rm least lv k).map fun (i:Nat)=>(i:Int))),.own (.slice (some ⟨g1,0,none⟩) (2*N.arcs.length) c1) 2 1 (2*N.arcs.length) (ap rm),.own (.slice (some ⟨g,0,none⟩) (n+1) (n+1)) 3 1 (n+1) (ap lv),blk p 27 (bG N A c),.seg b o (arcs N.arcs)] ?_ ?_
  ·skip
   refine bp 22 [(0,true),(1,true),(2,true),(3,true),(4,true),(5,true),(6,true),(7,true),(8,true),(9,true),(10,true),(11,true),(12,true),(13,true),(14,true),(15,true),(16,true),(17,true),(18,true),(19,true),(20,true),(21,true)] [2] (by kernel_rfl) (by decide) rfl ?_
   refine aF [] rfl ?_
   by_cases h1:least≤x
   ·refine cE 49 (v':=.bool true) rfl (congrArg Value.bool (az h1)) ?_
    refine aF [3] rfl ?_
    refine aj [3] rfl (aJ rfl rfl rfl rfl rfl (by omega)) rfl ?_
    refine aj [3] rfl (aD 0 rfl rfl rfl (df (iV (by omega)))) rfl ?_
    refine aF [3] rfl ?_
    by_cases h2:bZ lv u=-1
    ·refine cE 56 (v':=.bool false) rfl (congrArg Value.bool (aA (fun h=>h h2))) ?_
     refine dW [10] rfl ?_
     refine ai ⟨[0,1,2,3,4],⟨congrArg some (congrArg Value.bool (aA (fun h=>h.2.1 h2)).symm),rfl,rfl,rfl,rfl,rfl,rfl,rfl,rfl,trivial⟩,by decide,rfl⟩
    ·refine cE 56 (v':=.bool true) rfl (congrArg Value.bool (az h2)) ?_
     refine aF [10] rfl ?_
     refine aj [10] rfl (aJ rfl rfl rfl rfl rfl (by omega)) rfl ?_
     refine aj [10] rfl (aD 0 rfl rfl rfl (df (iV (by omega)))) rfl ?_
     refine aF [10] rfl ?_
     refine aj [10] rfl (aJ rfl rfl rfl rfl rfl (by omega)) rfl ?_
     refine aj [10] rfl (aD 0 rfl rfl rfl (df (iV (by omega)))) rfl ?_
     refine aF [10] rfl ?_
     refine dW [10] rfl ?_
     have hw:IntKind.i64.wrap (bZ lv u+1)=bZ lv u+1:=bU (by omega)
     refine ai ⟨[0,1,2,3,4],⟨congrArg some (congrArg Value.bool (d8 ⟨fun h=>⟨by omega,h2,by rw[hw] at h;exact h⟩,fun h=>by rw[hw];exact h.2.2⟩)),rfl,rfl,rfl,rfl,rfl,rfl,rfl,rfl,trivial⟩,by decide,rfl⟩
   ·refine cE 49 (v':=.bool false) rfl (congrArg Value.bool (aA h1)) ?_
    refine dW [3,10] rfl ?_
    refine ai ⟨[0,1,2,3,4],⟨congrArg some (congrArg Value.bool (aA (fun h=>h1 (by omega))).symm),rfl,rfl,rfl,rfl,rfl,rfl,rfl,rfl,trivial⟩,by decide,rfl⟩
  ·refine aC rfl (fun hgo=>?_) (fun hno=>av ?_)
   ·rw[if_pos hgo] at hws
    refine aa (ah [] rfl ?_)
    refine bK rfl rfl rfl rfl rfl rfl rfl (fun _=>rfl) fun g4=>?_
    refine be (n:=(bJ N rm least lv k).length) (m:=1) (off:=0) (news:=ap [(k:Int)]) 1 0 rfl rfl rfl rfl rfl rfl (by decide) rfl rfl (aL g4 _ _ (0,0)) (fun _=>rfl) rfl rfl (by omega) (by omega) (fun _ _=>rfl) fun A4 c4=>?_
    rw[show (bJ N rm least lv k).length+1=(bJ N rm least lv (k+1)).length by rw[hws];simp,show ap ((bJ N rm least lv k).map fun (i:Nat)=>(i:Int))++ap [(k:Int)]=ap ((bJ N rm least lv (k+1)).map fun (i:Nat)=>(i:Int)) by rw[hws];simp[ap]]
    refine ae [] rfl ?_
    refine aa (ae [] rfl ?_)
    exact⟨(k+1,A4,c4),[1,2,3,4,5],⟨congrArg some (congrArg (Value.int .i64) hnext),rfl,rfl,rfl,rfl,rfl,rfl,trivial⟩,by decide,rfl,by simp only;omega,by simp only;omega⟩
   ·rw[if_neg hno,List.append_nil] at hws
    refine aa (ae [] rfl ?_)
    refine⟨(k+1,A2,c2),[0,1,2,3,4],⟨congrArg some (congrArg (Value.int .i64) hnext),rfl,rfl,by simp only[hws];rfl,rfl,rfl,rfl,trivial⟩,by decide,by simp only[hws];rfl,by simp only;omega,by simp only;omega⟩
 ·obtain rfl:k=2*N.arcs.length:=by omega
  refine ad (aa (ae [] rfl ?_))
  exact aE [0] (by decide) rfl (aB ⟨_,rfl,.inl ⟨hW,hle,lv,A2,c2,hlv,rfl,rfl⟩⟩)
end Go.Proofs.YtpbmihpjgjbndaaGreatDoor
