/- The tracks that lead one level on, and how deep the sink is. -/
import Derived.Test.YtpbmihpjgjbndaaGreatDoorLevelN
set_option linter.unusedVariables false
set_option linter.unusedSimpArgs false
namespace Go.Proofs.YtpbmihpjgjbndaaGreatDoor
open Go.RowKit
def xX (N:a8) (f:List Int) (least:Int) (v:Value) (H':Heap):Prop:=
 (aI N f∧1≤least∧∃ (lv:List Int) (A':Option Addr) (c':Nat),dr N (aM (N.arcs.zip f)) least lv∧v=.tuple #[.slice A' (bG N (aM (N.arcs.zip f)) least lv (2*N.arcs.length)).length c',.int .i64 0]∧
  H'=[.own (.slice A' (bG N (aM (N.arcs.zip f)) least lv (2*N.arcs.length)).length c') 3 1 (bG N (aM (N.arcs.zip f)) least lv (2*N.arcs.length)).length (ao ((bG N (aM (N.arcs.zip f)) least lv (2*N.arcs.length)).map fun (i:Nat)=>(i:Int)))])∨
 (¬ aI N f∧v=.tuple #[.slice none 0 0,.int .i64 (eL N f)]∧H'=[])∨(aI N f∧least<1∧v=.tuple #[.slice none 0 0,.int .i64 3]∧H'=[])
def yR (N:a8) (f:List Int) (least:Int) (v:Value) (H':Heap):Prop:=
 (aI N f∧1≤least∧∃ (lv:List Int),dr N (aM (N.arcs.zip f)) least lv∧v=sK (bY lv N.snk.toNat,0)∧H'=[])∨
 (¬ aI N f∧v=sK (0,eL N f)∧H'=[])∨(aI N f∧least<1∧v=sK (0,3)∧H'=[])
theorem pE {N:a8} {rm:List Int} {least:Int} {lv:List Int} (k:Nat):bG N rm least lv (k+1)=bG N rm least lv k++(if least≤rm.getD k 0∧bY lv (cW N k)≠-1∧bY lv (dZ N k)=bY lv (cW N k)+1 then [k] else []):=by
 unfold bG
 rw[List.range_succ,List.filter_append]
 congr 1
 by_cases h:least≤rm.getD k 0∧bY lv (cW N k)≠-1∧bY lv (dZ N k)=bY lv (cW N k)+1
 ·rw[if_pos h,List.filter_cons,if_pos (decide_eq_true h)];rfl
 ·rw[if_neg h,List.filter_cons,if_neg (by simpa using h)];rfl
theorem gG (N:a8) (rm:List Int) (least:Int) (lv:List Int) (k:Nat):(bG N rm least lv k).length≤k:=by
 unfold bG
 exact Nat.le_trans (List.length_filter_le _ _) (by simp)
theorem lU (N:a8) (hN:N.Fits) (hR:N.Right) (A:Option Addr) (c b o:Nat) (hA:N.arcs≠[]→A=some ⟨b,o,none⟩) (f:List Int) (F:Option Addr) (cf bf of:Nat) (hF:f≠[]→F=some ⟨bf,of,none⟩) (hf:∀ x∈f,bT x) (hfl:f.length*8≤140737488351232) (least:Int):
 Fn 80 [br N A c,.slice F f.length cf,.int .i64 least] [] [.seg b o (arcs N.arcs),.seg bf of (ao f)] (yR N f least):=by
 have hnn:=hR.nodes
 have hsk:=hR.snk
 obtain⟨n,hn⟩:∃ n:Nat,N.nodes=n:=⟨N.nodes.toNat,by omega⟩
 refine aS Tryz.func80 rfl rfl fun w0=>?_
 refine ad (aa ?_)
 refine bw (cs:=bP N A c) rfl rfl rfl (fun _=>rfl) fun p=>?_
 refine ae [] rfl ?_
 refine ad (aa ?_)
 refine ab [] (v:=br N A c) (af 0 rfl rfl rfl rfl) rfl ?_
 refine ah [] rfl ?_
 refine av [] (nP N hN hR A c b o hA f F cf bf of hF hf hfl least n hn) rfl rfl rfl rfl (by kernel_rfl) ⟨⟨1,_,by simp,rfl,aq _ _ _,ay⟩,⟨2,_,by simp,rfl,aq _ _ _,ay⟩,trivial⟩ (fun _=>rfl) ?_
 rintro v H' (⟨hW,hle,lv,g,hlv,rfl,rfl⟩|⟨hW,rfl,rfl⟩|⟨hW,hle,rfl,rfl⟩)
 case inr.inl=>
  refine⟨rfl,?_⟩
  refine ae [] rfl ?_
  refine ad (ad (aa (ae [] rfl ?_)))
  refine aD rfl (fun h=>?_) (fun h=>absurd (cK.1 (Classical.not_not.1 h)) hW)
  refine ad (aa (ae [] rfl ?_))
  refine aE [] (by decide) rfl (aB ⟨_,rfl,.inr (.inl ⟨hW,rfl,rfl⟩)⟩)
 case inr.inr=>
  refine⟨rfl,?_⟩
  refine ae [] rfl ?_
  refine ad (ad (aa (ae [] rfl ?_)))
  refine aD rfl (fun h=>?_) (fun h=>absurd h (by decide))
  refine ad (aa (ae [] rfl ?_))
  refine aE [] (by decide) rfl (aB ⟨_,rfl,.inr (.inr ⟨hW,hle,rfl,rfl⟩)⟩)
 refine⟨rfl,?_⟩
 refine ae [] rfl ?_
 refine ad (ad (aa (ae [] rfl ?_)))
 refine aD rfl (fun h=>absurd rfl h) (fun _=>aw ?_)
 have hll:=hlv.len
 refine ad (aa (ah [] rfl ?_))
 (first|refine ab [] (af 0 rfl rfl rfl rfl) rfl ?_|refine ab [] (af 1 rfl rfl rfl rfl) rfl ?_|refine ab [] (af 2 rfl rfl rfl rfl) rfl ?_|refine ab [] (af 3 rfl rfl rfl rfl) rfl ?_|refine ab [] (af 4 rfl rfl rfl rfl) rfl ?_|refine ab [] (af 5 rfl rfl rfl rfl) rfl ?_|refine ab [] (af 6 rfl rfl rfl rfl) rfl ?_|refine ab [] (af 7 rfl rfl rfl rfl) rfl ?_)
 refine ax 22 (v':=.int .i64 ((N.snk.toNat:Nat):Int)) rfl (congrArg (Value.int .i64) (by omega)) ?_
 refine ab [] (aJ rfl rfl rfl rfl rfl (by omega)) rfl ?_
 refine ab [] (aF 0 rfl rfl rfl (cj (iT (by omega)))) rfl ?_
 refine ae [] rfl ?_
 refine aE [] (by decide) rfl (aB ⟨_,rfl,.inl ⟨hW,hle,lv,hlv,rfl,rfl⟩⟩)
set_option maxHeartbeats 1000000 in
theorem qv (N:a8) (hN:N.Fits) (hR:N.Right) (A:Option Addr) (c b o:Nat) (hA:N.arcs≠[]→A=some ⟨b,o,none⟩) (f:List Int) (F:Option Addr) (cf bf of:Nat) (hF:f≠[]→F=some ⟨bf,of,none⟩) (hf:∀ x∈f,bT x) (hfl:f.length*8≤140737488351232) (least:Int):
 Fn 237 [br N A c,.slice F f.length cf,.int .i64 least] [] [.seg b o (arcs N.arcs),.seg bf of (ao f)] (xX N f least):=by
 have hnn:=hR.nodes
 have hsk:=hR.snk
 have hl2:=hR.len
 obtain⟨n,hn⟩:∃ n:Nat,N.nodes=n:=⟨N.nodes.toNat,by omega⟩
 refine aS Tryz.func237 rfl rfl fun w0=>?_
 refine ad (aa ?_)
 refine bw (cs:=bP N A c) rfl rfl rfl (fun _=>rfl) fun p=>?_
 refine ae [] rfl ?_
 refine ad (aa ?_)
 refine ab [] (v:=br N A c) (af 0 rfl rfl rfl rfl) rfl ?_
 refine ah [] rfl ?_
 refine av [] (nP N hN hR A c b o hA f F cf bf of hF hf hfl least n hn) rfl rfl rfl rfl (by kernel_rfl) ⟨⟨1,_,by simp,rfl,aq _ _ _,ay⟩,⟨2,_,by simp,rfl,aq _ _ _,ay⟩,trivial⟩ (fun _=>rfl) ?_
 rintro v H' (⟨hW,hle,lv,g,hlv,rfl,rfl⟩|⟨hW,rfl,rfl⟩|⟨hW,hle,rfl,rfl⟩)
 case inr.inl=>
  refine⟨rfl,?_⟩
  refine ae [] rfl ?_
  refine ad (ad (aa (ae [] rfl ?_)))
  refine aD rfl (fun h=>?_) (fun h=>absurd (cK.1 (Classical.not_not.1 h)) hW)
  refine ad (aa (ae [] rfl ?_))
  refine aE [] (by decide) rfl (aB ⟨_,rfl,.inr (.inl ⟨hW,rfl,rfl⟩)⟩)
 case inr.inr=>
  refine⟨rfl,?_⟩
  refine ae [] rfl ?_
  refine ad (ad (aa (ae [] rfl ?_)))
  refine aD rfl (fun h=>?_) (fun h=>absurd h (by decide))
  refine ad (aa (ae [] rfl ?_))
  refine aE [] (by decide) rfl (aB ⟨_,rfl,.inr (.inr ⟨hW,hle,rfl,rfl⟩)⟩)
 refine⟨rfl,?_⟩
 refine ae [] rfl ?_
 refine ad (ad (aa (ae [] rfl ?_)))
 refine aD rfl (fun h=>absurd rfl h) (fun _=>aw ?_)
 have hll:=hlv.len
 refine ad (aa ?_)
 refine ab [] (v:=br N A c) (af 1 rfl rfl rfl rfl) rfl ?_
 refine ah [] rfl ?_
 refine av [] (kd N hN hR A c b o hA f F cf bf of hF hf hfl) rfl rfl rfl rfl (by kernel_rfl) ⟨⟨2,_,by simp,rfl,aq _ _ _,ay⟩,⟨3,_,by simp,rfl,aq _ _ _,ay⟩,trivial⟩ (fun _=>rfl) ?_
 rintro v H' (⟨_,A1,c1,rfl,rfl⟩|⟨h,_,_⟩)
 case inr=>exact absurd hW h
 refine⟨rfl,?_⟩
 refine ae [] rfl ?_
 unfold xX
 obtain⟨rm,hrm⟩:∃ rm,rm=aM (N.arcs.zip f):=⟨_,rfl⟩
 have hrl:rm.length=2*N.arcs.length:=by rw[hrm,cD,List.length_zip,hW.len,Nat.min_self]
 rw[← hrm] at hlv ⊢
 refine ad (aa (ae [] rfl ?_))
 refine ad (ad (aa (ae [] rfl ?_)))
 refine cE 3 1 ?_
 refine au ?_
 refine bq (σ:=Nat×Option Addr×Nat) (fun s=>[(35,.int .i64 s.1),(34,.int .i64 ((2*N.arcs.length:Nat):Int)),(33,.slice A1 (2*N.arcs.length) c1),(12,.slice s.2.1 (bG N rm least lv s.1).length s.2.2),(8,.slice (some ⟨g,0,none⟩) (n+1) (n+1)),(3,.pointer (some ⟨p,0,none⟩)),(2,.int .i64 least)])
  (fun s=>[.own (.slice s.2.1 (bG N rm least lv s.1).length s.2.2) 3 1 (bG N rm least lv s.1).length (ao ((bG N rm least lv s.1).map fun (i:Nat)=>(i:Int))),.own (.slice A1 (2*N.arcs.length) c1) 2 1 (2*N.arcs.length) (ao rm),.own (.slice (some ⟨g,0,none⟩) (n+1) (n+1)) 3 1 (n+1) (ao lv),blk p 27 (bP N A c),.seg b o (arcs N.arcs)])
  (fun s=>s.1≤2*N.arcs.length) (fun s=>2*N.arcs.length-s.1) (0,none,0) [0,1,2,3,4] ⟨rfl,rfl,rfl,rfl,rfl,rfl,rfl,trivial⟩ (by decide) rfl (Nat.zero_le _) ?_
 rintro⟨k,A2,c2⟩ hk
 simp only at hk ⊢
 have hkl:=gG N rm least lv k
 refine bL (be 1 rfl) fun ⟨_,_,hA1,_⟩=>?_
 refine ad (aa (ae [] rfl ?_))
 refine ad (aD rfl (fun hlt=>aw ?_) (fun hge=>aX ?_))
 ·have hlt:k<2*N.arcs.length:=by omega
  obtain⟨g1,rfl⟩:=hA1 (by omega)
  obtain⟨te,htn1,htn2⟩:=fk hR hlt
  obtain⟨fe,hfn1,hfn2⟩:=iR hR hlt
  obtain⟨x,hxr⟩:∃ x,rm[k]?=some x:=⟨rm[k]'(by omega),List.getElem?_eq_getElem (by omega)⟩
  have hxd:rm.getD k 0=x:=by rw[List.getD_eq_getElem?_getD,hxr];rfl
  have hws:=pE (N:=N) (rm:=rm) (least:=least) (lv:=lv) k
  obtain⟨t,ht⟩:∃ t,dZ N k=t:=⟨_,rfl⟩
  obtain⟨u,hu⟩:∃ u,cW N k=u:=⟨_,rfl⟩
  rw[ht] at te htn1 htn2 hws
  rw[hu] at fe hfn1 hfn2 hws
  have hru:=hlv.rng u
  have hnext:IntKind.i64.wrap ((k:Int)+1)=((k+1:Nat):Int):=b8 (by omega)
  refine ad (au ?_)
  refine ad (aa (ah [] rfl ?_))
  refine ab [] (aJ rfl rfl rfl rfl rfl hlt) rfl ?_
  refine ab [] (aF 1 rfl rfl rfl (a9 hxr)) rfl ?_
  refine ae [] rfl ?_
  refine ad (aa ?_)
  refine ab [] (v:=br N A c) (af 3 rfl rfl rfl rfl) rfl ?_
  refine ah [] rfl ?_
  refine av [] (eY N A c b o hA hl2 k hlt) rfl rfl rfl rfl (by kernel_rfl) ⟨⟨4,_,by simp,rfl,aq _ _ _,ay⟩,trivial⟩ (fun _=>rfl) ?_
  rintro v' H' ⟨rfl,rfl⟩
  refine⟨rfl,?_⟩
  refine ae [] rfl ?_
  refine aP 15 (v':=.int .i64 (u:Int)) rfl (congrArg (Value.int .i64) fe) ?_
  refine aP 16 (v':=.int .i64 (t:Int)) rfl (congrArg (Value.int .i64) te) ?_
  refine er [(67,.bool (dj (least≤rm.getD k 0∧bY lv u≠-1∧bY lv t=bY lv u+1))),(35,.int .i64 k),(34,.int .i64 ((2*N.arcs.length:Nat):Int)),(33,.slice (some ⟨g1,0,none⟩) (2*N.arcs.length) c1),(13,.int .i64 k),(12,.slice A2 (bG N rm least lv k).length c2),(8,.slice (some ⟨g,0,none⟩) (n+1) (n+1)),(3,.pointer (some ⟨p,0,none⟩)),(2,.int .i64 least)]
   [.own (.slice A2 (bG N rm least lv k).length c2) 3 1 (bG N rm least lv k).length (ao ((bG N rm least lv k).map fun (i:Nat)=>(i:Int))),.own (.slice (some ⟨g1,0,none⟩) (2*N.arcs.length) c1) 2 1 (2*N.arcs.length) (ao rm),.own (.slice (some ⟨g,0,none⟩) (n+1) (n+1)) 3 1 (n+1) (ao lv),blk p 27 (bP N A c),.seg b o (arcs N.arcs)] ?_ ?_
  ·skip
   refine bn 22 [(0,true),(1,true),(2,true),(3,true),(4,true),(5,true),(6,true),(7,true),(8,true),(9,true),(10,true),(11,true),(12,true),(13,true),(14,true),(15,true),(16,true),(17,true),(18,true),(19,true),(20,true),(21,true)] [2] (by kernel_rfl) (by decide) rfl ?_
   refine aC [] rfl ?_
   by_cases h1:least≤x
   ·refine bX 49 (v':=.bool true) rfl (congrArg Value.bool (az h1)) ?_
    refine aC [3] rfl ?_
    refine aj [3] rfl (aJ rfl rfl rfl rfl rfl (by omega)) rfl ?_
    refine aj [3] rfl (aF 0 rfl rfl rfl (cj (iT (by omega)))) rfl ?_
    refine aC [3] rfl ?_
    by_cases h2:bY lv u=-1
    ·refine bX 56 (v':=.bool false) rfl (congrArg Value.bool (aA (fun h=>h h2))) ?_
     refine dC [10] rfl ?_
     refine ai ⟨[0,1,2,3,4],⟨congrArg some (congrArg Value.bool (aA (fun h=>h.2.1 h2)).symm),rfl,rfl,rfl,rfl,rfl,rfl,rfl,rfl,trivial⟩,by decide,rfl⟩
    ·refine bX 56 (v':=.bool true) rfl (congrArg Value.bool (az h2)) ?_
     refine aC [10] rfl ?_
     refine aj [10] rfl (aJ rfl rfl rfl rfl rfl (by omega)) rfl ?_
     refine aj [10] rfl (aF 0 rfl rfl rfl (cj (iT (by omega)))) rfl ?_
     refine aC [10] rfl ?_
     refine aj [10] rfl (aJ rfl rfl rfl rfl rfl (by omega)) rfl ?_
     refine aj [10] rfl (aF 0 rfl rfl rfl (cj (iT (by omega)))) rfl ?_
     refine aC [10] rfl ?_
     refine dC [10] rfl ?_
     have hw:IntKind.i64.wrap (bY lv u+1)=bY lv u+1:=b8 (by omega)
     refine ai ⟨[0,1,2,3,4],⟨congrArg some (congrArg Value.bool (dI ⟨fun h=>⟨by omega,h2,by rw[hw] at h;exact h⟩,fun h=>by rw[hw];exact h.2.2⟩)),rfl,rfl,rfl,rfl,rfl,rfl,rfl,rfl,trivial⟩,by decide,rfl⟩
   ·refine bX 49 (v':=.bool false) rfl (congrArg Value.bool (aA h1)) ?_
    refine dC [3,10] rfl ?_
    refine ai ⟨[0,1,2,3,4],⟨congrArg some (congrArg Value.bool (aA (fun h=>h1 (by omega))).symm),rfl,rfl,rfl,rfl,rfl,rfl,rfl,rfl,trivial⟩,by decide,rfl⟩
  ·refine aD rfl (fun hgo=>?_) (fun hno=>aw ?_)
   ·rw[if_pos hgo] at hws
    refine aa (ah [] rfl ?_)
    refine bH rfl rfl rfl rfl rfl rfl rfl (fun _=>rfl) fun g4=>?_
    refine bc (n:=(bG N rm least lv k).length) (m:=1) (off:=0) (news:=ao [(k:Int)]) 1 0 rfl rfl rfl rfl rfl rfl (by decide) rfl rfl (aL g4 _ _ (0,0)) (fun _=>rfl) rfl rfl (by omega) (by omega) (fun _ _=>rfl) fun A4 c4=>?_
    rw[show (bG N rm least lv k).length+1=(bG N rm least lv (k+1)).length by rw[hws];simp,show ao ((bG N rm least lv k).map fun (i:Nat)=>(i:Int))++ao [(k:Int)]=ao ((bG N rm least lv (k+1)).map fun (i:Nat)=>(i:Int)) by rw[hws];simp[ao]]
    refine ae [] rfl ?_
    refine aa (ae [] rfl ?_)
    exact⟨(k+1,A4,c4),[1,2,3,4,5],⟨congrArg some (congrArg (Value.int .i64) hnext),rfl,rfl,rfl,rfl,rfl,rfl,trivial⟩,by decide,rfl,by simp only;omega,by simp only;omega⟩
   ·rw[if_neg hno,List.append_nil] at hws
    refine aa (ae [] rfl ?_)
    refine⟨(k+1,A2,c2),[0,1,2,3,4],⟨congrArg some (congrArg (Value.int .i64) hnext),rfl,rfl,by simp only[hws];rfl,rfl,rfl,rfl,trivial⟩,by decide,by simp only[hws];rfl,by simp only;omega,by simp only;omega⟩
 ·obtain rfl:k=2*N.arcs.length:=by omega
  refine ad (aa (ae [] rfl ?_))
  exact aE [0] (by decide) rfl (aB ⟨_,rfl,.inl ⟨hW,hle,lv,A2,c2,hlv,rfl,rfl⟩⟩)
end Go.Proofs.YtpbmihpjgjbndaaGreatDoor
