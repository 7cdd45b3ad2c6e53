/- The engine and the words that all chapters share: several texts in one. -/
import Derived.Test.YtpbmihpjgjbndaaGreatDoorQX4
import Derived.Test.YtpbmihpjgjbndaaGreatDoorQX35
/- Chapter 14's flows of raw numbers. -/
set_option linter.unusedVariables false
set_option linter.unusedSimpArgs false
namespace Go.Proofs.YtpbmihpjgjbndaaGreatDoor
open Go.RowKit
set_option maxHeartbeats 1000000 in
theorem qh (N:a8) (hR:N.Right) (A:Option Addr) (c b o:Nat) (hA:N.arcs≠[]→A=some ⟨b,o,none⟩) (f:List Int) (hfl:f.length=N.arcs.length) (F:Option Addr) (cf bf of:Nat) (hF:f≠[]→F=some ⟨bf,of,none⟩) (raw:Int) (hraw:bN raw):
 Fn 50 [bu N A c,.slice F f.length cf,.int .i64 raw] [] [.seg b o (arcs N.arcs),.seg bf of (ap f)] fun v H'=>∃ (W:List Nat) (A':Option Addr) (c':Nat) (met:List Bool),v=.slice A' W.length c'∧
  H'=[.own (.slice A' W.length c') 3 1 W.length (ap (W.map fun (i:Nat)=>(i:Int)))]∧(W=[]∨lg N f met W N.snk)∧W.length≤500:=by
 have hnn:=hR.nodes
 have hl2:=hR.len
 have hsr:=hR.src
 have hsk:=hR.snk
 obtain⟨n,hn⟩:∃ n:Nat,N.nodes=n:=⟨N.nodes.toNat,by omega⟩
 obtain⟨s0,hs0⟩:∃ s:Nat,N.src=s:=⟨N.src.toNat,by omega⟩
 refine aS Tryz.func50 rfl rfl fun w0=>?_
 refine ad (aa ?_)
 refine bw (cs:=bG N A c) rfl rfl rfl (fun _=>rfl) fun p=>?_
 refine ae [] rfl ?_
 refine ad (aa (ah [] rfl ?_))
 refine ab [] (af 0 rfl rfl rfl rfl) rfl ?_
 refine ah [] rfl ?_
 refine aw 15 (v':=.int .i64 ((n+1:Nat):Int)) rfl (congrArg (Value.int .i64) ((bU (n:=N.nodes+1) (by omega)).trans (by omega))) ?_
 refine dv (n:=n+1) (c:=n+1) rfl rfl rfl rfl rfl rfl (by omega) (by omega) (by omega) (fun _=>rfl) fun gm=>?_
 refine ae [] rfl ?_
 rw[mR]
 refine ad (aa (ah [] rfl ?_))
 refine ab [] (af 1 rfl rfl rfl rfl) rfl ?_
 refine ae [] rfl ?_
 refine aP 8 (v':=.int .i64 (s0:Int)) rfl (congrArg (Value.int .i64) hs0) ?_
 refine ad (aa (ah [] rfl ?_))
 refine ab [] (aJ rfl rfl rfl rfl rfl (by omega)) rfl ?_
 refine aQ 0 rfl rfl rfl rfl (jz rfl (by simp;omega)) [] rfl ?_
 refine ai ?_
 refine ad (aa (ae [] rfl ?_))
 refine ad (au ?_)
 refine cC 3 1 ?_
 refine bq (σ:=List Bool×Nat×List Nat×Option Addr×Nat) (fun s=>[(9,.slice s.2.2.2.1 s.2.2.1.length s.2.2.2.2),(8,.int .i64 (s.2.1:Int)),(7,.slice (some ⟨gm,0,none⟩) (n+1) (n+1)),(3,.pointer (some ⟨p,0,none⟩)),(2,.int .i64 raw),(1,.slice F f.length cf)])
  (fun s=>[.own (.slice s.2.2.2.1 s.2.2.1.length s.2.2.2.2) 3 1 s.2.2.1.length (ap (s.2.2.1.map fun (i:Nat)=>(i:Int))),.own (.slice (some ⟨gm,0,none⟩) (n+1) (n+1)) 4 1 (n+1) (dP s.1),blk p 27 (bG N A c),.seg b o (arcs N.arcs),.seg bf of (ap f)])
  (fun s=>s.1.length=n+1∧1≤s.2.1∧s.2.1≤n∧lg N f s.1 s.2.2.1 (s.2.1:Int)∧s.2.2.1.length+s.1.count false≤n) (fun s=>s.1.count false)
  ((List.replicate (n+1) false).set s0 true,s0,[],none,0) [0,1,2,3,4] ⟨rfl,rfl,rfl,rfl,rfl,rfl,trivial⟩ (by decide) rfl ⟨by simp,by simp only;omega,by simp only;omega,⟨hs0,List.nodup_nil,fun i hi=>by cases hi⟩,?_⟩ ?_
 ·have:=fN (List.replicate (n+1) false) s0 (by rw[List.getElem?_replicate,if_pos (by omega)])
  have h2:(List.replicate (n+1) false).count false=n+1:=by simp
  simp only[List.length_nil]
  omega
 rintro⟨met,at_,W,Aw,cw⟩ ⟨hml,ha1,han,how,hwl⟩
 simp only at hml ha1 han how hwl ⊢
 refine ad (ad (aa (ah [] rfl ?_)))
 refine ab [] (af 2 rfl rfl rfl rfl) rfl ?_
 refine ae [] rfl ?_
 refine aC rfl (fun hne=>av ?_) (fun heq=>aV ?_)
 ·refine au (ad (aa (ae [] rfl ?_)))
  refine ad (ad (aa (ae [] rfl ?_)))
  refine au ?_
  refine cC 3 1 ?_
  refine bq (σ:=Nat×Option Addr×Nat) (fun t=>[(11,.int .i64 t.1),(10,.slice t.2.1 (eX N f met at_ t.1).length t.2.2),(9,.slice Aw W.length cw),(8,.int .i64 (at_:Int)),(7,.slice (some ⟨gm,0,none⟩) (n+1) (n+1)),(3,.pointer (some ⟨p,0,none⟩)),(2,.int .i64 raw),(1,.slice F f.length cf)])
   (fun t=>[.own (.slice t.2.1 (eX N f met at_ t.1).length t.2.2) 3 1 (eX N f met at_ t.1).length (ap (eX N f met at_ t.1)),.own (.slice Aw W.length cw) 3 1 W.length (ap (W.map fun (i:Nat)=>(i:Int))),.own (.slice (some ⟨gm,0,none⟩) (n+1) (n+1)) 4 1 (n+1) (dP met),blk p 27 (bG N A c),.seg b o (arcs N.arcs),.seg bf of (ap f)])
   (fun t=>t.1≤N.arcs.length) (fun t=>N.arcs.length-t.1)
   (0,none,0) [0,1,2,3,4,5] ⟨rfl,rfl,rfl,rfl,rfl,rfl,rfl,rfl,trivial⟩ (by decide) rfl (Nat.zero_le _) ?_
  ·rintro⟨k,A1,c1⟩ hk
   simp only at hk ⊢
   have hfkl:=qr N f met at_ k
   refine ad (ad (aa (ah [] rfl ?_)))
   refine ab [] (af 3 rfl rfl rfl rfl) rfl ?_
   refine ae [] rfl ?_
   refine aC rfl (fun hlt=>av ?_) (fun hge=>aV ?_)
   ·have hlt:k<N.arcs.length:=by omega
    obtain rfl:=hA (by intro h0;rw[h0] at hlt;simp at hlt)
    obtain rfl:=hF (by intro h0;rw[h0] at hfl;simp at hfl;omega)
    obtain⟨a,ha⟩:∃ a,N.arcs[k]?=some a:=⟨N.arcs[k],List.getElem?_eq_getElem hlt⟩
    obtain⟨x,hx⟩:∃ x,f[k]?=some x:=⟨f[k]'(by omega),List.getElem?_eq_getElem (by omega)⟩
    have hxd:f.getD k 0=x:=by rw[List.getD_eq_getElem?_getD,hx];rfl
    obtain⟨q0,q1,q2⟩:=em ha
    have har:=hR.arc a (List.mem_of_getElem? ha)
    obtain⟨t,ht⟩:∃ t:Nat,a.to=t:=⟨a.to.toNat,by omega⟩
    obtain⟨bt,hbt⟩:∃ bt,met[t]?=some bt:=⟨met[t]'(by omega),List.getElem?_eq_getElem (by omega)⟩
    have hws:=tv (f:=f) (met:=met) (at_:=(at_:Int)) ha
    have hq:IntKind.i64.wrap ((k:Int)+1)=((k+1:Nat):Int):=bU (by omega)
    refine ad (au ?_)
    refine d7 [(65,.bool (dI (a.fr=at_∧met[a.to.toNat]?=some false∧f.getD k 0<a.cap))),(11,.int .i64 k),(10,.slice A1 (eX N f met at_ k).length c1),(9,.slice Aw W.length cw),(8,.int .i64 (at_:Int)),(7,.slice (some ⟨gm,0,none⟩) (n+1) (n+1)),(3,.pointer (some ⟨p,0,none⟩)),(2,.int .i64 raw),(1,.slice (some ⟨bf,of,none⟩) f.length cf)]
     [.own (.slice A1 (eX N f met at_ k).length c1) 3 1 (eX N f met at_ k).length (ap (eX N f met at_ k)),.own (.slice Aw W.length cw) 3 1 W.length (ap (W.map fun (i:Nat)=>(i:Int))),.own (.slice (some ⟨gm,0,none⟩) (n+1) (n+1)) 4 1 (n+1) (dP met),blk p 27 (bG N (some ⟨b,o,none⟩) c),.seg b o (arcs N.arcs),.seg bf of (ap f)] ?_ ?_
    ·skip
     refine bp 33 [(0,true),(1,true),(2,true),(3,true),(4,true),(5,true),(6,true),(7,true),(8,true),(9,true),(10,true),(11,true),(12,true),(13,true),(14,true),(15,true),(16,true),(17,true),(18,true),(19,true),(20,true),(21,true),(22,true),(23,true),(24,true),(25,true),(26,true),(27,true),(28,true),(29,true),(30,true),(31,true),(32,true)] [2,3,4,5] (by kernel_rfl) (by decide) rfl ?_
     refine aF [] rfl ?_
     (first|refine aj [] rfl (af 0 rfl rfl rfl rfl) rfl ?_|refine aj [] rfl (af 1 rfl rfl rfl rfl) rfl ?_|refine aj [] rfl (af 2 rfl rfl rfl rfl) rfl ?_|refine aj [] rfl (af 3 rfl rfl rfl rfl) rfl ?_|refine aj [] rfl (af 4 rfl rfl rfl rfl) rfl ?_|refine aj [] rfl (af 5 rfl rfl rfl rfl) rfl ?_)
     refine aF [] rfl ?_
     refine aj [] rfl (iR rfl rfl rfl rfl rfl hlt) rfl ?_
     refine aF [] rfl ?_
     refine aj [] rfl (bz 2 rfl rfl rfl (Nat.add_zero _) q0) rfl ?_
     refine aF [] rfl ?_
     by_cases h1:a.fr=at_
     ·refine cE 41 (v':=.bool true) rfl (congrArg Value.bool (az h1)) ?_
      refine aF [8] rfl ?_
      (first|refine aj [8] rfl (af 0 rfl rfl rfl rfl) rfl ?_|refine aj [8] rfl (af 1 rfl rfl rfl rfl) rfl ?_|refine aj [8] rfl (af 2 rfl rfl rfl rfl) rfl ?_|refine aj [8] rfl (af 3 rfl rfl rfl rfl) rfl ?_|refine aj [8] rfl (af 4 rfl rfl rfl rfl) rfl ?_|refine aj [8] rfl (af 5 rfl rfl rfl rfl) rfl ?_)
      refine aF [8] rfl ?_
      refine aj [8] rfl (iR rfl rfl rfl rfl rfl hlt) rfl ?_
      refine aF [8] rfl ?_
      refine aj [8] rfl (bz 2 rfl rfl rfl (Nat.add_assoc _ _ _) q1) rfl ?_
      refine cE 48 (v':=.int .i64 (t:Int)) rfl (congrArg (Value.int .i64) ht) ?_
      refine aj [8] rfl (aJ rfl rfl rfl rfl rfl (by omega)) rfl ?_
      refine aj [8] rfl (aD 0 rfl rfl rfl (show (dP met)[t]?=some (.bool bt) from jn hbt)) rfl ?_
      cases bt with
      |true=>
       refine aF [8] rfl ?_
       refine dW [20] rfl ?_
       refine ai ⟨[0,1,2,3,4,5],⟨congrArg some (congrArg Value.bool (aA (fun h=>by rw[ht,Int.toNat_natCast,hbt] at h;simp at h)).symm),rfl,rfl,rfl,rfl,rfl,rfl,rfl,rfl,trivial⟩,by decide,rfl⟩
      |false=>
       refine aF [8] rfl ?_
       refine aF [20] rfl ?_
       refine aj [20] rfl (f9 rfl rfl rfl rfl rfl (by omega)) rfl ?_
       refine aj [20] rfl (bz 3 rfl rfl rfl rfl (a9 hx)) rfl ?_
       refine aF [20] rfl ?_
       (first|refine aj [20] rfl (af 0 rfl rfl rfl rfl) rfl ?_|refine aj [20] rfl (af 1 rfl rfl rfl rfl) rfl ?_|refine aj [20] rfl (af 2 rfl rfl rfl rfl) rfl ?_|refine aj [20] rfl (af 3 rfl rfl rfl rfl) rfl ?_|refine aj [20] rfl (af 4 rfl rfl rfl rfl) rfl ?_|refine aj [20] rfl (af 5 rfl rfl rfl rfl) rfl ?_)
       refine aF [20] rfl ?_
       refine aj [20] rfl (iR rfl rfl rfl rfl rfl hlt) rfl ?_
       refine aF [20] rfl ?_
       refine aj [20] rfl (bz 2 rfl rfl rfl (Nat.add_assoc _ _ _) q2) rfl ?_
       refine dW [20] rfl ?_
       refine ai ⟨[0,1,2,3,4,5],⟨congrArg some (congrArg Value.bool ?_),rfl,rfl,rfl,rfl,rfl,rfl,rfl,rfl,trivial⟩,by decide,rfl⟩
       exact d8 ⟨fun h=>⟨h1,by rw[ht,Int.toNat_natCast,hbt],by rw[hxd];exact h⟩,fun h=>by rw[hxd] at h;exact h.2.2⟩
     ·refine cE 41 (v':=.bool false) rfl (congrArg Value.bool (aA h1)) ?_
      refine dW [8,20] rfl ?_
      refine ai ⟨[0,1,2,3,4,5],⟨congrArg some (congrArg Value.bool (aA (fun h=>h1 h.1)).symm),rfl,rfl,rfl,rfl,rfl,rfl,rfl,rfl,trivial⟩,by decide,rfl⟩
    ·by_cases hgo:a.fr=at_∧met[a.to.toNat]?=some false∧f.getD k 0<a.cap
     ·rw[if_pos hgo] at hws
      refine aP 65 (v':=.bool true) rfl (congrArg Value.bool (az hgo)) ?_
      refine bo rfl ?_
      refine aa (ah [] rfl ?_)
      refine bK rfl rfl rfl rfl rfl rfl rfl (fun _=>rfl) fun g2=>?_
      refine be (n:=(eX N f met at_ k).length) (m:=1) (off:=0) (news:=ap [(k:Int)]) 1 0 rfl rfl rfl rfl rfl rfl (by decide) rfl rfl (aL g2 _ _ (0,0)) (fun _=>rfl) rfl rfl (by omega) (by omega) (fun _ _=>rfl) fun A2 c2=>?_
      rw[show (eX N f met at_ k).length+1=(eX N f met at_ (k+1)).length by rw[hws];simp,show ap (eX N f met at_ k)++ap [(k:Int)]=ap (eX N f met at_ (k+1)) by rw[hws];simp[ap]]
      refine ae [] rfl ?_
      refine aa (ae [] rfl ?_)
      exact⟨(k+1,A2,c2),[1,2,3,4,5,6],⟨congrArg some (congrArg (Value.int .i64) hq),rfl,rfl,rfl,rfl,rfl,rfl,rfl,trivial⟩,by decide,rfl,by simp only;omega,by simp only;omega⟩
     ·rw[if_neg hgo,List.append_nil] at hws
      refine aP 65 (v':=.bool false) rfl (congrArg Value.bool (aA hgo)) ?_
      refine bI rfl (av ?_)
      refine aa (ae [] rfl ?_)
      refine⟨(k+1,A1,c1),[0,1,2,3,4,5],⟨congrArg some (congrArg (Value.int .i64) hq),?_,rfl,rfl,rfl,rfl,rfl,rfl,trivial⟩,by decide,?_,by simp only;omega,by simp only;omega⟩
      ·show _=some (Value.slice A1 (eX N f met at_ (k+1)).length c1)
       rw[hws];rfl
      ·show _=some [aO.own (Value.slice A1 (eX N f met at_ (k+1)).length c1) 3 1 (eX N f met at_ (k+1)).length (ap (eX N f met at_ (k+1))),_,_,_,_,_]
       rw[hws];rfl
   ·have hk':k=N.arcs.length:=by omega
    subst hk'
    obtain⟨m,hm⟩:∃ m,m=(eX N f met at_ N.arcs.length).length:=⟨_,rfl⟩
    rw[← hm] at hfkl ⊢
    refine ad (ad (aa (ae [] rfl ?_)))
    refine aC rfl (fun h0=>?_) (fun hne0=>av ?_)
    ·refine ad (aa (ae [] rfl ?_))
     refine cC 3 1 ?_
     refine aE [0] (by decide) rfl (aB ⟨_,rfl,[],none,0,met,rfl,rfl,.inl rfl,Nat.zero_le _⟩)
    have hm0:0<m:=by omega
    have hWn:W.length<n+1:=by omega
    have hbig:=hR.nodes
    obtain⟨q,hq⟩:∃ q,q=raw.tdiv ((W.length+1:Nat):Int):=⟨_,rfl⟩
    have hqin:bN q:=by
     rw[hq]
     exact wy hraw (by omega)
    obtain⟨j,hj⟩:∃ j:Nat,dq q m=j:=⟨(dq q m).toNat,by have:=(dT (c:=q) (n:=m) (by omega)).1;omega⟩
    have hjm:j<m:=by have:=(dT (c:=q) (n:=m) (by omega)).2;omega
    obtain⟨x,hx⟩:∃ x,(eX N f met at_ N.arcs.length)[j]?=some x:=⟨(eX N f met at_ N.arcs.length)[j]'(by omega),List.getElem?_eq_getElem (by omega)⟩
    obtain⟨i,a,rfl,ha,hfr,hma,hca⟩:=w5 (List.mem_of_getElem? hx)
    have hi:i<N.arcs.length:=(List.getElem?_eq_some_iff.1 ha).1
    obtain⟨q0,q1,q2⟩:=em ha
    have har:=hR.arc a (List.mem_of_getElem? ha)
    obtain⟨t,ht⟩:∃ t:Nat,a.to=t:=⟨a.to.toNat,by omega⟩
    obtain rfl:=hA (by intro h0;rw[h0] at hi;simp at hi)
    refine bO (bh 0 rfl) fun ⟨_,hwc,hAw,_⟩=>?_
    obtain⟨g1,rfl⟩:=hAw hm0
    refine ad (aa (ah [] rfl ?_))
    refine aw 77 (v':=.int .i64 ((W.length+1:Nat):Int)) rfl (congrArg (Value.int .i64) ((bU (n:=(W.length:Int)+1) (by omega)).trans (by omega))) ?_
    refine ab [] (xn rfl rfl rfl (by omega)) rfl ?_
    refine aw 78 (v':=.int .i64 q) rfl (congrArg (Value.int .i64) (by rw[hq];exact bU (hq▸hqin))) ?_
    refine ah [] rfl ?_
    refine ax [] (dA hqin (by omega:(0:Int)<m)) rfl rfl rfl rfl (by kernel_rfl) trivial (fun _=>rfl) ?_
    rintro v H' ⟨rfl,rfl⟩
    refine⟨rfl,?_⟩
    refine aw 81 (v':=.int .i64 (j:Int)) rfl (congrArg (Value.int .i64) hj) ?_
    refine ab [] (aJ rfl rfl rfl rfl rfl hjm) rfl ?_
    refine ab [] (aD (v:=.int .i64 (i:Int)) 0 rfl rfl rfl (b8 hx)) rfl ?_
    refine ae [] rfl ?_
    refine ad (aa (ah [] rfl ?_))
    refine bK rfl rfl rfl rfl rfl rfl rfl (fun _=>rfl) fun g2=>?_
    refine be (n:=W.length) (m:=1) (off:=0) (news:=ap [(i:Int)]) 2 0 rfl rfl rfl rfl rfl rfl (by decide) rfl rfl (aL g2 _ _ (0,0)) (fun _=>rfl) rfl rfl (by omega) (by omega) (fun _ _=>rfl) fun A2 c2=>?_
    rw[show W.length+1=(W++[i]).length by simp,show ap (W.map fun (i:Nat)=>(i:Int))++ap [(i:Int)]=ap ((W++[i]).map fun (i:Nat)=>(i:Int)) by simp[ap]]
    refine ae [] rfl ?_
    refine ad (aa (ah [] rfl ?_))
    (first|refine ab [] (af 0 rfl rfl rfl rfl) rfl ?_|refine ab [] (af 1 rfl rfl rfl rfl) rfl ?_|refine ab [] (af 2 rfl rfl rfl rfl) rfl ?_|refine ab [] (af 3 rfl rfl rfl rfl) rfl ?_|refine ab [] (af 4 rfl rfl rfl rfl) rfl ?_|refine ab [] (af 5 rfl rfl rfl rfl) rfl ?_|refine ab [] (af 6 rfl rfl rfl rfl) rfl ?_|refine ab [] (af 7 rfl rfl rfl rfl) rfl ?_)
    refine ah [] rfl ?_
    refine ab [] (iR rfl rfl rfl rfl rfl hi) rfl ?_
    refine ah [] rfl ?_
    refine ab [] (bz 5 rfl rfl rfl (Nat.add_assoc _ _ _) q1) rfl ?_
    refine ae [] rfl ?_
    refine aP 8 (v':=.int .i64 (t:Int)) rfl (congrArg (Value.int .i64) ht) ?_
    refine aa (ah [] rfl ?_)
    refine ab [] (aJ rfl rfl rfl rfl rfl (by omega)) rfl ?_
    refine aQ 3 rfl rfl rfl rfl (jz rfl (by omega)) [] rfl ?_
    refine ai ?_
    have hmt:met[t]?=some false:=by rw[← Int.toNat_natCast t,← ht];exact hma
    have hcs:=fN met t hmt
    refine⟨(met.set t true,t,W++[i],A2,c2),[2,3,4,5,6],⟨rfl,rfl,rfl,rfl,rfl,rfl,trivial⟩,by decide,rfl,⟨by simp only[List.length_set];omega,by simp only;omega,by simp only;omega,?_,by simp only[List.length_append,List.length_singleton];omega⟩,by simp only;omega⟩
    have hst:=lg.step (hfr▸how) ha hma hca
    rw[ht,Int.toNat_natCast] at hst
    exact hst
 ·refine ad (aa (ae [] rfl ?_))
  refine aE [0] (by decide) rfl (aB ⟨_,rfl,W,Aw,cw,met,rfl,rfl,.inr ?_,by omega⟩)
  rw[← Classical.not_not.1 heq];exact how
end Go.Proofs.YtpbmihpjgjbndaaGreatDoor
/- Chapter 14's flows of raw numbers: the whole. -/
set_option linter.unusedVariables false
set_option linter.unusedSimpArgs false
namespace Go.Proofs.YtpbmihpjgjbndaaGreatDoor
open Go.RowKit
set_option maxHeartbeats 1000000 in
theorem pZ (N:a8) (hR:N.Right) (A:Option Addr) (c b o:Nat) (hA:N.arcs≠[]→A=some ⟨b,o,none⟩) (L:Option Addr) (cl bl ol:Nat) (l:List Int) (hL:l≠[]→L=some ⟨bl,ol,none⟩) (hl:∀ x∈l,bN x) (hs:l.length*8≤140737488351232):
 Fn 14 [bu N A c,.slice L l.length cl] [] [.seg b o (arcs N.arcs),.seg bl ol (ap l)] fun v H'=>∃ (f:List Int) (g:Nat),v=.slice (some ⟨g,0,none⟩) N.arcs.length N.arcs.length∧
  H'=[.own (.slice (some ⟨g,0,none⟩) N.arcs.length N.arcs.length) 2 1 N.arcs.length (ap f)]∧aH N f:=by
 have hl2:=hR.len
 obtain⟨m,hm⟩:∃ m,N.arcs.length=m:=⟨_,rfl⟩
 refine aS Tryz.func14 rfl rfl fun w0=>?_
 refine ad (aa ?_)
 refine bw (cs:=bG N A c) rfl rfl rfl (fun _=>rfl) fun p=>?_
 refine ae [] rfl ?_
 refine ad (aa (ah [] rfl ?_))
 (first|refine ab [] (af 0 rfl rfl rfl rfl) rfl ?_|refine ab [] (af 1 rfl rfl rfl rfl) rfl ?_|refine ab [] (af 2 rfl rfl rfl rfl) rfl ?_|refine ab [] (af 3 rfl rfl rfl rfl) rfl ?_|refine ab [] (af 4 rfl rfl rfl rfl) rfl ?_|refine ab [] (af 5 rfl rfl rfl rfl) rfl ?_|refine ab [] (af 6 rfl rfl rfl rfl) rfl ?_|refine ab [] (af 7 rfl rfl rfl rfl) rfl ?_)
 refine ah [] rfl ?_
 rw[hm]
 refine dv (n:=m) (c:=m) rfl rfl rfl rfl rfl rfl (by omega) (by omega) (by omega) (fun _=>rfl) fun gf=>?_
 refine ae [] rfl ?_
 rw[show made [Value.int .i64 0] (m*1)=ap (List.replicate m 0) by rw[dn,Nat.mul_one];simp[ap]]
 refine ad (ad (aa (ae [] rfl ?_)))
 refine au ?_
 refine bq (σ:=Nat×List Int) (fun s=>[(6,.int .i64 s.1),(5,.slice (some ⟨gf,0,none⟩) m m),(2,.pointer (some ⟨p,0,none⟩)),(1,.slice L l.length cl)])
  (fun s=>[.own (.slice (some ⟨gf,0,none⟩) m m) 2 1 m (ap s.2),blk p 27 (bG N A c),.seg b o (arcs N.arcs),.seg bl ol (ap l)])
  (fun s=>s.1≤l.length∧aH N s.2) (fun s=>l.length-s.1)
  (0,List.replicate m 0) [0,1,2,3] ⟨rfl,rfl,rfl,rfl,trivial⟩ (by decide) rfl ⟨Nat.zero_le _,hm▸g9 N hR⟩ ?_
 rintro⟨i,f⟩ ⟨hi,hf⟩
 simp only at hi hf ⊢
 have hfl:=hf.len
 refine ad (d7 [(22,.bool (dI (i<l.length∧i<8))),(6,.int .i64 i),(5,.slice (some ⟨gf,0,none⟩) m m),(2,.pointer (some ⟨p,0,none⟩)),(1,.slice L l.length cl)]
  [.own (.slice (some ⟨gf,0,none⟩) m m) 2 1 m (ap f),blk p 27 (bG N A c),.seg b o (arcs N.arcs),.seg bl ol (ap l)] ?_ ?_)
 ·skip
  refine aa (ah [] rfl ?_)
  by_cases h1:(i:Int)<l.length
  ·refine aw 19 (v':=.bool true) rfl (congrArg Value.bool (az h1)) ?_
   refine ae [4] rfl ?_
   exact⟨[0,1,2,3],⟨congrArg some (congrArg Value.bool (d8 (by omega))),rfl,rfl,rfl,rfl,trivial⟩,by decide,rfl⟩
  ·refine aw 19 (v':=.bool false) rfl (congrArg Value.bool (aA h1)) ?_
   refine ae [4] rfl ?_
   exact⟨[0,1,2,3],⟨congrArg some (congrArg Value.bool (aA (by omega)).symm),rfl,rfl,rfl,rfl,trivial⟩,by decide,rfl⟩
 ·refine aC rfl (fun hgo=>av ?_) (fun hno=>aV ?_)
  ·have hlt:=hgo.1
   obtain rfl:=hL (by rintro rfl;simp at hlt)
   obtain⟨x,hx⟩:∃ x,l[i]?=some x:=⟨l[i],List.getElem?_eq_getElem hlt⟩
   have hxin:=hl x (List.mem_of_getElem? hx)
   refine ad (au ?_)
   refine ad ?_
   refine bp 8 [(0,true),(1,true),(2,true),(3,true),(4,true),(5,true),(6,false),(7,true)] [0,1,2,3] (by kernel_rfl) (by decide) rfl ?_
   refine aj [] rfl (af (v:=bu N A c) 1 rfl rfl rfl rfl) rfl ?_
   refine aF [] rfl ?_
   refine aj [] rfl (f9 rfl rfl rfl rfl rfl hlt) rfl ?_
   refine aj [] rfl (bz 3 rfl rfl rfl rfl (df hx)) rfl ?_
   refine a6 rfl ?_
   refine ax [] (qh N hR A c b o hA f hfl (some ⟨gf,0,none⟩) m gf 0 (fun _=>rfl) x hxin) rfl rfl rfl (by rw[hfl,hm];rfl) (by kernel_rfl) ⟨⟨2,_,by simp,rfl,aq _ _ _,ay⟩,⟨0,_,by simp,rfl,bX,a7 (fun _=>rfl)⟩,trivial⟩ (fun _=>rfl) ?_
   rintro v H' ⟨W,A',c',met,rfl,rfl,hW,hW5⟩
   refine⟨rfl,ai ⟨⟨[1,2,3,4],by decide,rfl⟩,?_⟩⟩
   refine dW [] rfl ?_
   refine ai ?_
   have hWr:∀ j∈W,∃ r:dK,N.arcs[j]?=some r∧f.getD j 0<r.cap:=by
    intro j hj
    rcases hW with rfl|hW
    ·cases hj
    ·obtain⟨r,h1,h2,_⟩:=hW.room j hj
     exact⟨r,h1,h2⟩
   have hWn:W.Nodup:=by
    rcases hW with rfl|hW
    ·exact List.nodup_nil
    ·exact hW.nodup
   have hfb:∀ (f':List Int) (j:Nat) (r:dK),Ranged N f'→N.arcs[j]?=some r→f'[j]?=some (f'.getD j 0)∧0≤f'.getD j 0∧f'.getD j 0≤r.cap∧r.cap≤4611686018427387903:=by
    intro f' j r hf' hr
    have hj:j<N.arcs.length:=(List.getElem?_eq_some_iff.1 hr).1
    have h1:f'[j]?=some (f'.getD j 0):=by rw[List.getD_eq_getElem?_getD,List.getElem?_eq_getElem (by have:=hf'.len;omega)];rfl
    have h2:=hf'.all (r,f'.getD j 0) (List.mem_of_getElem? (List.getElem?_zip_eq_some.2 ⟨hr,h1⟩))
    exact⟨h1,h2.1,h2.2,hR.cap (List.mem_of_getElem? hr)⟩
   have hpk:=dT (c:=x) (n:=30) (by decide)
   refine bO (bh 0 rfl) fun ⟨_,hwc,hAw,_⟩=>?_
   refine ad (aa (ah [] rfl ?_))
   refine ab [] (f9 rfl rfl rfl rfl rfl hlt) rfl ?_
   refine ab [] (bz 4 rfl rfl rfl rfl (df hx)) rfl ?_
   refine ax [] (dA hxin (by decide:(0:Int)<30)) rfl rfl rfl rfl (by kernel_rfl) trivial (fun _=>rfl) ?_
   rintro v H' ⟨rfl,rfl⟩
   refine⟨rfl,?_⟩
   refine ae [] rfl ?_
   refine aP 8 (v':=.int .i64 (dq x 30+1)) rfl (congrArg (Value.int .i64) (bU (by omega))) ?_
   refine ad (ad (aa (ae [] rfl ?_)))
   refine au ?_
   refine bq (σ:=Nat×Int) (fun t=>[(9,.int .i64 t.1),(8,.int .i64 t.2),(7,.slice A' W.length c'),(6,.int .i64 i),(5,.slice (some ⟨gf,0,none⟩) m m),(2,.pointer (some ⟨p,0,none⟩)),(1,.slice (some ⟨bl,ol,none⟩) l.length cl)])
    (fun _=>[.own (.slice A' W.length c') 3 1 W.length (ap (W.map fun (i:Nat)=>(i:Int))),.own (.slice (some ⟨gf,0,none⟩) m m) 2 1 m (ap f),blk p 27 (bG N A c),.seg b o (arcs N.arcs),.seg bl ol (ap l)])
    (fun t=>t.1≤W.length∧1≤t.2∧t.2≤30∧∀ j∈W.take t.1,∃ r:dK,N.arcs[j]?=some r∧f.getD j 0+t.2≤r.cap) (fun t=>W.length-t.1)
    (0,dq x 30+1) [0,1,2,3,4] ⟨rfl,rfl,rfl,rfl,rfl,rfl,rfl,trivial⟩ (by decide) rfl ⟨Nat.zero_le _,by simp only;omega,by simp only;omega,fun j hj=>by simp at hj⟩ ?_
   ·rintro⟨k,mo⟩ ⟨hk,hmo1,hmo2,hmo⟩
    simp only at hk hmo1 hmo2 hmo ⊢
    refine ad (ad (aa (ae [] rfl ?_)))
    refine aC rfl (fun hkl=>av ?_) (fun hkl=>aV ?_)
    ·have hkl:k<W.length:=by omega
     obtain⟨j,hj⟩:∃ j,W[k]?=some j:=⟨W[k],List.getElem?_eq_getElem hkl⟩
     have hjm:(W.map fun (i:Nat)=>(i:Int))[k]?=some (j:Int):=by rw[List.getElem?_map,hj];rfl
     obtain⟨r,hr,hrc⟩:=hWr j (List.mem_of_getElem? hj)
     have hjl:j<N.arcs.length:=(List.getElem?_eq_some_iff.1 hr).1
     obtain⟨hfj,hf0,hf1,hf2⟩:=hfb f j r hf.toRanged hr
     obtain⟨q0,q1,q2⟩:=em hr
     obtain rfl:=hA (by intro h0;rw[h0] at hjl;simp at hjl)
     obtain⟨g1,rfl⟩:=hAw (by omega)
     refine ad (au ?_)
     refine bp 20 [(0,true),(1,true),(2,true),(3,true),(4,true),(5,true),(6,true),(7,true),(8,true),(9,true),(10,true),(11,true),(12,true),(13,true),(14,true),(15,true),(16,true),(17,true),(18,true),(19,true)] [0,1,2,3,4] (by kernel_rfl) (by decide) rfl ?_
     refine aF [] rfl ?_
     (first|refine aj [] rfl (af 0 rfl rfl rfl rfl) rfl ?_|refine aj [] rfl (af 1 rfl rfl rfl rfl) rfl ?_|refine aj [] rfl (af 2 rfl rfl rfl rfl) rfl ?_|refine aj [] rfl (af 3 rfl rfl rfl rfl) rfl ?_|refine aj [] rfl (af 4 rfl rfl rfl rfl) rfl ?_|refine aj [] rfl (af 5 rfl rfl rfl rfl) rfl ?_)
     refine aF [] rfl ?_
     refine aj [] rfl (aJ rfl rfl rfl rfl rfl hkl) rfl ?_
     refine aj [] rfl (aD (v:=.int .i64 (j:Int)) 0 rfl rfl rfl (b8 hjm)) rfl ?_
     refine aj [] rfl (iR rfl rfl rfl rfl rfl hjl) rfl ?_
     refine aF [] rfl ?_
     refine aj [] rfl (bz 3 rfl rfl rfl (Nat.add_assoc _ _ _) q2) rfl ?_
     refine aF [] rfl ?_
     refine aj [] rfl (aJ rfl rfl rfl rfl rfl hkl) rfl ?_
     refine aj [] rfl (aD (v:=.int .i64 (j:Int)) 0 rfl rfl rfl (b8 hjm)) rfl ?_
     refine aj [] rfl (aJ rfl rfl rfl rfl rfl (by omega)) rfl ?_
     refine aj [] rfl (aD 1 rfl rfl rfl (a9 hfj)) rfl ?_
     refine aF [] rfl ?_
     have hw:IntKind.i64.wrap (r.cap-f.getD j 0)=r.cap-f.getD j 0:=bU (by omega)
     obtain⟨mo',hmo'⟩:∃ mo',mo'=if r.cap-f.getD j 0<mo then r.cap-f.getD j 0 else mo:=⟨_,rfl⟩
     have hmm:1≤mo'∧mo'≤mo∧f.getD j 0+mo'≤r.cap:=by
      rw[hmo'];split<;>omega
     refine cE 8 (v':=.int .i64 mo') rfl (congrArg (Value.int .i64) (by rw[hw,hmo'])) ?_
     refine bv ?_
     refine ai ?_
     refine aa (ae [] rfl ?_)
     refine⟨(k+1,mo'),[0,1,2,3,4],⟨?_,rfl,rfl,rfl,rfl,rfl,rfl,trivial⟩,by decide,rfl,⟨by simp only;omega,by simp only;omega,by simp only;omega,fun j' hj'=>?_⟩,by simp only;omega⟩
     ·show some (Value.int .i64 (IntKind.i64.wrap ((k:Int)+1)))=_
      rw[bU (by omega)];rfl
     ·simp only at hj' ⊢
      rw[List.take_add_one,hj] at hj'
      rcases List.mem_append.1 hj' with hj'|hj'
      ·obtain⟨r',h1,h2⟩:=hmo j' hj'
       exact⟨r',h1,by omega⟩
      ·obtain rfl:j'=j:=by simpa using hj'
       exact⟨r,hr,hmm.2.2⟩
    ·have hk':k=W.length:=by omega
     subst hk'
     rw[List.take_length] at hmo
     refine ad (aa (ae [] rfl ?_))
     refine au ?_
     refine bq (σ:=Nat) (fun t=>[(10,.int .i64 t),(8,.int .i64 mo),(7,.slice A' W.length c'),(6,.int .i64 i),(5,.slice (some ⟨gf,0,none⟩) m m),(2,.pointer (some ⟨p,0,none⟩)),(1,.slice (some ⟨bl,ol,none⟩) l.length cl)])
      (fun t=>[.own (.slice A' W.length c') 3 1 W.length (ap (W.map fun (i:Nat)=>(i:Int))),.own (.slice (some ⟨gf,0,none⟩) m m) 2 1 m (ap (ge mo (W.take t) f)),blk p 27 (bG N A c),.seg b o (arcs N.arcs),.seg bl ol (ap l)])
      (fun t=>t≤W.length) (fun t=>W.length-t)
      0 [0,1,2,3,4] ⟨rfl,rfl,rfl,rfl,rfl,rfl,rfl,trivial⟩ (by decide) rfl (Nat.zero_le _) ?_
     intro k hk
     refine ad (ad (aa (ae [] rfl ?_)))
     refine aC rfl (fun hkl=>av ?_) (fun hkl=>aV ?_)
     ·have hkl:k<W.length:=by omega
      obtain⟨j,hj⟩:∃ j,W[k]?=some j:=⟨W[k],List.getElem?_eq_getElem hkl⟩
      have hjm:(W.map fun (i:Nat)=>(i:Int))[k]?=some (j:Int):=by rw[List.getElem?_map,hj];rfl
      obtain⟨r,hr,hrc⟩:=hmo j (List.mem_of_getElem? hj)
      have hjl:j<N.arcs.length:=(List.getElem?_eq_some_iff.1 hr).1
      obtain⟨hfj,hf0,hf1,hf2⟩:=hfb f j r hf.toRanged hr
      have htk:W.take (k+1)=W.take k++[j]:=by rw[List.take_add_one,hj];rfl
      have hnt:j∉W.take k:=by
       intro hin
       have h1:=hWn
       rw[← List.take_append_drop (k+1) W,htk] at h1
       exact (List.nodup_append.1 (List.nodup_append.1 h1).1).2.2 j hin j (by simp) rfl
      have hcur:(ge mo (W.take k) f)[j]?=some (f.getD j 0):=by
       rw[na mo (W.take k) f j ((List.take_sublist k W).nodup hWn) (fun i hi=>by
        obtain⟨r',h1,_⟩:=hmo i (List.mem_of_mem_take hi)
        have:=(List.getElem?_eq_some_iff.1 h1).1
        omega),if_neg hnt]
       exact hfj
      have hcd:(ge mo (W.take k) f).getD j 0=f.getD j 0:=by rw[List.getD_eq_getElem?_getD,hcur];rfl
      have hnew:ge mo (W.take (k+1)) f=(ge mo (W.take k) f).set j (f.getD j 0+mo):=by rw[htk,pR,hcd]
      obtain⟨g1,rfl⟩:=hAw (by omega)
      refine ad (au ?_)
      refine bp 15 [(0,true),(1,true),(2,true),(3,true),(4,true),(5,true),(6,true),(7,true),(8,true),(9,true),(10,true),(11,true),(12,true),(13,true),(14,true)] [0,1,2,3,4] (by kernel_rfl) (by decide) rfl ?_
      refine aF [] rfl ?_
      refine aj [] rfl (aJ rfl rfl rfl rfl rfl hkl) rfl ?_
      refine aj [] rfl (aD (v:=.int .i64 (j:Int)) 0 rfl rfl rfl (b8 hjm)) rfl ?_
      refine aF [] rfl ?_
      refine aj [] rfl (aJ rfl rfl rfl rfl rfl hkl) rfl ?_
      refine aj [] rfl (aD (v:=.int .i64 (j:Int)) 0 rfl rfl rfl (b8 hjm)) rfl ?_
      refine aj [] rfl (aJ rfl rfl rfl rfl rfl (by omega)) rfl ?_
      refine aj [] rfl (aD 1 rfl rfl rfl (a9 hcur)) rfl ?_
      refine aF [] rfl ?_
      refine aj [] rfl (aJ rfl rfl rfl rfl rfl (by omega)) rfl ?_
      refine cE 82 (v':=.int .i64 (f.getD j 0+mo)) rfl (congrArg (Value.int .i64) (bU (by omega))) ?_
      refine bv ?_
      refine aQ 1 rfl rfl rfl rfl (ep rfl (by rw[iY];omega)) [] rfl ?_
      refine ai ?_
      refine aa (ae [] rfl ?_)
      refine⟨k+1,[0,1,2,3,4],⟨?_,rfl,rfl,rfl,rfl,rfl,rfl,trivial⟩,by decide,by rw[hnew];rfl,by omega,by omega⟩
      show some (Value.int .i64 (IntKind.i64.wrap ((k:Int)+1)))=_
      rw[bU (by omega)];rfl
     ·have hk':k=W.length:=by omega
      subst hk'
      rw[List.take_length]
      refine aa (ae [] rfl ?_)
      refine⟨(i+1,ge mo W f),[1,2,3,4],⟨?_,rfl,rfl,rfl,trivial⟩,by decide,rfl,⟨by simp only;omega,?_⟩,by simp only;omega⟩
      ·show some (Value.int .i64 (IntKind.i64.wrap ((i:Int)+1)))=_
       rw[bU (by omega)];rfl
      ·rcases hW with rfl|hW
       ·exact hf
       ·exact uV hf hW.walk hW.nodup (by omega) hmo
  ·refine ad (aa (ae [] rfl ?_))
   refine aE [0] (by decide) rfl (aB ⟨_,rfl,f,gf,rfl,rfl,hf⟩)
end Go.Proofs.YtpbmihpjgjbndaaGreatDoor
