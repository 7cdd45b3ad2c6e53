/- The engine and the words that all chapters share: several texts in one. -/
import Derived.Test.YtpbmihpjgjbndaaGreatDoorQX4
import Derived.Test.YtpbmihpjgjbndaaGreatDoorQX29
/- Chapter 14's flows of raw numbers. -/
set_option linter.unusedVariables false
set_option linter.unusedSimpArgs false
namespace Go.Proofs.YtpbmihpjgjbndaaGreatDoor
open Go.RowKit
set_option maxHeartbeats 1000000 in
theorem qk (N:a8) (hR:N.Right) (A:Option Addr) (c b o:Nat) (hA:N.arcs≠[]→A=some ⟨b,o,none⟩) (f:List Int) (hfl:f.length=N.arcs.length) (F:Option Addr) (cf bf of:Nat) (hF:f≠[]→F=some ⟨bf,of,none⟩) (raw:Int) (hraw:bT raw):
 Fn 50 [br N A c,.slice F f.length cf,.int .i64 raw] [] [.seg b o (arcs N.arcs),.seg bf of (ao f)] fun v H'=>∃ (W:List Nat) (A':Option Addr) (c':Nat) (met:List Bool),v=.slice A' W.length c'∧
  H'=[.own (.slice A' W.length c') 3 1 W.length (ao (W.map fun (i:Nat)=>(i:Int)))]∧(W=[]∨kP N f met W N.snk)∧W.length≤500:=by
 have hnn:=hR.nodes
 have hl2:=hR.len
 have hsr:=hR.src
 have hsk:=hR.snk
 obtain⟨n,hn⟩:∃ n:Nat,N.nodes=n:=⟨N.nodes.toNat,by omega⟩
 obtain⟨s0,hs0⟩:∃ s:Nat,N.src=s:=⟨N.src.toNat,by omega⟩
 refine aS Tryz.func50 rfl rfl fun w0=>?_
 refine ad (aa ?_)
 refine bw (cs:=bP N A c) rfl rfl rfl (fun _=>rfl) fun p=>?_
 refine ae [] rfl ?_
 refine ad (aa (ah [] rfl ?_))
 refine ab [] (af 0 rfl rfl rfl rfl) rfl ?_
 refine ah [] rfl ?_
 refine ax 15 (v':=.int .i64 ((n+1:Nat):Int)) rfl (congrArg (Value.int .i64) ((b8 (n:=N.nodes+1) (by omega)).trans (by omega))) ?_
 refine du (n:=n+1) (c:=n+1) rfl rfl rfl rfl rfl rfl (by omega) (by omega) (by omega) (fun _=>rfl) fun gm=>?_
 refine ae [] rfl ?_
 rw[mj]
 refine ad (aa (ah [] rfl ?_))
 refine ab [] (af 1 rfl rfl rfl rfl) rfl ?_
 refine ae [] rfl ?_
 refine aP 8 (v':=.int .i64 (s0:Int)) rfl (congrArg (Value.int .i64) hs0) ?_
 refine ad (aa (ah [] rfl ?_))
 refine ab [] (aJ rfl rfl rfl rfl rfl (by omega)) rfl ?_
 refine aQ 0 rfl rfl rfl rfl (ja rfl (by simp;omega)) [] rfl ?_
 refine ai ?_
 refine ad (aa (ae [] rfl ?_))
 refine ad (au ?_)
 refine cE 3 1 ?_
 refine bq (σ:=List Bool×Nat×List Nat×Option Addr×Nat) (fun s=>[(9,.slice s.2.2.2.1 s.2.2.1.length s.2.2.2.2),(8,.int .i64 (s.2.1:Int)),(7,.slice (some ⟨gm,0,none⟩) (n+1) (n+1)),(3,.pointer (some ⟨p,0,none⟩)),(2,.int .i64 raw),(1,.slice F f.length cf)])
  (fun s=>[.own (.slice s.2.2.2.1 s.2.2.1.length s.2.2.2.2) 3 1 s.2.2.1.length (ao (s.2.2.1.map fun (i:Nat)=>(i:Int))),.own (.slice (some ⟨gm,0,none⟩) (n+1) (n+1)) 4 1 (n+1) (dP s.1),blk p 27 (bP N A c),.seg b o (arcs N.arcs),.seg bf of (ao f)])
  (fun s=>s.1.length=n+1∧1≤s.2.1∧s.2.1≤n∧kP N f s.1 s.2.2.1 (s.2.1:Int)∧s.2.2.1.length+s.1.count false≤n) (fun s=>s.1.count false)
  ((List.replicate (n+1) false).set s0 true,s0,[],none,0) [0,1,2,3,4] ⟨rfl,rfl,rfl,rfl,rfl,rfl,trivial⟩ (by decide) rfl ⟨by simp,by simp only;omega,by simp only;omega,⟨hs0,List.nodup_nil,fun i hi=>by cases hi⟩,?_⟩ ?_
 ·have:=fM (List.replicate (n+1) false) s0 (by rw[List.getElem?_replicate,if_pos (by omega)])
  have h2:(List.replicate (n+1) false).count false=n+1:=by simp
  simp only[List.length_nil]
  omega
 rintro⟨met,at_,W,Aw,cw⟩ ⟨hml,ha1,han,how,hwl⟩
 simp only at hml ha1 han how hwl ⊢
 refine ad (ad (aa (ah [] rfl ?_)))
 refine ab [] (af 2 rfl rfl rfl rfl) rfl ?_
 refine ae [] rfl ?_
 refine aD rfl (fun hne=>aw ?_) (fun heq=>aX ?_)
 ·refine au (ad (aa (ae [] rfl ?_)))
  refine ad (ad (aa (ae [] rfl ?_)))
  refine au ?_
  refine cE 3 1 ?_
  refine bq (σ:=Nat×Option Addr×Nat) (fun t=>[(11,.int .i64 t.1),(10,.slice t.2.1 (eV N f met at_ t.1).length t.2.2),(9,.slice Aw W.length cw),(8,.int .i64 (at_:Int)),(7,.slice (some ⟨gm,0,none⟩) (n+1) (n+1)),(3,.pointer (some ⟨p,0,none⟩)),(2,.int .i64 raw),(1,.slice F f.length cf)])
   (fun t=>[.own (.slice t.2.1 (eV N f met at_ t.1).length t.2.2) 3 1 (eV N f met at_ t.1).length (ao (eV N f met at_ t.1)),.own (.slice Aw W.length cw) 3 1 W.length (ao (W.map fun (i:Nat)=>(i:Int))),.own (.slice (some ⟨gm,0,none⟩) (n+1) (n+1)) 4 1 (n+1) (dP met),blk p 27 (bP N A c),.seg b o (arcs N.arcs),.seg bf of (ao f)])
   (fun t=>t.1≤N.arcs.length) (fun t=>N.arcs.length-t.1)
   (0,none,0) [0,1,2,3,4,5] ⟨rfl,rfl,rfl,rfl,rfl,rfl,rfl,rfl,trivial⟩ (by decide) rfl (Nat.zero_le _) ?_
  ·rintro⟨k,A1,c1⟩ hk
   simp only at hk ⊢
   have hfkl:=pB N f met at_ k
   refine ad (ad (aa (ah [] rfl ?_)))
   refine ab [] (af 3 rfl rfl rfl rfl) rfl ?_
   refine ae [] rfl ?_
   refine aD rfl (fun hlt=>aw ?_) (fun hge=>aX ?_)
   ·have hlt:k<N.arcs.length:=by omega
    obtain rfl:=hA (by intro h0;rw[h0] at hlt;simp at hlt)
    obtain rfl:=hF (by intro h0;rw[h0] at hfl;simp at hfl;omega)
    obtain⟨a,ha⟩:∃ a,N.arcs[k]?=some a:=⟨N.arcs[k],List.getElem?_eq_getElem hlt⟩
    obtain⟨x,hx⟩:∃ x,f[k]?=some x:=⟨f[k]'(by omega),List.getElem?_eq_getElem (by omega)⟩
    have hxd:f.getD k 0=x:=by rw[List.getD_eq_getElem?_getD,hx];rfl
    obtain⟨q0,q1,q2⟩:=ek ha
    have har:=hR.arc a (List.mem_of_getElem? ha)
    obtain⟨t,ht⟩:∃ t:Nat,a.to=t:=⟨a.to.toNat,by omega⟩
    obtain⟨bt,hbt⟩:∃ bt,met[t]?=some bt:=⟨met[t]'(by omega),List.getElem?_eq_getElem (by omega)⟩
    have hws:=um (f:=f) (met:=met) (at_:=(at_:Int)) ha
    have hq:IntKind.i64.wrap ((k:Int)+1)=((k+1:Nat):Int):=b8 (by omega)
    refine ad (au ?_)
    refine er [(65,.bool (dj (a.fr=at_∧met[a.to.toNat]?=some false∧f.getD k 0<a.cap))),(11,.int .i64 k),(10,.slice A1 (eV N f met at_ k).length c1),(9,.slice Aw W.length cw),(8,.int .i64 (at_:Int)),(7,.slice (some ⟨gm,0,none⟩) (n+1) (n+1)),(3,.pointer (some ⟨p,0,none⟩)),(2,.int .i64 raw),(1,.slice (some ⟨bf,of,none⟩) f.length cf)]
     [.own (.slice A1 (eV N f met at_ k).length c1) 3 1 (eV N f met at_ k).length (ao (eV N f met at_ k)),.own (.slice Aw W.length cw) 3 1 W.length (ao (W.map fun (i:Nat)=>(i:Int))),.own (.slice (some ⟨gm,0,none⟩) (n+1) (n+1)) 4 1 (n+1) (dP met),blk p 27 (bP N (some ⟨b,o,none⟩) c),.seg b o (arcs N.arcs),.seg bf of (ao f)] ?_ ?_
    ·skip
     refine bn 33 [(0,true),(1,true),(2,true),(3,true),(4,true),(5,true),(6,true),(7,true),(8,true),(9,true),(10,true),(11,true),(12,true),(13,true),(14,true),(15,true),(16,true),(17,true),(18,true),(19,true),(20,true),(21,true),(22,true),(23,true),(24,true),(25,true),(26,true),(27,true),(28,true),(29,true),(30,true),(31,true),(32,true)] [2,3,4,5] (by kernel_rfl) (by decide) rfl ?_
     refine aC [] rfl ?_
     (first|refine aj [] rfl (af 0 rfl rfl rfl rfl) rfl ?_|refine aj [] rfl (af 1 rfl rfl rfl rfl) rfl ?_|refine aj [] rfl (af 2 rfl rfl rfl rfl) rfl ?_|refine aj [] rfl (af 3 rfl rfl rfl rfl) rfl ?_|refine aj [] rfl (af 4 rfl rfl rfl rfl) rfl ?_|refine aj [] rfl (af 5 rfl rfl rfl rfl) rfl ?_)
     refine aC [] rfl ?_
     refine aj [] rfl (iP rfl rfl rfl rfl rfl hlt) rfl ?_
     refine aC [] rfl ?_
     refine aj [] rfl (bo 2 rfl rfl rfl (Nat.add_zero _) q0) rfl ?_
     refine aC [] rfl ?_
     by_cases h1:a.fr=at_
     ·refine bX 41 (v':=.bool true) rfl (congrArg Value.bool (az h1)) ?_
      refine aC [8] rfl ?_
      (first|refine aj [8] rfl (af 0 rfl rfl rfl rfl) rfl ?_|refine aj [8] rfl (af 1 rfl rfl rfl rfl) rfl ?_|refine aj [8] rfl (af 2 rfl rfl rfl rfl) rfl ?_|refine aj [8] rfl (af 3 rfl rfl rfl rfl) rfl ?_|refine aj [8] rfl (af 4 rfl rfl rfl rfl) rfl ?_|refine aj [8] rfl (af 5 rfl rfl rfl rfl) rfl ?_)
      refine aC [8] rfl ?_
      refine aj [8] rfl (iP rfl rfl rfl rfl rfl hlt) rfl ?_
      refine aC [8] rfl ?_
      refine aj [8] rfl (bo 2 rfl rfl rfl (Nat.add_assoc _ _ _) q1) rfl ?_
      refine bX 48 (v':=.int .i64 (t:Int)) rfl (congrArg (Value.int .i64) ht) ?_
      refine aj [8] rfl (aJ rfl rfl rfl rfl rfl (by omega)) rfl ?_
      refine aj [8] rfl (aF 0 rfl rfl rfl (show (dP met)[t]?=some (.bool bt) from je hbt)) rfl ?_
      cases bt with
      |true=>
       refine aC [8] rfl ?_
       refine dC [20] rfl ?_
       refine ai ⟨[0,1,2,3,4,5],⟨congrArg some (congrArg Value.bool (aA (fun h=>by rw[ht,Int.toNat_natCast,hbt] at h;simp at h)).symm),rfl,rfl,rfl,rfl,rfl,rfl,rfl,rfl,trivial⟩,by decide,rfl⟩
      |false=>
       refine aC [8] rfl ?_
       refine aC [20] rfl ?_
       refine aj [20] rfl (fg rfl rfl rfl rfl rfl (by omega)) rfl ?_
       refine aj [20] rfl (bo 3 rfl rfl rfl rfl (a9 hx)) rfl ?_
       refine aC [20] rfl ?_
       (first|refine aj [20] rfl (af 0 rfl rfl rfl rfl) rfl ?_|refine aj [20] rfl (af 1 rfl rfl rfl rfl) rfl ?_|refine aj [20] rfl (af 2 rfl rfl rfl rfl) rfl ?_|refine aj [20] rfl (af 3 rfl rfl rfl rfl) rfl ?_|refine aj [20] rfl (af 4 rfl rfl rfl rfl) rfl ?_|refine aj [20] rfl (af 5 rfl rfl rfl rfl) rfl ?_)
       refine aC [20] rfl ?_
       refine aj [20] rfl (iP rfl rfl rfl rfl rfl hlt) rfl ?_
       refine aC [20] rfl ?_
       refine aj [20] rfl (bo 2 rfl rfl rfl (Nat.add_assoc _ _ _) q2) rfl ?_
       refine dC [20] rfl ?_
       refine ai ⟨[0,1,2,3,4,5],⟨congrArg some (congrArg Value.bool ?_),rfl,rfl,rfl,rfl,rfl,rfl,rfl,rfl,trivial⟩,by decide,rfl⟩
       exact dI ⟨fun h=>⟨h1,by rw[ht,Int.toNat_natCast,hbt],by rw[hxd];exact h⟩,fun h=>by rw[hxd] at h;exact h.2.2⟩
     ·refine bX 41 (v':=.bool false) rfl (congrArg Value.bool (aA h1)) ?_
      refine dC [8,20] rfl ?_
      refine ai ⟨[0,1,2,3,4,5],⟨congrArg some (congrArg Value.bool (aA (fun h=>h1 h.1)).symm),rfl,rfl,rfl,rfl,rfl,rfl,rfl,rfl,trivial⟩,by decide,rfl⟩
    ·by_cases hgo:a.fr=at_∧met[a.to.toNat]?=some false∧f.getD k 0<a.cap
     ·rw[if_pos hgo] at hws
      refine aP 65 (v':=.bool true) rfl (congrArg Value.bool (az hgo)) ?_
      refine bA rfl ?_
      refine aa (ah [] rfl ?_)
      refine bH rfl rfl rfl rfl rfl rfl rfl (fun _=>rfl) fun g2=>?_
      refine bc (n:=(eV N f met at_ k).length) (m:=1) (off:=0) (news:=ao [(k:Int)]) 1 0 rfl rfl rfl rfl rfl rfl (by decide) rfl rfl (aL g2 _ _ (0,0)) (fun _=>rfl) rfl rfl (by omega) (by omega) (fun _ _=>rfl) fun A2 c2=>?_
      rw[show (eV N f met at_ k).length+1=(eV N f met at_ (k+1)).length by rw[hws];simp,show ao (eV N f met at_ k)++ao [(k:Int)]=ao (eV N f met at_ (k+1)) by rw[hws];simp[ao]]
      refine ae [] rfl ?_
      refine aa (ae [] rfl ?_)
      exact⟨(k+1,A2,c2),[1,2,3,4,5,6],⟨congrArg some (congrArg (Value.int .i64) hq),rfl,rfl,rfl,rfl,rfl,rfl,rfl,trivial⟩,by decide,rfl,by simp only;omega,by simp only;omega⟩
     ·rw[if_neg hgo,List.append_nil] at hws
      refine aP 65 (v':=.bool false) rfl (congrArg Value.bool (aA hgo)) ?_
      refine bU rfl (aw ?_)
      refine aa (ae [] rfl ?_)
      refine⟨(k+1,A1,c1),[0,1,2,3,4,5],⟨congrArg some (congrArg (Value.int .i64) hq),?_,rfl,rfl,rfl,rfl,rfl,rfl,trivial⟩,by decide,?_,by simp only;omega,by simp only;omega⟩
      ·show _=some (Value.slice A1 (eV N f met at_ (k+1)).length c1)
       rw[hws];rfl
      ·show _=some [aO.own (Value.slice A1 (eV N f met at_ (k+1)).length c1) 3 1 (eV N f met at_ (k+1)).length (ao (eV N f met at_ (k+1))),_,_,_,_,_]
       rw[hws];rfl
   ·have hk':k=N.arcs.length:=by omega
    subst hk'
    obtain⟨m,hm⟩:∃ m,m=(eV N f met at_ N.arcs.length).length:=⟨_,rfl⟩
    rw[← hm] at hfkl ⊢
    refine ad (ad (aa (ae [] rfl ?_)))
    refine aD rfl (fun h0=>?_) (fun hne0=>aw ?_)
    ·refine ad (aa (ae [] rfl ?_))
     refine cE 3 1 ?_
     refine aE [0] (by decide) rfl (aB ⟨_,rfl,[],none,0,met,rfl,rfl,.inl rfl,Nat.zero_le _⟩)
    have hm0:0<m:=by omega
    have hWn:W.length<n+1:=by omega
    have hbig:=hR.nodes
    obtain⟨q,hq⟩:∃ q,q=raw.tdiv ((W.length+1:Nat):Int):=⟨_,rfl⟩
    have hqin:bT q:=by
     rw[hq]
     exact vU hraw (by omega)
    obtain⟨j,hj⟩:∃ j:Nat,dB q m=j:=⟨(dB q m).toNat,by have:=(eg (c:=q) (n:=m) (by omega)).1;omega⟩
    have hjm:j<m:=by have:=(eg (c:=q) (n:=m) (by omega)).2;omega
    obtain⟨x,hx⟩:∃ x,(eV N f met at_ N.arcs.length)[j]?=some x:=⟨(eV N f met at_ N.arcs.length)[j]'(by omega),List.getElem?_eq_getElem (by omega)⟩
    obtain⟨i,a,rfl,ha,hfr,hma,hca⟩:=vN (List.mem_of_getElem? hx)
    have hi:i<N.arcs.length:=(List.getElem?_eq_some_iff.1 ha).1
    obtain⟨q0,q1,q2⟩:=ek ha
    have har:=hR.arc a (List.mem_of_getElem? ha)
    obtain⟨t,ht⟩:∃ t:Nat,a.to=t:=⟨a.to.toNat,by omega⟩
    obtain rfl:=hA (by intro h0;rw[h0] at hi;simp at hi)
    refine bL (be 0 rfl) fun ⟨_,hwc,hAw,_⟩=>?_
    obtain⟨g1,rfl⟩:=hAw hm0
    refine ad (aa (ah [] rfl ?_))
    refine ax 77 (v':=.int .i64 ((W.length+1:Nat):Int)) rfl (congrArg (Value.int .i64) ((b8 (n:=(W.length:Int)+1) (by omega)).trans (by omega))) ?_
    refine ab [] (xl rfl rfl rfl (by omega)) rfl ?_
    refine ax 78 (v':=.int .i64 q) rfl (congrArg (Value.int .i64) (by rw[hq];exact b8 (hq▸hqin))) ?_
    refine ah [] rfl ?_
    refine av [] (dM hqin (by omega:(0:Int)<m)) rfl rfl rfl rfl (by kernel_rfl) trivial (fun _=>rfl) ?_
    rintro v H' ⟨rfl,rfl⟩
    refine⟨rfl,?_⟩
    refine ax 81 (v':=.int .i64 (j:Int)) rfl (congrArg (Value.int .i64) hj) ?_
    refine ab [] (aJ rfl rfl rfl rfl rfl hjm) rfl ?_
    refine ab [] (aF (v:=.int .i64 (i:Int)) 0 rfl rfl rfl (b9 hx)) rfl ?_
    refine ae [] rfl ?_
    refine ad (aa (ah [] rfl ?_))
    refine bH rfl rfl rfl rfl rfl rfl rfl (fun _=>rfl) fun g2=>?_
    refine bc (n:=W.length) (m:=1) (off:=0) (news:=ao [(i:Int)]) 2 0 rfl rfl rfl rfl rfl rfl (by decide) rfl rfl (aL g2 _ _ (0,0)) (fun _=>rfl) rfl rfl (by omega) (by omega) (fun _ _=>rfl) fun A2 c2=>?_
    rw[show W.length+1=(W++[i]).length by simp,show ao (W.map fun (i:Nat)=>(i:Int))++ao [(i:Int)]=ao ((W++[i]).map fun (i:Nat)=>(i:Int)) by simp[ao]]
    refine ae [] rfl ?_
    refine ad (aa (ah [] rfl ?_))
    (first|refine ab [] (af 0 rfl rfl rfl rfl) rfl ?_|refine ab [] (af 1 rfl rfl rfl rfl) rfl ?_|refine ab [] (af 2 rfl rfl rfl rfl) rfl ?_|refine ab [] (af 3 rfl rfl rfl rfl) rfl ?_|refine ab [] (af 4 rfl rfl rfl rfl) rfl ?_|refine ab [] (af 5 rfl rfl rfl rfl) rfl ?_|refine ab [] (af 6 rfl rfl rfl rfl) rfl ?_|refine ab [] (af 7 rfl rfl rfl rfl) rfl ?_)
    refine ah [] rfl ?_
    refine ab [] (iP rfl rfl rfl rfl rfl hi) rfl ?_
    refine ah [] rfl ?_
    refine ab [] (bo 5 rfl rfl rfl (Nat.add_assoc _ _ _) q1) rfl ?_
    refine ae [] rfl ?_
    refine aP 8 (v':=.int .i64 (t:Int)) rfl (congrArg (Value.int .i64) ht) ?_
    refine aa (ah [] rfl ?_)
    refine ab [] (aJ rfl rfl rfl rfl rfl (by omega)) rfl ?_
    refine aQ 3 rfl rfl rfl rfl (ja rfl (by omega)) [] rfl ?_
    refine ai ?_
    have hmt:met[t]?=some false:=by rw[← Int.toNat_natCast t,← ht];exact hma
    have hcs:=fM met t hmt
    refine⟨(met.set t true,t,W++[i],A2,c2),[2,3,4,5,6],⟨rfl,rfl,rfl,rfl,rfl,rfl,trivial⟩,by decide,rfl,⟨by simp only[List.length_set];omega,by simp only;omega,by simp only;omega,?_,by simp only[List.length_append,List.length_singleton];omega⟩,by simp only;omega⟩
    have hst:=kP.step (hfr▸how) ha hma hca
    rw[ht,Int.toNat_natCast] at hst
    exact hst
 ·refine ad (aa (ae [] rfl ?_))
  refine aE [0] (by decide) rfl (aB ⟨_,rfl,W,Aw,cw,met,rfl,rfl,.inr ?_,by omega⟩)
  rw[← Classical.not_not.1 heq];exact how
end Go.Proofs.YtpbmihpjgjbndaaGreatDoor
/- Chapter 14's flows of raw numbers: the whole. -/
set_option linter.unusedVariables false
set_option linter.unusedSimpArgs false
namespace Go.Proofs.YtpbmihpjgjbndaaGreatDoor
open Go.RowKit
set_option maxHeartbeats 1000000 in
theorem qG (N:a8) (hR:N.Right) (A:Option Addr) (c b o:Nat) (hA:N.arcs≠[]→A=some ⟨b,o,none⟩) (L:Option Addr) (cl bl ol:Nat) (l:List Int) (hL:l≠[]→L=some ⟨bl,ol,none⟩) (hl:∀ x∈l,bT x) (hs:l.length*8≤140737488351232):
 Fn 14 [br N A c,.slice L l.length cl] [] [.seg b o (arcs N.arcs),.seg bl ol (ao l)] fun v H'=>∃ (f:List Int) (g:Nat),v=.slice (some ⟨g,0,none⟩) N.arcs.length N.arcs.length∧
  H'=[.own (.slice (some ⟨g,0,none⟩) N.arcs.length N.arcs.length) 2 1 N.arcs.length (ao f)]∧aI N f:=by
 have hl2:=hR.len
 obtain⟨m,hm⟩:∃ m,N.arcs.length=m:=⟨_,rfl⟩
 refine aS Tryz.func14 rfl rfl fun w0=>?_
 refine ad (aa ?_)
 refine bw (cs:=bP N A c) rfl rfl rfl (fun _=>rfl) fun p=>?_
 refine ae [] rfl ?_
 refine ad (aa (ah [] rfl ?_))
 (first|refine ab [] (af 0 rfl rfl rfl rfl) rfl ?_|refine ab [] (af 1 rfl rfl rfl rfl) rfl ?_|refine ab [] (af 2 rfl rfl rfl rfl) rfl ?_|refine ab [] (af 3 rfl rfl rfl rfl) rfl ?_|refine ab [] (af 4 rfl rfl rfl rfl) rfl ?_|refine ab [] (af 5 rfl rfl rfl rfl) rfl ?_|refine ab [] (af 6 rfl rfl rfl rfl) rfl ?_|refine ab [] (af 7 rfl rfl rfl rfl) rfl ?_)
 refine ah [] rfl ?_
 rw[hm]
 refine du (n:=m) (c:=m) rfl rfl rfl rfl rfl rfl (by omega) (by omega) (by omega) (fun _=>rfl) fun gf=>?_
 refine ae [] rfl ?_
 rw[show made [Value.int .i64 0] (m*1)=ao (List.replicate m 0) by rw[dk,Nat.mul_one];simp[ao]]
 refine ad (ad (aa (ae [] rfl ?_)))
 refine au ?_
 refine bq (σ:=Nat×List Int) (fun s=>[(6,.int .i64 s.1),(5,.slice (some ⟨gf,0,none⟩) m m),(2,.pointer (some ⟨p,0,none⟩)),(1,.slice L l.length cl)])
  (fun s=>[.own (.slice (some ⟨gf,0,none⟩) m m) 2 1 m (ao s.2),blk p 27 (bP N A c),.seg b o (arcs N.arcs),.seg bl ol (ao l)])
  (fun s=>s.1≤l.length∧aI N s.2) (fun s=>l.length-s.1)
  (0,List.replicate m 0) [0,1,2,3] ⟨rfl,rfl,rfl,rfl,trivial⟩ (by decide) rfl ⟨Nat.zero_le _,hm▸gT N hR⟩ ?_
 rintro⟨i,f⟩ ⟨hi,hf⟩
 simp only at hi hf ⊢
 have hfl:=hf.len
 refine ad (er [(22,.bool (dj (i<l.length∧i<8))),(6,.int .i64 i),(5,.slice (some ⟨gf,0,none⟩) m m),(2,.pointer (some ⟨p,0,none⟩)),(1,.slice L l.length cl)]
  [.own (.slice (some ⟨gf,0,none⟩) m m) 2 1 m (ao f),blk p 27 (bP N A c),.seg b o (arcs N.arcs),.seg bl ol (ao l)] ?_ ?_)
 ·skip
  refine aa (ah [] rfl ?_)
  by_cases h1:(i:Int)<l.length
  ·refine ax 19 (v':=.bool true) rfl (congrArg Value.bool (az h1)) ?_
   refine ae [4] rfl ?_
   exact⟨[0,1,2,3],⟨congrArg some (congrArg Value.bool (dI (by omega))),rfl,rfl,rfl,rfl,trivial⟩,by decide,rfl⟩
  ·refine ax 19 (v':=.bool false) rfl (congrArg Value.bool (aA h1)) ?_
   refine ae [4] rfl ?_
   exact⟨[0,1,2,3],⟨congrArg some (congrArg Value.bool (aA (by omega)).symm),rfl,rfl,rfl,rfl,trivial⟩,by decide,rfl⟩
 ·refine aD rfl (fun hgo=>aw ?_) (fun hno=>aX ?_)
  ·have hlt:=hgo.1
   obtain rfl:=hL (by rintro rfl;simp at hlt)
   obtain⟨x,hx⟩:∃ x,l[i]?=some x:=⟨l[i],List.getElem?_eq_getElem hlt⟩
   have hxin:=hl x (List.mem_of_getElem? hx)
   refine ad (au ?_)
   refine ad ?_
   refine bn 8 [(0,true),(1,true),(2,true),(3,true),(4,true),(5,true),(6,false),(7,true)] [0,1,2,3] (by kernel_rfl) (by decide) rfl ?_
   refine aj [] rfl (af (v:=br N A c) 1 rfl rfl rfl rfl) rfl ?_
   refine aC [] rfl ?_
   refine aj [] rfl (fg rfl rfl rfl rfl rfl hlt) rfl ?_
   refine aj [] rfl (bo 3 rfl rfl rfl rfl (cj hx)) rfl ?_
   refine a6 rfl ?_
   refine av [] (qk N hR A c b o hA f hfl (some ⟨gf,0,none⟩) m gf 0 (fun _=>rfl) x hxin) rfl rfl rfl (by rw[hfl,hm];rfl) (by kernel_rfl) ⟨⟨2,_,by simp,rfl,aq _ _ _,ay⟩,⟨0,_,by simp,rfl,bI,aU (fun _=>rfl)⟩,trivial⟩ (fun _=>rfl) ?_
   rintro v H' ⟨W,A',c',met,rfl,rfl,hW,hW5⟩
   refine⟨rfl,ai ⟨⟨[1,2,3,4],by decide,rfl⟩,?_⟩⟩
   refine dC [] rfl ?_
   refine ai ?_
   have hWr:∀ j∈W,∃ r:dH,N.arcs[j]?=some r∧f.getD j 0<r.cap:=by
    intro j hj
    rcases hW with rfl|hW
    ·cases hj
    ·obtain⟨r,h1,h2,_⟩:=hW.room j hj
     exact⟨r,h1,h2⟩
   have hWn:W.Nodup:=by
    rcases hW with rfl|hW
    ·exact List.nodup_nil
    ·exact hW.nodup
   have hfb:∀ (f':List Int) (j:Nat) (r:dH),Ranged N f'→N.arcs[j]?=some r→f'[j]?=some (f'.getD j 0)∧0≤f'.getD j 0∧f'.getD j 0≤r.cap∧r.cap≤4611686018427387903:=by
    intro f' j r hf' hr
    have hj:j<N.arcs.length:=(List.getElem?_eq_some_iff.1 hr).1
    have h1:f'[j]?=some (f'.getD j 0):=by rw[List.getD_eq_getElem?_getD,List.getElem?_eq_getElem (by have:=hf'.len;omega)];rfl
    have h2:=hf'.all (r,f'.getD j 0) (List.mem_of_getElem? (List.getElem?_zip_eq_some.2 ⟨hr,h1⟩))
    exact⟨h1,h2.1,h2.2,hR.cap (List.mem_of_getElem? hr)⟩
   have hpk:=eg (c:=x) (n:=30) (by decide)
   refine bL (be 0 rfl) fun ⟨_,hwc,hAw,_⟩=>?_
   refine ad (aa (ah [] rfl ?_))
   refine ab [] (fg rfl rfl rfl rfl rfl hlt) rfl ?_
   refine ab [] (bo 4 rfl rfl rfl rfl (cj hx)) rfl ?_
   refine av [] (dM hxin (by decide:(0:Int)<30)) rfl rfl rfl rfl (by kernel_rfl) trivial (fun _=>rfl) ?_
   rintro v H' ⟨rfl,rfl⟩
   refine⟨rfl,?_⟩
   refine ae [] rfl ?_
   refine aP 8 (v':=.int .i64 (dB x 30+1)) rfl (congrArg (Value.int .i64) (b8 (by omega))) ?_
   refine ad (ad (aa (ae [] rfl ?_)))
   refine au ?_
   refine bq (σ:=Nat×Int) (fun t=>[(9,.int .i64 t.1),(8,.int .i64 t.2),(7,.slice A' W.length c'),(6,.int .i64 i),(5,.slice (some ⟨gf,0,none⟩) m m),(2,.pointer (some ⟨p,0,none⟩)),(1,.slice (some ⟨bl,ol,none⟩) l.length cl)])
    (fun _=>[.own (.slice A' W.length c') 3 1 W.length (ao (W.map fun (i:Nat)=>(i:Int))),.own (.slice (some ⟨gf,0,none⟩) m m) 2 1 m (ao f),blk p 27 (bP N A c),.seg b o (arcs N.arcs),.seg bl ol (ao l)])
    (fun t=>t.1≤W.length∧1≤t.2∧t.2≤30∧∀ j∈W.take t.1,∃ r:dH,N.arcs[j]?=some r∧f.getD j 0+t.2≤r.cap) (fun t=>W.length-t.1)
    (0,dB x 30+1) [0,1,2,3,4] ⟨rfl,rfl,rfl,rfl,rfl,rfl,rfl,trivial⟩ (by decide) rfl ⟨Nat.zero_le _,by simp only;omega,by simp only;omega,fun j hj=>by simp at hj⟩ ?_
   ·rintro⟨k,mo⟩ ⟨hk,hmo1,hmo2,hmo⟩
    simp only at hk hmo1 hmo2 hmo ⊢
    refine ad (ad (aa (ae [] rfl ?_)))
    refine aD rfl (fun hkl=>aw ?_) (fun hkl=>aX ?_)
    ·have hkl:k<W.length:=by omega
     obtain⟨j,hj⟩:∃ j,W[k]?=some j:=⟨W[k],List.getElem?_eq_getElem hkl⟩
     have hjm:(W.map fun (i:Nat)=>(i:Int))[k]?=some (j:Int):=by rw[List.getElem?_map,hj];rfl
     obtain⟨r,hr,hrc⟩:=hWr j (List.mem_of_getElem? hj)
     have hjl:j<N.arcs.length:=(List.getElem?_eq_some_iff.1 hr).1
     obtain⟨hfj,hf0,hf1,hf2⟩:=hfb f j r hf.toRanged hr
     obtain⟨q0,q1,q2⟩:=ek hr
     obtain rfl:=hA (by intro h0;rw[h0] at hjl;simp at hjl)
     obtain⟨g1,rfl⟩:=hAw (by omega)
     refine ad (au ?_)
     refine bn 20 [(0,true),(1,true),(2,true),(3,true),(4,true),(5,true),(6,true),(7,true),(8,true),(9,true),(10,true),(11,true),(12,true),(13,true),(14,true),(15,true),(16,true),(17,true),(18,true),(19,true)] [0,1,2,3,4] (by kernel_rfl) (by decide) rfl ?_
     refine aC [] rfl ?_
     (first|refine aj [] rfl (af 0 rfl rfl rfl rfl) rfl ?_|refine aj [] rfl (af 1 rfl rfl rfl rfl) rfl ?_|refine aj [] rfl (af 2 rfl rfl rfl rfl) rfl ?_|refine aj [] rfl (af 3 rfl rfl rfl rfl) rfl ?_|refine aj [] rfl (af 4 rfl rfl rfl rfl) rfl ?_|refine aj [] rfl (af 5 rfl rfl rfl rfl) rfl ?_)
     refine aC [] rfl ?_
     refine aj [] rfl (aJ rfl rfl rfl rfl rfl hkl) rfl ?_
     refine aj [] rfl (aF (v:=.int .i64 (j:Int)) 0 rfl rfl rfl (b9 hjm)) rfl ?_
     refine aj [] rfl (iP rfl rfl rfl rfl rfl hjl) rfl ?_
     refine aC [] rfl ?_
     refine aj [] rfl (bo 3 rfl rfl rfl (Nat.add_assoc _ _ _) q2) rfl ?_
     refine aC [] rfl ?_
     refine aj [] rfl (aJ rfl rfl rfl rfl rfl hkl) rfl ?_
     refine aj [] rfl (aF (v:=.int .i64 (j:Int)) 0 rfl rfl rfl (b9 hjm)) rfl ?_
     refine aj [] rfl (aJ rfl rfl rfl rfl rfl (by omega)) rfl ?_
     refine aj [] rfl (aF 1 rfl rfl rfl (a9 hfj)) rfl ?_
     refine aC [] rfl ?_
     have hw:IntKind.i64.wrap (r.cap-f.getD j 0)=r.cap-f.getD j 0:=b8 (by omega)
     obtain⟨mo',hmo'⟩:∃ mo',mo'=if r.cap-f.getD j 0<mo then r.cap-f.getD j 0 else mo:=⟨_,rfl⟩
     have hmm:1≤mo'∧mo'≤mo∧f.getD j 0+mo'≤r.cap:=by
      rw[hmo'];split<;>omega
     refine bX 8 (v':=.int .i64 mo') rfl (congrArg (Value.int .i64) (by rw[hw,hmo'])) ?_
     refine bu ?_
     refine ai ?_
     refine aa (ae [] rfl ?_)
     refine⟨(k+1,mo'),[0,1,2,3,4],⟨?_,rfl,rfl,rfl,rfl,rfl,rfl,trivial⟩,by decide,rfl,⟨by simp only;omega,by simp only;omega,by simp only;omega,fun j' hj'=>?_⟩,by simp only;omega⟩
     ·show some (Value.int .i64 (IntKind.i64.wrap ((k:Int)+1)))=_
      rw[b8 (by omega)];rfl
     ·simp only at hj' ⊢
      rw[List.take_add_one,hj] at hj'
      rcases List.mem_append.1 hj' with hj'|hj'
      ·obtain⟨r',h1,h2⟩:=hmo j' hj'
       exact⟨r',h1,by omega⟩
      ·obtain rfl:j'=j:=by simpa using hj'
       exact⟨r,hr,hmm.2.2⟩
    ·have hk':k=W.length:=by omega
     subst hk'
     rw[List.take_length] at hmo
     refine ad (aa (ae [] rfl ?_))
     refine au ?_
     refine bq (σ:=Nat) (fun t=>[(10,.int .i64 t),(8,.int .i64 mo),(7,.slice A' W.length c'),(6,.int .i64 i),(5,.slice (some ⟨gf,0,none⟩) m m),(2,.pointer (some ⟨p,0,none⟩)),(1,.slice (some ⟨bl,ol,none⟩) l.length cl)])
      (fun t=>[.own (.slice A' W.length c') 3 1 W.length (ao (W.map fun (i:Nat)=>(i:Int))),.own (.slice (some ⟨gf,0,none⟩) m m) 2 1 m (ao (f5 mo (W.take t) f)),blk p 27 (bP N A c),.seg b o (arcs N.arcs),.seg bl ol (ao l)])
      (fun t=>t≤W.length) (fun t=>W.length-t)
      0 [0,1,2,3,4] ⟨rfl,rfl,rfl,rfl,rfl,rfl,rfl,trivial⟩ (by decide) rfl (Nat.zero_le _) ?_
     intro k hk
     refine ad (ad (aa (ae [] rfl ?_)))
     refine aD rfl (fun hkl=>aw ?_) (fun hkl=>aX ?_)
     ·have hkl:k<W.length:=by omega
      obtain⟨j,hj⟩:∃ j,W[k]?=some j:=⟨W[k],List.getElem?_eq_getElem hkl⟩
      have hjm:(W.map fun (i:Nat)=>(i:Int))[k]?=some (j:Int):=by rw[List.getElem?_map,hj];rfl
      obtain⟨r,hr,hrc⟩:=hmo j (List.mem_of_getElem? hj)
      have hjl:j<N.arcs.length:=(List.getElem?_eq_some_iff.1 hr).1
      obtain⟨hfj,hf0,hf1,hf2⟩:=hfb f j r hf.toRanged hr
      have htk:W.take (k+1)=W.take k++[j]:=by rw[List.take_add_one,hj];rfl
      have hnt:j∉W.take k:=by
       intro hin
       have h1:=hWn
       rw[← List.take_append_drop (k+1) W,htk] at h1
       exact (List.nodup_append.1 (List.nodup_append.1 h1).1).2.2 j hin j (by simp) rfl
      have hcur:(f5 mo (W.take k) f)[j]?=some (f.getD j 0):=by
       rw[mg mo (W.take k) f j ((List.take_sublist k W).nodup hWn) (fun i hi=>by
        obtain⟨r',h1,_⟩:=hmo i (List.mem_of_mem_take hi)
        have:=(List.getElem?_eq_some_iff.1 h1).1
        omega),if_neg hnt]
       exact hfj
      have hcd:(f5 mo (W.take k) f).getD j 0=f.getD j 0:=by rw[List.getD_eq_getElem?_getD,hcur];rfl
      have hnew:f5 mo (W.take (k+1)) f=(f5 mo (W.take k) f).set j (f.getD j 0+mo):=by rw[htk,pR,hcd]
      obtain⟨g1,rfl⟩:=hAw (by omega)
      refine ad (au ?_)
      refine bn 15 [(0,true),(1,true),(2,true),(3,true),(4,true),(5,true),(6,true),(7,true),(8,true),(9,true),(10,true),(11,true),(12,true),(13,true),(14,true)] [0,1,2,3,4] (by kernel_rfl) (by decide) rfl ?_
      refine aC [] rfl ?_
      refine aj [] rfl (aJ rfl rfl rfl rfl rfl hkl) rfl ?_
      refine aj [] rfl (aF (v:=.int .i64 (j:Int)) 0 rfl rfl rfl (b9 hjm)) rfl ?_
      refine aC [] rfl ?_
      refine aj [] rfl (aJ rfl rfl rfl rfl rfl hkl) rfl ?_
      refine aj [] rfl (aF (v:=.int .i64 (j:Int)) 0 rfl rfl rfl (b9 hjm)) rfl ?_
      refine aj [] rfl (aJ rfl rfl rfl rfl rfl (by omega)) rfl ?_
      refine aj [] rfl (aF 1 rfl rfl rfl (a9 hcur)) rfl ?_
      refine aC [] rfl ?_
      refine aj [] rfl (aJ rfl rfl rfl rfl rfl (by omega)) rfl ?_
      refine bX 82 (v':=.int .i64 (f.getD j 0+mo)) rfl (congrArg (Value.int .i64) (b8 (by omega))) ?_
      refine bu ?_
      refine aQ 1 rfl rfl rfl rfl (em rfl (by rw[i6];omega)) [] rfl ?_
      refine ai ?_
      refine aa (ae [] rfl ?_)
      refine⟨k+1,[0,1,2,3,4],⟨?_,rfl,rfl,rfl,rfl,rfl,rfl,trivial⟩,by decide,by rw[hnew];rfl,by omega,by omega⟩
      show some (Value.int .i64 (IntKind.i64.wrap ((k:Int)+1)))=_
      rw[b8 (by omega)];rfl
     ·have hk':k=W.length:=by omega
      subst hk'
      rw[List.take_length]
      refine aa (ae [] rfl ?_)
      refine⟨(i+1,f5 mo W f),[1,2,3,4],⟨?_,rfl,rfl,rfl,trivial⟩,by decide,rfl,⟨by simp only;omega,?_⟩,by simp only;omega⟩
      ·show some (Value.int .i64 (IntKind.i64.wrap ((i:Int)+1)))=_
       rw[b8 (by omega)];rfl
      ·rcases hW with rfl|hW
       ·exact hf
       ·exact uK hf hW.walk hW.nodup (by omega) hmo
  ·refine ad (aa (ae [] rfl ?_))
   refine aE [0] (by decide) rfl (aB ⟨_,rfl,f,gf,rfl,rfl,hf⟩)
end Go.Proofs.YtpbmihpjgjbndaaGreatDoor
