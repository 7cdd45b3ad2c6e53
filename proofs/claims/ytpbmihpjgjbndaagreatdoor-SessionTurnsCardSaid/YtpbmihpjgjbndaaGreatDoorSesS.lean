/- A session's Solve: what is found, by which engine, and what stays. -/
import Derived.Test.YtpbmihpjgjbndaaGreatDoorSesF
import Derived.Test.YtpbmihpjgjbndaaGreatDoorQX38
import Derived.Test.YtpbmihpjgjbndaaGreatDoorQX40
import Derived.Test.YtpbmihpjgjbndaaGreatDoorMatchP
set_option linter.unusedVariables false
set_option linter.unusedSimpArgs false
namespace Go.Proofs.YtpbmihpjgjbndaaGreatDoor
open Go.RowKit
def oS (N:bc) (sg:Int) (f:List Int):Prop:=
 ((sg=112∨sg=116)∧∃ p k:Nat,Dn N 1 (List.replicate N.arcs.length 0) p k f)∨
 (sg=115∧∃ (nr:Nat) (ts:List jD),nr≤62∧fF (gS N.arcs)=bW nr 0∧(nr=0→∀ a∈N.arcs,a.cap=0)∧Sc N nr nr f ts)
theorem t8 {N:bc} {f:List Int} (h:∀ r,r<(aP (N.arcs.zip f)).length→(aP (N.arcs.zip f)).getD r 0<1) {x:Int} (hx:l0 N (aP (N.arcs.zip f)) 1 x):x=N.src:=by
 induction hx with
 |src=>rfl
 |step r q h1 h2 h3 h4 ih=>
  have:=h q h2
  omega
theorem Sc.max {N:bc} (hR:N.Right) {nr:Nat} {f:List Int} {ts:List jD} (h:Sc N nr nr f ts) (hcap:nr=0→∀ a∈N.arcs,a.cap=0):eY N f:=by
 obtain⟨_,hf,_,_,_,_,hlast⟩:=h.all hR
 refine⟨hf,?_⟩
 rcases Nat.eq_zero_or_pos nr with h0|h0
 ·intro hr
  refine hR.diff (t8 (fun r hr=>?_) hr).symm
  rw[cA,List.length_zip,hf.len,Nat.min_self] at hr
  obtain⟨a,ha⟩:∃ a,N.arcs[r/2]?=some a:=⟨N.arcs[r/2],List.getElem?_eq_getElem (by omega)⟩
  obtain⟨x,hx⟩:∃ x,f[r/2]?=some x:=⟨f[r/2]'(by rw[hf.len];omega),List.getElem?_eq_getElem _⟩
  have hz:=ek ha hx
  obtain⟨g1,g2⟩:=cQ hz
  have hr2:=hf.all _ (List.mem_of_getElem? hz)
  have hc:=hcap h0 a (List.mem_of_getElem? ha)
  simp only at g1 g2 hr2
  rcases Nat.mod_two_eq_zero_or_one r with e|e
  ·rw[show 2*(r/2)=r by omega] at g1
   rw[List.getD_eq_getElem?_getD,g1,Option.getD_some];omega
  ·rw[show 2*(r/2)+1=r by omega] at g2
   rw[List.getD_eq_getElem?_getD,g2,Option.getD_some];omega
 ·obtain⟨lv2,g1,g2⟩:=hlast h0
  obtain⟨j,rfl⟩:∃ j,nr=j+1:=⟨nr-1,by omega⟩
  rw[show j+1-1=j by omega,mq] at g1
  exact pN hf.toRanged g1 g2
theorem oS.max {N:bc} (hR:N.Right) {sg:Int} {f:List Int} (h:oS N sg f):eY N f:=by
 rcases h with ⟨_,p,k,hd⟩|⟨_,nr,ts,_,_,hc,hs⟩
 ·obtain⟨hf,_,_,lv,hlv,hlt⟩:=hd.keeps hR (by decide) (gR _ hR)
  exact⟨hf,pN hf.toRanged hlv hlt⟩
 ·exact hs.max hR hc
theorem rooms {N:bc} (hR:N.Right):∃ nr,nr≤62∧fF (gS N.arcs)=bW nr 0∧(nr=0→∀ a∈N.arcs,a.cap=0):=by
 have hb:=qk hR N.arcs.length
 rw[List.take_of_length_le (Nat.le_refl _)] at hb
 obtain⟨h1,h2,h3⟩:=mZ N.arcs 0 fun a ha=>(hR.arc a ha).2.2
 change 0≤gS N.arcs at h1
 change ∀ a∈N.arcs,a.cap≤gS N.arcs at h2
 obtain⟨nr,g1,g2,g3⟩:=rS hb.1 (by omega)
 refine⟨nr,g1,g2,fun h0 a ha=>?_⟩
 have e:=g3.1 h0
 have:=h2 a ha
 have:=(hR.arc a ha).2.2
 omega
def mn (N:bc) (f s:List Int):Prop:=∃ (l:List Bool) (n:Nat),N.nodes=n∧l.length=n+1∧(∀ v:Nat,l[v]?=some true↔v≤n∧l0 N (aP (N.arcs.zip f)) 1 v)∧s=bZ l true (n+1)
theorem mn.cut {N:bc} (hR:N.Right) {f s:List Int} (hm:eY N f) (h:mn N f s):eP N s∧mX N f s∧s.length≤501:=by
 obtain⟨l,n,h1,h2,h3,rfl⟩:=h
 have hc:=oo hR hm.1 h1 hm.2 h3
 have hl:=jI l true (n+1)
 have:=hR.nodes
 exact⟨hc.1,hc.2,by omega⟩
theorem fS {l:List dG} {A B:Option Addr} (h:arcs l≠[]→A=B) (hl:l≠[]):A=B:=h fun h0=>hl (List.length_eq_zero_iff.1 (by have:=ql l;rw[h0] at this;simp at this;omega))
theorem ia {l:List Int} {A B:Option Addr} (h:az l≠[]→A=B) (hl:l≠[]):A=B:=h fun h0=>hl (by simpa [az] using h0)
def d9 (p:Nat) (m:cl):Heap:=[blk p 113 m.cells,.own (.slice m.An m.N.arcs.length m.cn) 70 3 m.N.arcs.length (arcs m.N.arcs),.own (.slice m.Af m.f.length m.cf) 2 1 m.f.length (az m.f),.own (.slice m.As m.s.length m.cs) 3 1 m.s.length (az m.s)]
def cl.flow (m:cl) (f:List Int) (A:Option Addr) (c:Nat):cl:={ m with f:=f,Af:=A,cf:=c }
def cl.both (m:cl) (f s:List Int) (Af:Option Addr) (cf:Nat) (As:Option Addr) (cs:Nat):cl:={ m with f:=f,Af:=Af,cf:=cf,s:=s,As:=As,cs:=cs,b:=true,d:=true }
theorem qq {m:cl} (h:m.a=true):m.lack []=0:=by unfold cl.lack;rw[h];simp
theorem xB {m:cl} (h:m.a=false) (l:List Bool):m.lack l=9:=by unfold cl.lack;rw[if_pos h]
def yZ (p:Nat) (m:cl) (sg:Int) (v:Value) (H':Heap):Prop:=∃ (f s:List Int) (Af:Option Addr) (cf:Nat) (As:Option Addr) (cs:Nat),oS m.N sg f∧mn m.N f s∧v=pv (dg (m.N.arcs.zip f) m.N.snk,0)∧H'=d9 p (m.both f s Af cf As cs)
set_option maxHeartbeats 2000000 in
theorem wR (p:Nat) (m:cl) (ha:m.a=true) (hR:m.N.Right) (sg:Int) (hsg:sg=112∨sg=116∨sg=115):Fn 28 [.pointer (some ⟨p,0,none⟩),.int .u8 sg] (aO (d9 p m)) ([]++d9 p m) (yZ p m sg):=by
 generalize hM:aO _=M
 have hN:=hR.fits'
 refine aK Tryz.func28 rfl rfl fun w0=>?_
 refine ad (aa (ae [] rfl ?_))
 refine ad (ad (aa (ah [] rfl ?_)))
 refine ap (fst:=[]) (cap:=[]) [] (iR m p ([]) (by decide) none 0 0 0 0 (fun h=>absurd rfl h) rfl) rfl rfl rfl rfl (by kernel_rfl) ⟨⟨0,_,by simp,rfl,aF _ _ _ (0,0),.inr rfl⟩,⟨0,_,by simp,rfl,jA,.inl rfl⟩,trivial⟩ (fun _=>rfl) ?_
 rintro v H' ⟨rfl,rfl⟩
 refine⟨rfl,?_⟩
 rw[qq ha]
 refine ae [] rfl ?_
 refine ad (aa (ae [] rfl ?_))
 refine aD rfl (fun h=>absurd rfl h) (fun _=>aq ?_)
 refine nk (σ:={ t:List Int×Option Addr×Nat//oS m.N sg t.1 }) (fun t=>[(0,.pointer (some ⟨p,0,none⟩))]) (fun t=>d9 p (m.flow t.1.1 t.1.2.1 t.1.2.2)) ?_ ?_
 ·refine ad (aa (ae [] rfl ?_))
  refine ax ?_
  by_cases h23:sg=112∨sg=116
  ·refine dM [(15,.bool true),(0,.pointer (some ⟨p,0,none⟩)),(1,.int .u8 sg)] (d9 p m) ?_ ?_
   ·rcases h23 with rfl|rfl
    ·refine ad (aa (ae [] rfl ?_))
     refine aM 15 (v':=.bool true) rfl (congrArg Value.bool (aA rfl)) ?_
     refine a8 rfl (aq ?_)
     exact⟨[0,1,2,3],⟨rfl,rfl,rfl,trivial⟩,by decide,rfl⟩
    ·refine ad (aa (ae [] rfl ?_))
     refine aM 15 (v':=.bool false) rfl (congrArg Value.bool (aB (by decide))) ?_
     refine bq rfl ?_
     refine aa (ae [] rfl ?_)
     exact⟨[0,1,2,3],⟨congrArg some (congrArg Value.bool (aA rfl)),rfl,rfl,trivial⟩,by decide,rfl⟩
   refine a8 rfl ?_
   refine ad (aa (ah [] rfl ?_))
   refine gq (bg 1 rfl) fun ⟨_,_,hA1,hl1⟩=>?_
   obtain⟨g1,hA1⟩:=cd hA1 hl1
   refine ab [] (v:=bn m.N m.An m.cn) (af 0 rfl rfl rfl rfl) rfl ?_
   refine ah [] rfl ?_
   refine ap [] (xp m.N hN hR m.An m.cn g1 0 (fS hA1) sg h23) rfl rfl rfl rfl (by kernel_rfl) ⟨⟨1,_,by simp,rfl,aS hA1,aX hA1⟩,trivial⟩ (fun _=>rfl) ?_
   rintro v H' ⟨f',ph,k,st',A',c',hd,_,_,_,_,_,rfl,rfl⟩
   refine⟨rfl,?_⟩
   refine ah [] rfl ?_
   refine bA rfl rfl rfl (fun _=>rfl) fun p7=>?_
   refine aE 0 rfl rfl rfl rfl rfl [] rfl ?_
   refine ae [] rfl ?_
   refine aa (ah [] rfl ?_)
   refine ab [] (v:=.slice A' f'.length c') (af 0 rfl rfl rfl rfl) rfl ?_
   refine ah [] rfl ?_
   refine aE 2 rfl rfl rfl rfl rfl [] rfl ?_
   refine ai ?_
   refine⟨⟨(f',A',c'),.inl ⟨h23,ph,k,hd⟩⟩,⟨rfl,trivial⟩,?_⟩
   exact aL.picks [2,3,1,5] (by decide) rfl
  ·obtain rfl:sg=115:=by omega
   refine dM [(15,.bool false),(0,.pointer (some ⟨p,0,none⟩)),(1,.int .u8 115),(14,.int .u8 115)] (d9 p m) ?_ ?_
   ·refine ad (aa (ae [] rfl ?_))
    refine aM 15 (v':=.bool false) rfl (congrArg Value.bool (aB (by decide))) ?_
    refine bq rfl ?_
    refine aa (ae [] rfl ?_)
    exact⟨[0,1,2,3],⟨congrArg some (congrArg Value.bool (aB (by decide))),rfl,rfl,rfl,trivial⟩,by decide,rfl⟩
   refine bq rfl ?_
   refine ad (aa (ae [] rfl ?_))
   refine aM 32 (v':=.bool true) rfl (congrArg Value.bool (aA rfl)) ?_
   refine a8 rfl ?_
   obtain⟨nr,r1,r2,r3⟩:=rooms hR
   refine aa (ah [] rfl ?_)
   refine gq (bg 1 rfl) fun ⟨_,_,hA1,hl1⟩=>?_
   obtain⟨g1,hA1⟩:=cd hA1 hl1
   refine ab [] (v:=bn m.N m.An m.cn) (af 0 rfl rfl rfl rfl) rfl ?_
   refine ah [] rfl ?_
   refine ap [] (yf 112 (.inl rfl) m.N hN hR m.An m.cn g1 0 (fS hA1) nr r1 r2) rfl rfl rfl rfl (by kernel_rfl) ⟨⟨1,_,by simp,rfl,aS hA1,aX hA1⟩,trivial⟩ (fun _=>rfl) ?_
   rintro v H' ⟨f',ts,A',c',At,ct,hs,rfl,rfl⟩
   refine⟨rfl,?_⟩
   refine ah [] rfl ?_
   refine aE 2 rfl rfl rfl rfl rfl [] rfl ?_
   refine ai ?_
   refine⟨⟨(f',A',c'),.inr ⟨rfl,nr,ts,r1,r2,r3,hs⟩⟩,⟨rfl,trivial⟩,?_⟩
   exact aL.picks [2,3,0,5] (by decide) rfl
 rintro⟨⟨f,Af,cf⟩,hS⟩
 simp only at hS ⊢
 have hMx:=hS.max hR
 have hfl:=hMx.1.len
 have hl2:=hR.len
 obtain⟨n,hn⟩:∃ n:Nat,m.N.nodes=n:=⟨m.N.nodes.toNat,by have:=hR.nodes;omega⟩
 refine bB (bg 1 rfl) fun ⟨_,_,hA1,hl1⟩=>?_
 obtain⟨g1,hA1⟩:=cd hA1 hl1
 refine bB (bg 2 rfl) fun ⟨_,_,hA2,hl2'⟩=>?_
 obtain⟨g2,hA2⟩:=cd hA2 hl2'
 refine ad ?_
 refine e7 16 [0,1,2,3,4,5,6,7,8] 9 [(10,true),(11,true),(12,true),(13,true),(14,true),(15,false)] (by kernel_rfl) ?_
 (repeat' (first
  |refine ft (gs:=[999]) rfl rfl ?_
  |refine bv [999] (v:=bn m.N m.An m.cn) rfl rfl (af 0 rfl rfl rfl rfl) rfl ?_
  |refine bv [999] (v:=.slice Af f.length cf) rfl rfl (af 0 rfl rfl rfl rfl) rfl ?_))
 refine ep rfl ?_
 refine ap [] (vz m.N hN hR m.An m.cn g1 0 (fS hA1) f Af cf g2 0 (ia hA2) (aN.inB hR hMx.1.toRanged) (by omega) n hn) rfl rfl rfl rfl (by kernel_rfl) ⟨⟨1,_,by simp[cl.flow,d9],rfl,aS hA1,aX hA1⟩,⟨2,_,by simp[cl.flow,d9],rfl,aS hA2,aX hA2⟩,trivial⟩ (fun _=>rfl) ?_
 rintro v H' (⟨_,_,l,As,cs,hl,hlv,rfl,rfl⟩|⟨k1,_⟩|⟨_,k1,_⟩)
 case inr.inl=>exact absurd hMx.1 k1
 case inr.inr=>exact absurd k1 hMx.2
 refine⟨rfl,?_⟩
 refine ai ⟨⟨[],by decide,rfl⟩,?_⟩
 refine aH [] rfl ?_
 refine a7 rfl ?_
 refine aE 1 rfl rfl rfl rfl rfl [] rfl ?_
 refine ai ⟨⟨[],by decide,rfl⟩,?_⟩
 refine bC ?_
 refine ai ?_
 refine ad (aa (ah [] rfl ?_))
 refine aE 1 rfl rfl rfl rfl rfl [] rfl ?_
 refine ah [] rfl ?_
 refine aE 1 rfl rfl rfl rfl rfl [] rfl ?_
 refine ai ?_
 refine bG (K:=d9 p (m.both f (bZ l true (n+1)) Af cf As cs)) (aL.picks [1,2,3,0] (by decide) rfl) ?_
 refine ad ?_
 refine bz 13 [(0,true),(1,true),(2,true),(3,true),(4,true),(5,true),(6,true),(7,true),(8,false),(9,true),(10,true),(11,true),(12,true)] [0,1,2] (by kernel_rfl) (by decide) rfl ?_
 refine aH [] rfl ?_
 refine aj [] (v:=bn m.N m.An m.cn) rfl (af 0 rfl rfl rfl rfl) rfl ?_
 refine aH [] rfl ?_
 refine aj [] (v:=.slice Af f.length cf) rfl (af 0 rfl rfl rfl rfl) rfl ?_
 refine a7 rfl ?_
 refine ap [] (js m.N hN hR m.An m.cn g1 0 (fS hA1) f Af cf g2 0 (ia hA2) (aN.inB hR hMx.1.toRanged) (by omega)) rfl rfl rfl rfl (by kernel_rfl) ⟨⟨1,_,by simp[cl.both,d9],rfl,aS hA1,aX hA1⟩,⟨2,_,by simp[cl.both,d9],rfl,aS hA2,aX hA2⟩,trivial⟩ (fun _=>rfl) ?_
 rintro v H' ⟨⟨rfl,_⟩|⟨_,k1⟩,rfl⟩
 case inr=>exact absurd hMx.1 k1
 refine⟨rfl,?_⟩
 refine ai ⟨⟨[0,1,2],by decide,rfl⟩,?_⟩
 refine aH [] rfl ?_
 refine bC ?_
 refine ai ?_
 refine ay ⟨_,rfl,f,_,Af,cf,As,cs,hS,⟨l,n,hn,hl,hlv,rfl⟩,rfl,rfl⟩
end Go.Proofs.YtpbmihpjgjbndaaGreatDoor
