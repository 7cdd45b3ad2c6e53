import Derived.Test.YtmcnpaelaieniaaGreatDoorQX102
import Derived.Test.YtmcnpaelaieniaaGreatDoorQX108
import Derived.Test.YtmcnpaelaieniaaGreatDoorQX67
import Derived.Test.YtmcnpaelaieniaaGreatDoorQX104
/- A part of the proof; see NOTES.md. -/
set_option linter.unusedVariables false
set_option linter.unusedSimpArgs false
namespace Go.Proofs.YtmcnpaelaieniaaGreatDoor
theorem De{N:aO}(hR:N.Right){f:LI}(hf:iV N f):∃ s,fu N s/\pj N f s:=by
 have hnn:=hR.nodes;obtain⟨n,hn⟩:∃ n:Nat,N.nodes=n:=⟨N.nodes.toNat,by omega⟩
 have hlr:∀ v:Nat,((List.range (n+1)).map λ (v:Nat)=>dk (oH N (aW (N.arcs.zip f)) 1 v))[v]?=some true↔v<=n/\oH N (aW (N.arcs.zip f)) 1 v:=by
  intro v;rw[GJ];by_cases hv:v<n+1
  ·rw[List.getElem?_range hv];show some (dk _)=some true↔_;by_cases hr:oH N (aW (N.arcs.zip f)) 1 v
   ·rw[aT hr];exact⟨λ _=>⟨by omega,hr⟩,λ _=>rfl⟩
   ·rw[aZ hr];exact⟨λ h=>(by cases h),λ h=>absurd h.2 hr⟩
  ·rw[Hb (by simp;omega)];simp;omega
 exact⟨_,rx hR hf.1 hn hf.2 hlr⟩
theorem yE{N:aO}(hR:N.Right){f f':LI}(hf:iV N f)(hf':aK N f'):da (N.arcs.zip f') N.snk<=da (N.arcs.zip f) N.snk:=by
 obtain⟨s,hs,hc⟩:=De hR hf;rw[<- (pN hR hf.1 hs).2 hc];exact uC hR hf' hs
section
variable {g:Gr} {nl nr:Nat}
end
section
variable {g:Gr} {nl nr:Nat}
end
section
variable {g:Gr} {nl nr:Nat} {f:LI}
end
open Go.RowKit
def qr(N:aO)(sg:Int)(f:LI):Prop:=
 ((sg=112\/sg=116)/\∃ p k:Nat,Dn N 1 (List.replicate N.arcs.length 0) p k f)\/
 (sg=115/\∃ (nr:Nat) (ts:List lE),nr<=62/\ia (jA N.arcs)=cK nr 0/\(nr=0->∀ a∈N.arcs,a.cap=0)/\Sc N nr nr f ts)
theorem x6{N:aO}{f:LI}(h:∀ r,r<(aW (N.arcs.zip f)).length->(aW (N.arcs.zip f)).getD r 0<1){x:Int}(hx:oH N (aW (N.arcs.zip f)) 1 x):x=N.src:=by
 induction hx with
 |src=>rfl
 |step r q h1 h2 h3 h4 ih=>
  have:=h q h2;omega
theorem Sc.max{N:aO}(hR:N.Right){nr:Nat}{f:LI}{ts:List lE}(h:Sc N nr nr f ts)(hcap:nr=0->∀ a∈N.arcs,a.cap=0):iV N f:=by
 obtain⟨_,hf,_,_,_,_,hlast⟩:=h.all hR;refine⟨hf,?_⟩
 rcases Ic nr with h0|h0
 ·intro hr;refine hR.diff (x6 (fun r hr=>?_) hr).symm;rw[de,List.length_zip,hf.len,Nat.min_self] at hr;obtain⟨a,ha⟩:∃ a,N.arcs[r/2]?=some a:=⟨N.arcs[r/2],List.getElem?_eq_getElem (by omega)⟩;obtain⟨x,hx⟩:∃ x,f[r/2]?=some x:=⟨f[r/2]'(by rw[hf.len];omega),List.getElem?_eq_getElem _⟩;have hz:=fg ha hx;obtain⟨g1,g2⟩:=dD hz;have hr2:=hf.all _ (List.mem_of_getElem? hz);have hc:=hcap h0 a (List.mem_of_getElem? ha);simp only at g1 g2 hr2
  rcases IB r with e|e
  ·rw[show 2*(r/2)=r by omega] at g1;rw[GD,g1,G9];omega
  ·rw[show 2*(r/2)+1=r by omega] at g2;rw[GD,g2,G9];omega
 ·obtain⟨lv2,g1,g2⟩:=hlast h0;obtain⟨j,rfl⟩:∃ j,nr=j+1:=⟨nr-1,by omega⟩;rw[show j+1-1=j by omega,qE] at g1;exact tQ hf.toRanged g1 g2
theorem qr.max{N:aO}(hR:N.Right){sg:Int}{f:LI}(h:qr N sg f):iV N f:=by
 rcases h with ⟨_,p,k,hd⟩|⟨_,nr,ts,_,_,hc,hs⟩
 ·obtain⟨hf,_,_,lv,hlv,hlt⟩:=hd.keeps hR (by decide) (fG _ hR);exact⟨hf,tQ hf.toRanged hlv hlt⟩
 ·exact hs.max hR hc
theorem rooms{N:aO}(hR:N.Right):∃ nr,nr<=62/\ia (jA N.arcs)=cK nr 0/\(nr=0->∀ a∈N.arcs,a.cap=0):=by
 have hb:=tq hR N.arcs.length;rw[Hy (GN _)] at hb;obtain⟨h1,h2,h3⟩:=pJ N.arcs 0 λ a ha=>(hR.arc a ha).2.2;change 0<=jA N.arcs at h1;change ∀ a∈N.arcs,a.cap<=jA N.arcs at h2;obtain⟨nr,g1,g2,g3⟩:=wd hb.1 (by omega);refine⟨nr,g1,g2,λ h0 a ha=>?_⟩;have e:=g3.1 h0;have:=h2 a ha;have:=(hR.arc a ha).2.2;omega
def od(N:aO)(f s:LI):Prop:=∃ (l:LB) (n:Nat),N.nodes=n/\l.length=n+1/\(∀ v:Nat,l[v]?=some true↔v<=n/\oH N (aW (N.arcs.zip f)) 1 v)/\s=cN l true (n+1)
theorem od.cut{N:aO}(hR:N.Right){f s:LI}(hm:iV N f)(h:od N f s):fu N s/\pj N f s/\s.length<=501:=by
 obtain⟨l,n,h1,h2,h3,rfl⟩:=h;have hc:=rx hR hm.1 h1 hm.2 h3;have hl:=lP l true (n+1);have:=hR.nodes;exact⟨hc.1,hc.2,by omega⟩
theorem gQ{l:List dM}{A B:OA}(h:arcs l≠[]->A=B)(hl:l≠[]):A=B:=h λ h0=>hl (GT.1 (by have:=sV l;rw[h0] at this;simp at this;omega))
theorem iA{l:LI}{A B:OA}(h:ay l≠[]->A=B)(hl:l≠[]):A=B:=h λ h0=>hl (by simpa [ay] using h0)
def eO(p:Nat)(m:cF):Heap:=[blk p 97 m.cells,.own (.slice m.An m.N.arcs.length m.cn) 37 3 m.N.arcs.length (arcs m.N.arcs),.own (.slice m.Af m.f.length m.cf) 2 1 m.f.length (ay m.f),.own (.slice m.As m.s.length m.cs) 3 1 m.s.length (ay m.s)]
def cF.flow(m:cF)(f:LI)(A:OA)(c:Nat):cF:={ m with f:=f,Af:=A,cf:=c }
def cF.both(m:cF)(f s:LI)(Af:OA)(cf:Nat)(As:OA)(cs:Nat):cF:={ m with f:=f,Af:=Af,cf:=cf,s:=s,As:=As,cs:=cs,b:=true,d:=true }
theorem qD{m:cF}(h:m.a=true):m.lack []=0:=by unfold cF.lack;rw[h];simp
theorem DO{m:cF}(h:m.a=false)(l:LB):m.lack l=9:=by unfold cF.lack;rw[if_pos h]
def E9(p:Nat)(m:cF)(sg:Int)(v:Value)(H':Heap):Prop:=∃ (f s:LI) (Af:OA) (cf:Nat) (As:OA) (cs:Nat),qr m.N sg f/\od m.N f s/\v=qI (da (m.N.arcs.zip f) m.N.snk,0)/\H'=eO p (m.both f s Af cf As cs)
set_option maxHeartbeats 2000000 in
theorem Bz(p:Nat)(m:cF)(ha:m.a=true)(hR:m.N.Right)(sg:Int)(hsg:sg=112\/sg=116\/sg=115):Fn 22 [.pointer (some ⟨p,0,none⟩),.int .u8 sg] (aJ (eO p m)) ([]++eO p m) (E9 p m sg):=by
 generalize hM:aJ _=M
 have hN:=hR.fits';refine aH Tryz.func22 rfl rfl λ w0=>?_;refine ad (aa (ae [] rfl ?_));refine ad (ad (aa (ah [] rfl ?_)));refine ao (fst:=[]) (cap:=[]) [] (jF m p ([]) (by decide) none 0 0 0 0 (λ h=>absurd rfl h) rfl) rfl (by kernel_rfl) ⟨⟨0,_,by simp,rfl,aD _ _ _ (0,0),.inr rfl⟩,⟨0,_,by simp,rfl,f7,.inl rfl⟩,an⟩ (λ _=>rfl) ?_;rintro v H' ⟨rfl,rfl⟩;refine⟨rfl,?_⟩;rw[qD ha];refine ae [] rfl ?_;refine ad (aa (ae [] rfl ?_));refine aC rfl (λ h=>absurd rfl h) (λ _=>aq ?_);refine jj (σ:={ t:LI×OA×Nat//qr m.N sg t.1 }) (λ t=>[(0,.pointer (some ⟨p,0,none⟩))]) (λ t=>eO p (m.flow t.1.1 t.1.2.1 t.1.2.2)) ?_ ?_
 ·refine ad (aa (ae [] rfl ?_));refine av ?_;by_cases h23:sg=112\/sg=116
  ·refine eS [(15,.bool true),(0,.pointer (some ⟨p,0,none⟩)),(1,.int .u8 sg)] (eO p m) ?_ ?_
   ·rcases h23 with rfl|rfl
    ·refine ad (aa (ae [] rfl ?_));refine eP 15 rfl rfl ?_;refine bh rfl (aq ?_);exact⟨[0,1,2,3],⟨rfl,rfl,rfl,an⟩,by decide,rfl⟩
    ·refine ad (aa (ae [] rfl ?_));refine eu 15 rfl (by decide) ?_;refine bG rfl ?_;refine aa (ae [] rfl ?_);exact⟨[0,1,2,3],⟨Gz some (Gz Value.bool (aT rfl)),rfl,rfl,an⟩,by decide,rfl⟩
   refine bh rfl ?_;refine ad (aa (ah [] rfl ?_));refine eL (a8 1 rfl) λ ⟨_,_,hA1,hl1⟩=>?_;obtain⟨g1,hA1⟩:=bQ hA1 hl1;refine ab [] (v:=bx m.N m.An m.cn) (af 0 rfl) rfl ?_;refine ah [] rfl ?_;refine ao [] (xI m.N hN hR m.An m.cn g1 0 (gQ hA1) sg h23) rfl (by kernel_rfl) ⟨⟨1,_,by simp,rfl,aL hA1,a7 hA1⟩,an⟩ (λ _=>rfl) ?_;rintro v H' ⟨f',ph,k,st',A',c',hd,_,_,_,_,_,rfl,rfl⟩;refine⟨rfl,?_⟩;refine ah [] rfl ?_;refine bu rfl rfl rfl (λ _=>rfl) λ p7=>?_;refine aB 0 rfl [] rfl ?_;refine ae [] rfl ?_;refine aa (ah [] rfl ?_);refine ab [] (v:=.slice A' f'.length c') (af 0 rfl) rfl ?_;refine ah [] rfl ?_;refine aB 2 rfl [] rfl ?_;refine ai ?_;refine⟨⟨(f',A',c'),.inl ⟨h23,ph,k,hd⟩⟩,⟨rfl,an⟩,?_⟩;exact aF.picks [2,3,1,5] (by decide) rfl
  ·obtain rfl:sg=115:=by omega
   refine eS [(15,.bool false),(0,.pointer (some ⟨p,0,none⟩)),(1,.int .u8 115),(14,.int .u8 115)] (eO p m) ?_ ?_
   ·refine ad (aa (ae [] rfl ?_));refine eu 15 rfl (by decide) ?_;refine bG rfl ?_;refine aa (ae [] rfl ?_);exact⟨[0,1,2,3],⟨Gz some (Gz Value.bool (aZ (by decide))),rfl,rfl,rfl,an⟩,by decide,rfl⟩
   refine bG rfl ?_;refine ad (aa (ae [] rfl ?_));refine eP 32 rfl rfl ?_;refine bh rfl ?_;obtain⟨nr,r1,r2,r3⟩:=rooms hR;refine aa (ah [] rfl ?_);refine eL (a8 1 rfl) λ ⟨_,_,hA1,hl1⟩=>?_;obtain⟨g1,hA1⟩:=bQ hA1 hl1;refine ab [] (v:=bx m.N m.An m.cn) (af 0 rfl) rfl ?_;refine ah [] rfl ?_;refine ao [] (CE 112 (.inl rfl) m.N hN hR m.An m.cn g1 0 (gQ hA1) nr r1 r2) rfl (by kernel_rfl) ⟨⟨1,_,by simp,rfl,aL hA1,a7 hA1⟩,an⟩ (λ _=>rfl) ?_;rintro v H' ⟨f',ts,A',c',At,ct,hs,rfl,rfl⟩;refine⟨rfl,?_⟩;refine ah [] rfl ?_;refine aB 2 rfl [] rfl ?_;refine ai ?_;refine⟨⟨(f',A',c'),.inr ⟨rfl,nr,ts,r1,r2,r3,hs⟩⟩,⟨rfl,an⟩,?_⟩;exact aF.picks [2,3,0,5] (by decide) rfl
 rintro⟨⟨f,Af,cf⟩,hS⟩;simp only at hS ⊢;have hMx:=hS.max hR;have hfl:=hMx.1.len;have hl2:=hR.len;obtain⟨n,hn⟩:∃ n:Nat,m.N.nodes=n:=⟨m.N.nodes.toNat,by have:=hR.nodes;omega⟩;refine bv (a8 1 rfl) λ ⟨_,_,hA1,hl1⟩=>?_;obtain⟨g1,hA1⟩:=bQ hA1 hl1;refine bv (a8 2 rfl) λ ⟨_,_,hA2,hl2'⟩=>?_;obtain⟨g2,hA2⟩:=bQ hA2 hl2';refine ad ?_;refine eK 16 [0,1,2,3,4,5,6,7,8] 9 (cY [10,11,12,13,14]++[(15,false)]) (by kernel_rfl) ?_
 (repeat' (first|refine ep (gs:=[999]) rfl rfl ?_|refine bA [999] (v:=bx m.N m.An m.cn) rfl rfl (af 0 rfl) rfl ?_|refine bA [999] (v:=.slice Af f.length cf) rfl rfl (af 0 rfl) rfl ?_))
 refine dZ rfl ?_;refine ao [] (Ck m.N hN hR m.An m.cn g1 0 (gQ hA1) f Af cf g2 0 (iA hA2) (aK.inB hR hMx.1.toRanged) (by omega) n hn) rfl (by kernel_rfl) ⟨⟨1,_,by simp[cF.flow,eO],rfl,aL hA1,a7 hA1⟩,⟨2,_,by simp[cF.flow,eO],rfl,aL hA2,a7 hA2⟩,an⟩ (λ _=>rfl) ?_;rintro v H' (⟨_,_,l,As,cs,hl,hlv,rfl,rfl⟩|⟨k1,_⟩|⟨_,k1,_⟩)
 case inr.inl=>exact absurd hMx.1 k1
 case inr.inr=>exact absurd k1 hMx.2
 refine⟨rfl,?_⟩;refine ai ⟨⟨[],by decide,rfl⟩,?_⟩;refine az [] rfl ?_;refine aY rfl ?_;refine aB 1 rfl [] rfl ?_;refine ai ⟨⟨[],by decide,rfl⟩,?_⟩;refine bp ?_;refine ai ?_;refine ad (aa (ah [] rfl ?_));refine aB 1 rfl [] rfl ?_;refine ah [] rfl ?_;refine aB 1 rfl [] rfl ?_;refine ai ?_;refine bH (K:=eO p (m.both f (cN l true (n+1)) Af cf As cs)) (aF.picks [1,2,3,0] (by decide) rfl) ?_;refine ad ?_;refine bq 13 (cY [0,1,2,3,4,5,6,7]++[(8,false)]++cY [9,10,11,12]) [0,1,2] (by kernel_rfl) (by decide) rfl ?_;refine az [] rfl ?_;refine aj [] (v:=bx m.N m.An m.cn) rfl (af 0 rfl) rfl ?_;refine az [] rfl ?_;refine aj [] (v:=.slice Af f.length cf) rfl (af 0 rfl) rfl ?_;refine aY rfl ?_;refine ao [] (eY m.N hN hR m.An m.cn g1 0 (gQ hA1) f Af cf g2 0 (iA hA2) (aK.inB hR hMx.1.toRanged) (by omega)) rfl (by kernel_rfl) ⟨⟨1,_,by simp[cF.both,eO],rfl,aL hA1,a7 hA1⟩,⟨2,_,by simp[cF.both,eO],rfl,aL hA2,a7 hA2⟩,an⟩ (λ _=>rfl) ?_;rintro v H' ⟨⟨rfl,_⟩|⟨_,k1⟩,rfl⟩
 case inr=>exact absurd hMx.1 k1
 refine⟨rfl,?_⟩;refine ai ⟨⟨[0,1,2],by decide,rfl⟩,?_⟩;refine az [] rfl ?_;refine bp ?_;refine ai ?_;refine ax ⟨_,rfl,f,_,Af,cf,As,cs,hS,⟨l,n,hn,hl,hlv,rfl⟩,rfl,rfl⟩
end Go.Proofs.YtmcnpaelaieniaaGreatDoor
