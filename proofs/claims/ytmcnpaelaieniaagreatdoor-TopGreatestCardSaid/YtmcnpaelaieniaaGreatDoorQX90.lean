import Derived.Test.YtmcnpaelaieniaaGreatDoorQX100
import Derived.Test.YtmcnpaelaieniaaGreatDoorQX107
import Derived.Test.YtmcnpaelaieniaaGreatDoorQX66
import Derived.Test.YtmcnpaelaieniaaGreatDoorQX102
/- A part of the proof; see NOTES.md. -/
set_option linter.unusedVariables false
set_option linter.unusedSimpArgs false
namespace Go.Proofs.YtmcnpaelaieniaaGreatDoor
theorem Cw{N:aU}(hR:N.Right){f:LI}(hf:gD N f):∃ s,e8 N s/\n8 N f s:=by
 have hnn:=hR.nodes;obtain⟨n,hn⟩:∃ n:Nat,N.nodes=n:=⟨N.nodes.toNat,by omega⟩
 have hlr:∀ v:Nat,((List.range (n+1)).map λ (v:Nat)=>di (kL N (aP (N.arcs.zip f)) 1 v))[v]?=some true↔v<=n/\kL N (aP (N.arcs.zip f)) 1 v:=by
  intro v;rw[GC];by_cases hv:v<n+1
  ·rw[List.getElem?_range hv];show some (di _)=some true↔_;by_cases hr:kL N (aP (N.arcs.zip f)) 1 v
   ·rw[aR hr];exact⟨λ _=>⟨by omega,hr⟩,λ _=>rfl⟩
   ·rw[a6 hr];exact⟨λ h=>(by cases h),λ h=>absurd h.2 hr⟩
  ·rw[G6 (by simp;omega)];simp;omega
 exact⟨_,kX hR hf.1 hn hf.2 hlr⟩
theorem zG{N:aU}(hR:N.Right){f f':LI}(hf:gD N f)(hf':aK N f'):cS (N.arcs.zip f') N.snk<=cS (N.arcs.zip f) N.snk:=by
 obtain⟨s,hs,hc⟩:=Cw hR hf;rw[<- (iE hR hf.1 hs).2 hc];exact uM hR hf' hs
section
variable {g:Gr} {nl nr:Nat}
end
section
variable {g:Gr} {nl nr:Nat}
end
section
variable {g:Gr} {nl nr:Nat} {f:LI}
end
open Go.RowKit
def nV(N:aU)(sg:Int)(f:LI):Prop:=
 ((sg=112\/sg=116)/\∃ p k:Nat,Dn N 1 (List.replicate N.arcs.length 0) p k f)\/
 (sg=115/\∃ (nr:Nat) (ts:List lH),nr<=62/\im (jC N.arcs)=cG nr 0/\(nr=0->∀ a∈N.arcs,a.cap=0)/\Sc N nr nr f ts)
theorem x4{N:aU}{f:LI}(h:∀ r,r<(aP (N.arcs.zip f)).length->(aP (N.arcs.zip f)).getD r 0<1){x:Int}(hx:kL N (aP (N.arcs.zip f)) 1 x):x=N.src:=by
 induction hx with
 |src=>rfl
 |step r q h1 h2 h3 h4 ih=>
  have:=h q h2;omega
theorem Sc.max{N:aU}(hR:N.Right){nr:Nat}{f:LI}{ts:List lH}(h:Sc N nr nr f ts)(hcap:nr=0->∀ a∈N.arcs,a.cap=0):gD N f:=by
 obtain⟨_,hf,_,_,_,_,hlast⟩:=h.all hR;refine⟨hf,?_⟩
 rcases IF nr with h0|h0
 ·intro hr;refine hR.diff (x4 (fun r hr=>?_) hr).symm;rw[cL,List.length_zip,hf.len,Nat.min_self] at hr;obtain⟨a,ha⟩:∃ a,N.arcs[r/2]?=some a:=⟨N.arcs[r/2],List.getElem?_eq_getElem (by omega)⟩;obtain⟨x,hx⟩:∃ x,f[r/2]?=some x:=⟨f[r/2]'(by rw[hf.len];omega),List.getElem?_eq_getElem _⟩;have hz:=fi ha hx;obtain⟨g1,g2⟩:=dA hz;have hr2:=hf.all _ (List.mem_of_getElem? hz);have hc:=hcap h0 a (List.mem_of_getElem? ha);simp only at g1 g2 hr2
  rcases Iv r with e|e
  ·rw[show 2*(r/2)=r by omega] at g1;rw[Gw,g1,G1];omega
  ·rw[show 2*(r/2)+1=r by omega] at g2;rw[Gw,g2,G1];omega
 ·obtain⟨lv2,g1,g2⟩:=hlast h0;obtain⟨j,rfl⟩:∃ j,nr=j+1:=⟨nr-1,by omega⟩;rw[show j+1-1=j by omega,pV] at g1;exact tq hf.toRanged g1 g2
theorem nV.max{N:aU}(hR:N.Right){sg:Int}{f:LI}(h:nV N sg f):gD N f:=by
 rcases h with ⟨_,p,k,hd⟩|⟨_,nr,ts,_,_,hc,hs⟩
 ·obtain⟨hf,_,_,lv,hlv,hlt⟩:=hd.keeps hR (by decide) (km _ hR);exact⟨hf,tq hf.toRanged hlv hlt⟩
 ·exact hs.max hR hc
theorem rooms{N:aU}(hR:N.Right):∃ nr,nr<=62/\im (jC N.arcs)=cG nr 0/\(nr=0->∀ a∈N.arcs,a.cap=0):=by
 have hb:=ue hR N.arcs.length;rw[Hr (GF _)] at hb;obtain⟨h1,h2,h3⟩:=qz N.arcs 0 λ a ha=>(hR.arc a ha).2.2;change 0<=jC N.arcs at h1;change ∀ a∈N.arcs,a.cap<=jC N.arcs at h2;obtain⟨nr,g1,g2,g3⟩:=vR hb.1 (by omega);refine⟨nr,g1,g2,λ h0 a ha=>?_⟩;have e:=g3.1 h0;have:=h2 a ha;have:=(hR.arc a ha).2.2;omega
def nI(N:aU)(f s:LI):Prop:=∃ (l:LB) (n:Nat),N.nodes=n/\l.length=n+1/\(∀ v:Nat,l[v]?=some true↔v<=n/\kL N (aP (N.arcs.zip f)) 1 v)/\s=bX l true (n+1)
theorem nI.cut{N:aU}(hR:N.Right){f s:LI}(hm:gD N f)(h:nI N f s):e8 N s/\n8 N f s/\s.length<=501:=by
 obtain⟨l,n,h1,h2,h3,rfl⟩:=h;have hc:=kX hR hm.1 h1 hm.2 h3;have hl:=fq l true (n+1);have:=hR.nodes;exact⟨hc.1,hc.2,by omega⟩
theorem gJ{l:List dI}{A B:OA}(h:arcs l≠[]->A=B)(hl:l≠[]):A=B:=h λ h0=>hl (GM.1 (by have:=gQ l;rw[h0] at this;simp at this;omega))
theorem du{l:LI}{A B:OA}(h:ax l≠[]->A=B)(hl:l≠[]):A=B:=h λ h0=>hl (by simpa [ax] using h0)
def eM(p:Nat)(m:cD):Heap:=[blk p 97 m.cells,.own (.slice m.An m.N.arcs.length m.cn) 37 3 m.N.arcs.length (arcs m.N.arcs),.own (.slice m.Af m.f.length m.cf) 2 1 m.f.length (ax m.f),.own (.slice m.As m.s.length m.cs) 3 1 m.s.length (ax m.s)]
def cD.flow(m:cD)(f:LI)(A:OA)(c:Nat):cD:={ m with f:=f,Af:=A,cf:=c }
def cD.both(m:cD)(f s:LI)(Af:OA)(cf:Nat)(As:OA)(cs:Nat):cD:={ m with f:=f,Af:=Af,cf:=cf,s:=s,As:=As,cs:=cs,b:=true,d:=true }
theorem p5{m:cD}(h:m.a=true):m.lack []=0:=by unfold cD.lack;rw[h];simp
theorem CZ{m:cD}(h:m.a=false)(l:LB):m.lack l=9:=by unfold cD.lack;rw[if_pos h]
def En(p:Nat)(m:cD)(sg:Int)(v:Value)(H':Heap):Prop:=∃ (f s:LI) (Af:OA) (cf:Nat) (As:OA) (cs:Nat),nV m.N sg f/\nI m.N f s/\v=tj (cS (m.N.arcs.zip f) m.N.snk,0)/\H'=eM p (m.both f s Af cf As cs)
set_option maxHeartbeats 2000000 in
theorem Cn(p:Nat)(m:cD)(ha:m.a=true)(hR:m.N.Right)(sg:Int)(hsg:sg=112\/sg=116\/sg=115):Fn 22 [.pointer (some ⟨p,0,none⟩),.int .u8 sg] (aL (eM p m)) ([]++eM p m) (En p m sg):=by
 generalize hM:aL _=M
 have hN:=hR.fits';refine aJ Tryz.func22 rfl rfl λ w0=>?_;refine ad (aa (ae [] rfl ?_));refine ad (ad (aa (ah [] rfl ?_)));refine ap (fst:=[]) (cap:=[]) [] (jn m p ([]) (by decide) none 0 0 0 0 (λ h=>absurd rfl h) rfl) rfl (by kernel_rfl) ⟨⟨0,_,by simp,rfl,aF _ _ _ (0,0),.inr rfl⟩,⟨0,_,by simp,rfl,ge,.inl rfl⟩,an⟩ (λ _=>rfl) ?_;rintro v H' ⟨rfl,rfl⟩;refine⟨rfl,?_⟩;rw[p5 ha];refine ae [] rfl ?_;refine ad (aa (ae [] rfl ?_));refine aC rfl (λ h=>absurd rfl h) (λ _=>aq ?_);refine jg (σ:={ t:LI×OA×Nat//nV m.N sg t.1 }) (λ t=>[(0,.pointer (some ⟨p,0,none⟩))]) (λ t=>eM p (m.flow t.1.1 t.1.2.1 t.1.2.2)) ?_ ?_
 ·refine ad (aa (ae [] rfl ?_));refine au ?_;by_cases h23:sg=112\/sg=116
  ·refine fj [(15,.bool true),(0,.pointer (some ⟨p,0,none⟩)),(1,.int .u8 sg)] (eM p m) ?_ ?_
   ·rcases h23 with rfl|rfl
    ·refine ad (aa (ae [] rfl ?_));refine fd 15 rfl rfl ?_;refine bi rfl (aq ?_);exact⟨[0,1,2,3],⟨rfl,rfl,rfl,an⟩,by decide,rfl⟩
    ·refine ad (aa (ae [] rfl ?_));refine eE 15 rfl (by decide) ?_;refine bG rfl ?_;refine aa (ae [] rfl ?_);exact⟨[0,1,2,3],⟨Gt some (Gt Value.bool (aR rfl)),rfl,rfl,an⟩,by decide,rfl⟩
   refine bi rfl ?_;refine ad (aa (ah [] rfl ?_));refine eu (aW 1 rfl) λ ⟨_,_,hA1,hl1⟩=>?_;obtain⟨g1,hA1⟩:=bL hA1 hl1;refine ab [] (v:=bp m.N m.An m.cn) (af 0 rfl) rfl ?_;refine ah [] rfl ?_;refine ap [] (wK m.N hN hR m.An m.cn g1 0 (gJ hA1) sg h23) rfl (by kernel_rfl) ⟨⟨1,_,by simp,rfl,aE hA1,aM hA1⟩,an⟩ (λ _=>rfl) ?_;rintro v H' ⟨f',ph,k,st',A',c',hd,_,_,_,_,_,rfl,rfl⟩;refine⟨rfl,?_⟩;refine ah [] rfl ?_;refine bo rfl rfl rfl (λ _=>rfl) λ p7=>?_;refine aA 0 rfl [] rfl ?_;refine ae [] rfl ?_;refine aa (ah [] rfl ?_);refine ab [] (v:=.slice A' f'.length c') (af 0 rfl) rfl ?_;refine ah [] rfl ?_;refine aA 2 rfl [] rfl ?_;refine ai ?_;refine⟨⟨(f',A',c'),.inl ⟨h23,ph,k,hd⟩⟩,⟨rfl,an⟩,?_⟩;exact aH.picks [2,3,1,5] (by decide) rfl
  ·obtain rfl:sg=115:=by omega
   refine fj [(15,.bool false),(0,.pointer (some ⟨p,0,none⟩)),(1,.int .u8 115),(14,.int .u8 115)] (eM p m) ?_ ?_
   ·refine ad (aa (ae [] rfl ?_));refine eE 15 rfl (by decide) ?_;refine bG rfl ?_;refine aa (ae [] rfl ?_);exact⟨[0,1,2,3],⟨Gt some (Gt Value.bool (a6 (by decide))),rfl,rfl,rfl,an⟩,by decide,rfl⟩
   refine bG rfl ?_;refine ad (aa (ae [] rfl ?_));refine fd 32 rfl rfl ?_;refine bi rfl ?_;obtain⟨nr,r1,r2,r3⟩:=rooms hR;refine aa (ah [] rfl ?_);refine eu (aW 1 rfl) λ ⟨_,_,hA1,hl1⟩=>?_;obtain⟨g1,hA1⟩:=bL hA1 hl1;refine ab [] (v:=bp m.N m.An m.cn) (af 0 rfl) rfl ?_;refine ah [] rfl ?_;refine ap [] (wH 112 (.inl rfl) m.N hN hR m.An m.cn g1 0 (gJ hA1) nr r1 r2) rfl (by kernel_rfl) ⟨⟨1,_,by simp,rfl,aE hA1,aM hA1⟩,an⟩ (λ _=>rfl) ?_;rintro v H' ⟨f',ts,A',c',At,ct,hs,rfl,rfl⟩;refine⟨rfl,?_⟩;refine ah [] rfl ?_;refine aA 2 rfl [] rfl ?_;refine ai ?_;refine⟨⟨(f',A',c'),.inr ⟨rfl,nr,ts,r1,r2,r3,hs⟩⟩,⟨rfl,an⟩,?_⟩;exact aH.picks [2,3,0,5] (by decide) rfl
 rintro⟨⟨f,Af,cf⟩,hS⟩;simp only at hS ⊢;have hMx:=hS.max hR;have hfl:=hMx.1.len;have hl2:=hR.len;obtain⟨n,hn⟩:∃ n:Nat,m.N.nodes=n:=⟨m.N.nodes.toNat,by have:=hR.nodes;omega⟩;refine bh (aW 1 rfl) λ ⟨_,_,hA1,hl1⟩=>?_;obtain⟨g1,hA1⟩:=bL hA1 hl1;refine bh (aW 2 rfl) λ ⟨_,_,hA2,hl2'⟩=>?_;obtain⟨g2,hA2⟩:=bL hA2 hl2';refine ad ?_;refine eK 16 [0,1,2,3,4,5,6,7,8] 9 (cZ [10,11,12,13,14]++[(15,false)]) (by kernel_rfl) ?_
 (repeat' (first|refine ev (gs:=[999]) rfl rfl ?_|refine bA [999] (v:=bp m.N m.An m.cn) rfl rfl (af 0 rfl) rfl ?_|refine bA [999] (v:=.slice Af f.length cf) rfl rfl (af 0 rfl) rfl ?_))
 refine d6 rfl ?_;refine ap [] (mT m.N hN hR m.An m.cn g1 0 (gJ hA1) f Af cf g2 0 (du hA2) (aK.inB hR hMx.1.toRanged) (by omega) n hn) rfl (by kernel_rfl) ⟨⟨1,_,by simp[cD.flow,eM],rfl,aE hA1,aM hA1⟩,⟨2,_,by simp[cD.flow,eM],rfl,aE hA2,aM hA2⟩,an⟩ (λ _=>rfl) ?_;rintro v H' (⟨_,_,l,As,cs,hl,hlv,rfl,rfl⟩|⟨k1,_⟩|⟨_,k1,_⟩)
 case inr.inl=>exact absurd hMx.1 k1
 case inr.inr=>exact absurd k1 hMx.2
 refine⟨rfl,?_⟩;refine ai ⟨⟨[],by decide,rfl⟩,?_⟩;refine aB [] rfl ?_;refine bg rfl ?_;refine aA 1 rfl [] rfl ?_;refine ai ⟨⟨[],by decide,rfl⟩,?_⟩;refine bq ?_;refine ai ?_;refine ad (aa (ah [] rfl ?_));refine aA 1 rfl [] rfl ?_;refine ah [] rfl ?_;refine aA 1 rfl [] rfl ?_;refine ai ?_;refine bJ (K:=eM p (m.both f (bX l true (n+1)) Af cf As cs)) (aH.picks [1,2,3,0] (by decide) rfl) ?_;refine ad ?_;refine bu 13 (cZ [0,1,2,3,4,5,6,7]++[(8,false)]++cZ [9,10,11,12]) [0,1,2] (by kernel_rfl) (by decide) rfl ?_;refine aB [] rfl ?_;refine aj [] (v:=bp m.N m.An m.cn) rfl (af 0 rfl) rfl ?_;refine aB [] rfl ?_;refine aj [] (v:=.slice Af f.length cf) rfl (af 0 rfl) rfl ?_;refine bg rfl ?_;refine ap [] (gq m.N hN hR m.An m.cn g1 0 (gJ hA1) f Af cf g2 0 (du hA2) (aK.inB hR hMx.1.toRanged) (by omega)) rfl (by kernel_rfl) ⟨⟨1,_,by simp[cD.both,eM],rfl,aE hA1,aM hA1⟩,⟨2,_,by simp[cD.both,eM],rfl,aE hA2,aM hA2⟩,an⟩ (λ _=>rfl) ?_;rintro v H' ⟨⟨rfl,_⟩|⟨_,k1⟩,rfl⟩
 case inr=>exact absurd hMx.1 k1
 refine⟨rfl,?_⟩;refine ai ⟨⟨[0,1,2],by decide,rfl⟩,?_⟩;refine aB [] rfl ?_;refine bq ?_;refine ai ?_;refine ay ⟨_,rfl,f,_,Af,cf,As,cs,hS,⟨l,n,hn,hl,hlv,rfl⟩,rfl,rfl⟩
end Go.Proofs.YtmcnpaelaieniaaGreatDoor
