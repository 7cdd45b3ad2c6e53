import Derived.Test.YtmcnpaelaieniaaGreatDoorQX101
import Derived.Test.YtmcnpaelaieniaaGreatDoorQX59
import Derived.Test.YtmcnpaelaieniaaGreatDoorQX98
/- A part of the proof; see NOTES.md. -/
set_option linter.unusedVariables false
set_option linter.unusedSimpArgs false
namespace Go.Proofs.YtmcnpaelaieniaaGreatDoor
open Go.RowKit
theorem Dx(r:Nat):r^^^1=bP r:=by
 have h1:=Nat.xor_div_two (a:=r) (b:=1)
 have h2:(r^^^1)%2=(r+1)%2:=by
  have h:=Nat.xor_mod_two_eq_one (a:=r) (b:=1);by_cases h2:r%2=1
  ·have:¬ (r^^^1)%2=1:=by rw[h];simp[h2]
   omega
  ·have:(r^^^1)%2=1:=by rw[h];simp[h2]
   omega
 have h3:r/2^^^1/2=r/2:=by show r/2^^^0=_;exact Nat.xor_zero _
 unfold bP;split<;>omega
theorem CQ{r:Nat}(h:r<4611686018427387904):IntKind.i64.wrap ((BitVec.ofInt IntKind.i64.bits (r:Int)^^^BitVec.ofInt IntKind.i64.bits 1).toNat:Int)=((bP r:Nat):Int):=by
 have e:(BitVec.ofInt IntKind.i64.bits (r:Int)^^^BitVec.ofInt IntKind.i64.bits 1).toNat=r^^^1:=by
  rw[BitVec.toNat_xor,BitVec.toNat_ofInt,BitVec.toNat_ofInt];have e1:((1:Int)%((2^IntKind.i64.bits:Nat):Int)).toNat=1:=by decide
  have e2:((2^IntKind.i64.bits:Nat):Int)=18446744073709551616:=by decide
  rw[e1,e2]
  congr 1
  omega
 rw[e,Dx,cv (by unfold bP;split<;>omega)]
theorem BZ(N:aU)(A:OA)(c pw p1:Nat)(Ar:OA)(cr gr:Nat)(least:Int)(gl n:Nat)(Aw:OA)(nw cw:Nat)(rm:LI)(hrl:rm.length=2*N.arcs.length)(hAr:rm≠[]->Ar=some ⟨gr,0,none⟩)(r:Nat)(hr:r<2*N.arcs.length):
 Fn 230 [.int .i64 r,.pointer (some ⟨p1,0,none⟩)] [] [.seg p1 0 [.pointer (some ⟨pw,0,none⟩)],.seg pw 0 (sp N A c Ar cr least gl n Aw nw cw),.seg gr 0 (ax rm)] λ v H'=>v=.bool (di (rm.getD r 0<least))/\H'=[]:=by
 obtain⟨x,hxr⟩:∃ x,rm[r]?=some x:=⟨rm[r]'(by omega),Gq (by omega)⟩;have hxd:rm.getD r 0=x:=by rw[Gw,hxr];rfl
 obtain rfl:=hAr (by intro h0;rw[h0] at hxr;simp at hxr);rw[hxd];refine aJ Tryz.func230 rfl rfl λ w0=>?_;refine ad (aa (ae [] rfl ?_));refine ad ?_;refine bu 13 (cZ [0,1,2,3,4,5,6,7,8,9,10,11,12]) [0,1,2] (by kernel_rfl) (by decide) rfl ?_;refine aj [] rfl (a8 (i:=0) 0 rfl rfl rfl) rfl ?_;refine aB [] rfl ?_;refine aj [] rfl (a8 (i:=4) (v:=.slice (some ⟨gr,0,none⟩) (2*N.arcs.length) cr) 1 rfl rfl rfl) rfl ?_;refine aB [] rfl ?_;refine aj [] rfl (aG rfl hr) rfl ?_;refine aj [] rfl (fm (i:=r) 2 rfl rfl rfl (GZ _).symm (bD hxr)) rfl ?_;refine aj [] rfl (a8 (i:=0) 0 rfl rfl rfl) rfl ?_;refine aB [] rfl ?_;refine aj [] rfl (a8 (i:=5) (v:=.int .i64 least) 1 rfl rfl rfl) rfl ?_;refine dw [] rfl ?_;refine ai ?_;exact az [] (by decide) rfl (ay ⟨_,rfl,rfl,rfl⟩)
theorem BD(N:aU)(A:OA)(c pw p1:Nat)(Ar:OA)(cr gr:Nat)(least:Int)(gl n:Nat)(Aw:OA)(cw gw:Nat)(rm:LI)(hrl:rm.length=2*N.arcs.length)(hAr:rm≠[]->Ar=some ⟨gr,0,none⟩)
 (W:LN) (hW:∀ r∈W,r<2*N.arcs.length) (hWl:W.length<=1000) (hAw:W≠[]->Aw=some ⟨gw,0,none⟩) (hex:∃ r∈W,rm.getD r 0<least):
 Fn 229 [.slice Aw W.length cw,.func (.func 230) #[] #[.pointer (some ⟨p1,0,none⟩)]] [] [.seg p1 0 [.pointer (some ⟨pw,0,none⟩)],.seg pw 0 (sp N A c Ar cr least gl n Aw W.length cw),.seg gr 0 (ax rm),.seg gw 0 (bS W)]
  λ v H'=>v=.int .i64 (mA least rm W:Nat)/\H'=[]:=by
 refine aJ Tryz.func229 rfl rfl λ w0=>?_;refine ad (aa (ae [] rfl ?_));refine ad (ad (aa (ae [] rfl ?_)));refine au ?_
 refine bO (σ:=Nat) (λ k=>[(8,.int .i64 k),(7,.int .i64 W.length),(1,.func (.func 230) #[] #[.pointer (some ⟨p1,0,none⟩)]),(0,.slice Aw W.length cw)])
  (λ _=>[.seg p1 0 [.pointer (some ⟨pw,0,none⟩)],.seg pw 0 (sp N A c Ar cr least gl n Aw W.length cw),.seg gr 0 (ax rm),.seg gw 0 (bS W)]) (λ k=>k<=W.length/\∀ j r,j<k->W[j]?=some r->¬ rm.getD r 0<least) (λ k=>W.length-k)
  0 [0,1,2,3] ⟨rfl,rfl,rfl,rfl,an⟩ (by decide) rfl ⟨GB _,λ j r h=>by omega⟩ ?_
 rintro k ⟨hk,hbef⟩;refine ad (aa (ae [] rfl ?_));refine ad (aC rfl (λ hlt=>aq ?_) (λ hge=>bc ?_))
 ·have hlt:k<W.length:=by omega
  obtain⟨r,hr⟩:∃ r,W[k]?=some r:=⟨W[k],Gq hlt⟩;obtain rfl:=hAw (by rintro rfl;simp at hlt);refine ad (au ?_);refine ad (aa (ae [] rfl ?_));refine ad (aa (ah [] rfl ?_));refine ab [] (aG rfl hlt) rfl ?_;refine ab [] (fm (i:=k) 3 rfl rfl rfl (GZ _).symm (dl hr)) rfl ?_;refine ap (fst:=[]) (cap:=[.pointer (some ⟨p1,0,none⟩)]) [] (BZ N A c pw p1 Ar cr gr least gl n _ W.length cw rm hrl hAr r (hW r (Gu hr))) rfl (by kernel_rfl) ⟨⟨0,_,by simp,rfl,ak _ _ _,av⟩,⟨1,_,by simp,rfl,ak _ _ _,av⟩,⟨2,_,by simp,rfl,ak _ _ _,av⟩,an⟩ (λ _=>rfl) ?_;rintro v H' ⟨rfl,rfl⟩;refine⟨rfl,?_⟩;refine ai ?_;refine aC rfl (λ hs=>?_) (λ hs=>aq ?_)
  ·refine ad (aa (ae [] rfl ?_));refine az [] (by decide) rfl (ay ⟨_,rfl,congrArg (Value.int .i64) ?_,rfl⟩)
   have:mA least rm W=k:=by
    unfold mA;refine (List.findIdx_eq hlt).2 ⟨by rw[(Gv.1 hr).2];exact Ii hs,λ j hj=>?_⟩;have:=hbef j (W[j]'(by omega)) hj (Gq (by omega))
    simpa using this
   rw[this]
  ·skip
   refine aa (ae [] rfl ?_);refine⟨k+1,[0,1,2,3],⟨?_,rfl,rfl,rfl,an⟩,by decide,rfl,⟨by omega,λ j q hj hq=>?_⟩,by omega⟩
   ·show some (Value.int .i64 (IntKind.i64.wrap ((k:Int)+1)))=_;rw[cv (by omega)];rfl
   ·by_cases e:j=k
    ·subst e;rw[hr] at hq;simp only[Gs] at hq;rw[<- hq];exact hs
    ·exact hbef j q (by omega) hq
 ·exfalso;obtain⟨r,hr,hs⟩:=hex;obtain⟨j,hj,hjr⟩:=Hj.1 hr;exact hbef j r (by omega) (by rw[Gq hj,hjr]) hs
def xz(least:Int)(N:aU)(A:OA)(c:Nat)(gr cr pw gl n:Nat)(rm:LI)(W:LN)(v:Value)(H':Heap):Prop:=
 ∃ (Aw:OA) (cw:Nat) (At:OA) (ct:Nat),v=.agg #[.slice At W.length ct,.int .i64 (cH rm W)]/\
   H'=[blk pw 303 (sp N A c (some ⟨gr,0,none⟩) cr least gl n Aw (mA least (cj (cH rm W) W rm) W) cw),.own (.slice (some ⟨gr,0,none⟩) (2*N.arcs.length) cr) 2 1 (2*N.arcs.length) (ax (cj (cH rm W) W rm)),
    .own (.slice Aw (mA least (cj (cH rm W) W rm) W) cw) 3 1 (mA least (cj (cH rm W) W rm) W) (bS (W.take (mA least (cj (cH rm W) W rm) W)))]
theorem v7(rm:LI)(W:LN)(x:Int)(k r:Nat)(hr:W[k]?=some r):(W.take (k+1)).foldl (λ m q=>if rm.getD q 0<m then rm.getD q 0 else m) x=if rm.getD r 0<(W.take k).foldl (λ m q=>if rm.getD q 0<m then rm.getD q 0 else m) x then rm.getD r 0 else (W.take k).foldl (λ m q=>if rm.getD q 0<m then rm.getD q 0 else m) x:=by
 rw[GO,hr,Iy];rfl
set_option maxHeartbeats 1000000 in
theorem Dh(N:aU)(hl2:N.arcs.length<=2000)(A:OA)(c:Nat)(pw gr cr:Nat)(least:Int)(hle:1<=least)(gl n:Nat)(Aw:OA)(cw:Nat)(rm:LI)(hrl:rm.length=2*N.arcs.length)(hrb:∀ q,0<=rm.getD q 0/\rm.getD q 0<=4611686018427387903)
 (W:LN) (hW:∀ r∈W,r<2*N.arcs.length) (hWl:W.length<=1000) (hWn:W.Nodup) (hWf:∀ r∈W,∀ q∈W,bP r≠q) (hne:W≠[]):
 Fn 227 [.pointer (some ⟨pw,0,none⟩)] (aL ([blk pw 303 (sp N A c (some ⟨gr,0,none⟩) cr least gl n Aw W.length cw),.own (.slice (some ⟨gr,0,none⟩) (2*N.arcs.length) cr) 2 1 (2*N.arcs.length) (ax rm),.own (.slice Aw W.length cw) 3 1 W.length (bS W)]))
  ([]++([blk pw 303 (sp N A c (some ⟨gr,0,none⟩) cr least gl n Aw W.length cw),.own (.slice (some ⟨gr,0,none⟩) (2*N.arcs.length) cr) 2 1 (2*N.arcs.length) (ax rm),.own (.slice Aw W.length cw) 3 1 W.length (bS W)]))
  (xz least N A c gr cr pw gl n rm W):=by
 generalize hM:aL _=M
 have hWpos:0<W.length:=Hc.2 hne;obtain⟨r0,hr0⟩:∃ r0,W[0]?=some r0:=⟨W[0],Gq hWpos⟩;have hhead:W.headD 0=r0:=by rw[List.headD_eq_head?_getD,List.head?_eq_getElem?,hr0];rfl
 have hget:∀ r∈W,rm[r]?=some (rm.getD r 0):=λ r hr=>by rw[Gw,Gq (by have:=hW r hr;omega)];rfl
 have hr0m:=Gu hr0;have hx0:=hget r0 hr0m;refine iN Tryz.func227 rfl rfl λ w0=>?_;refine ad (aa ?_);refine bx (cs:=[.pointer (some ⟨pw,0,none⟩)]) rfl rfl rfl (λ _=>rfl) λ p1=>?_;refine bo rfl rfl rfl (λ _=>rfl) λ p2=>?_;refine ae [] rfl ?_;show J _ _ _ _ [_,_,_,_,_];refine bh (aW 4 rfl) λ ⟨_,hcwl,hAw0,_⟩=>?_;obtain⟨gw,rfl⟩:=hAw0 hWpos;refine ad ?_;refine bu 13 (cZ [0,1,2,3,4,5,6,7,8,9,10,11,12]) [0,1,2,3,4] (by kernel_rfl) (by decide) rfl ?_;refine aj [] rfl (af (v:=.pointer (some ⟨pw,0,none⟩)) 1 rfl) rfl ?_;refine aB [] rfl ?_;refine aj [] rfl (af (v:=.slice (some ⟨gr,0,none⟩) (2*N.arcs.length) cr) 2 rfl) rfl ?_;refine aj [] rfl (af (v:=.pointer (some ⟨pw,0,none⟩)) 1 rfl) rfl ?_;refine aB [] rfl ?_;refine aj [] rfl (af (v:=.slice (some ⟨gw,0,none⟩) W.length cw) 2 rfl) rfl ?_;refine aj [] rfl (aG (m:=0) rfl hWpos) rfl ?_;refine aj [] rfl (aD (v:=.int .i64 (r0:Int)) 4 rfl rfl rfl (dl hr0)) rfl ?_;refine aj [] rfl (aG rfl (hW r0 hr0m)) rfl ?_;refine aj [] rfl (aD 3 rfl rfl rfl (bD hx0)) rfl ?_;refine dw [] rfl ?_;refine ai ?_;refine ad (ad (aa ?_));refine ab [] (af (v:=.pointer (some ⟨pw,0,none⟩)) 1 rfl) rfl ?_;refine ah [] rfl ?_;refine ab [] (af (v:=.slice (some ⟨gw,0,none⟩) W.length cw) 2 rfl) rfl ?_;refine ae [] rfl ?_;refine au ?_
 refine bO (σ:=Nat) (λ k=>[(27,.int .i64 k),(26,.int .i64 W.length),(25,.slice (some ⟨gw,0,none⟩) W.length cw),(3,.int .i64 ((W.take k).foldl (λ m q=>if rm.getD q 0<m then rm.getD q 0 else m) (rm.getD r0 0))),(2,.pointer (some ⟨p2,0,none⟩)),(1,.pointer (some ⟨p1,0,none⟩))])
  (λ _=>[blk p2 300 [.slice none 0 0,.int .i64 0],blk p1 297 [.pointer (some ⟨pw,0,none⟩)],blk pw 303 (sp N A c (some ⟨gr,0,none⟩) cr least gl n (some ⟨gw,0,none⟩) W.length cw),.own (.slice (some ⟨gr,0,none⟩) (2*N.arcs.length) cr) 2 1 (2*N.arcs.length) (ax rm),.own (.slice (some ⟨gw,0,none⟩) W.length cw) 3 1 W.length (bS W)])
  (λ k=>k<=W.length) (λ k=>W.length-k) 0 [0,1,2,3,4] ⟨rfl,rfl,rfl,rfl,rfl,rfl,an⟩ (by decide) rfl (GB _) ?_
 intro k hk;refine ad (aa (ae [] rfl ?_));refine ad (aC rfl (λ hlt=>aq ?_) (λ hge=>bc ?_))
 ·have hlt:k<W.length:=by omega
  obtain⟨r,hr⟩:∃ r,W[k]?=some r:=⟨W[k],Gq hlt⟩;have hrm:=Gu hr;have hstep:=v7 rm W (rm.getD r0 0) k r hr;refine ad (au ?_);refine ad (aa (ah [] rfl ?_));refine ab [] (aG rfl hlt) rfl ?_;refine ab [] (aD (v:=.int .i64 (r:Int)) 4 rfl rfl rfl (dl hr)) rfl ?_;refine ae [] rfl ?_;refine aa (ah [] rfl ?_);refine ab [] (af (v:=.pointer (some ⟨pw,0,none⟩)) 1 rfl) rfl ?_;refine ah [] rfl ?_;refine ab [] (af (v:=.slice (some ⟨gr,0,none⟩) (2*N.arcs.length) cr) 2 rfl) rfl ?_;refine ah [] rfl ?_;refine ab [] (aG rfl (hW r hrm)) rfl ?_;refine ab [] (aD 3 rfl rfl rfl (bD (hget r hrm))) rfl ?_;refine ae [] rfl ?_;refine aa (ae [] rfl ?_);refine⟨k+1,[0,1,2,3,4],⟨?_,rfl,rfl,by rw[hstep];rfl,rfl,rfl,an⟩,by decide,rfl,by omega,by omega⟩;show some (Value.int .i64 (IntKind.i64.wrap ((k:Int)+1)))=_;rw[cv (by omega)];rfl
 obtain rfl:k=W.length:=by omega
 rw[GY,show W.foldl (λ m q=>if rm.getD q 0<m then rm.getD q 0 else m) (rm.getD r0 0)=cH rm W by unfold cH;rw[hhead]];unfold xz;obtain⟨ra,hra,hma⟩:=kN (rm:=rm) hne;have hmb:=hrb ra;rw[<- hma] at hmb;obtain⟨a,ha⟩:∃ a,a=cH rm W:=⟨_,rfl⟩;have hmle:∀ r∈W,a<=rm.getD r 0:=λ r hr=>ha▸mX r hr;rw[<- ha] at hmb hma ⊢
 have hcur:∀ k q:Nat,q<2*N.arcs.length->(cj a (W.take k) rm)[q]?=some ((cj a (W.take k) rm).getD q 0):=λ k q hq=>by
  rw[Gw,Gq (by rw[fJ];omega)];rfl
 have hcv:∀ k q:Nat,(cj a (W.take k) rm).getD q 0=rm.getD q 0+(if bP q∈W.take k then a else 0)-(if q∈W.take k then a else 0):=λ k q=>
  f7 hrl (λ r hr=>hW r (Hl hr)) ((List.take_sublist k W).nodup hWn) q
 refine ad (aa ?_);refine ab [] (af (v:=.pointer (some ⟨pw,0,none⟩)) 1 rfl) rfl ?_;refine ah [] rfl ?_;refine ab [] (af (v:=.slice (some ⟨gw,0,none⟩) W.length cw) 2 rfl) rfl ?_;refine b9 [] (om (some ⟨gw,0,none⟩) cw gw 0 (W.map λ (i:Nat)=>(i:Int)) (λ _=>rfl) (by rw[GA];omega)) rfl rfl rfl (by rw[GA];rfl) (by kernel_rfl) ⟨⟨4,_,by simp,rfl,cp,aM (λ _=>rfl)⟩,an⟩ (λ _=>rfl) ?_;rintro v H' ⟨At,ct,rfl,rfl⟩;refine⟨rfl,?_⟩;rw[GA];refine ah [] rfl ?_;refine ab [] (bz rfl rfl rfl rfl rfl rfl) rfl ?_;refine bo rfl rfl rfl (λ _=>rfl) λ p6=>?_;refine aA 0 rfl [] rfl ?_;refine ai ?_;refine ad (ad (aa ?_));refine ab [] (af (v:=.pointer (some ⟨pw,0,none⟩)) 3 rfl) rfl ?_;refine ah [] rfl ?_;refine ab [] (af (v:=.slice (some ⟨gw,0,none⟩) W.length cw) 4 rfl) rfl ?_;refine ae [] rfl ?_;refine au ?_
 refine bO (σ:=Nat) (λ k=>[(53,.int .i64 k),(52,.int .i64 W.length),(51,.slice (some ⟨gw,0,none⟩) W.length cw),(3,.int .i64 a),(6,.pointer (some ⟨p6,0,none⟩)),(2,.pointer (some ⟨p2,0,none⟩)),(1,.pointer (some ⟨p1,0,none⟩))])
  (λ k=>[blk p6 300 [.slice At W.length ct,.int .i64 a],blk p2 300 [.slice none 0 0,.int .i64 0],blk p1 297 [.pointer (some ⟨pw,0,none⟩)],blk pw 303 (sp N A c (some ⟨gr,0,none⟩) cr least gl n (some ⟨gw,0,none⟩) W.length cw),.own (.slice (some ⟨gr,0,none⟩) (2*N.arcs.length) cr) 2 1 (2*N.arcs.length) (ax (cj a (W.take k) rm)),.own (.slice (some ⟨gw,0,none⟩) W.length cw) 3 1 W.length (bS W)])
  (λ k=>k<=W.length) (λ k=>W.length-k) 0 [0,2,3,4,5,6] ⟨rfl,rfl,rfl,rfl,rfl,rfl,rfl,an⟩ (by decide) rfl (GB _) ?_
 intro k hk;refine ad (aa (ae [] rfl ?_));refine ad (aC rfl (λ hlt=>aq ?_) (λ hge=>bc ?_))
 ·have hlt:k<W.length:=by omega
  obtain⟨r,hr⟩:∃ r,W[k]?=some r:=⟨W[k],Gq hlt⟩;have hrm:=Gu hr;have hrl2:=hW r hrm;have hfl:=uJ hrl2;have htk:W.take (k+1)=W.take k++[r]:=by rw[GO,hr];rfl
  have hnt:r∉W.take k:=by
   intro hin;have h1:=hWn;rw[<- Hs (k+1) W,htk] at h1;exact (GI.1 (GI.1 h1).1).2.2 r hin r (by simp) rfl
  have hnf:bP r∉W.take k:=λ hin=>hWf r hrm _ (Hl hin) rfl;have e1:(cj a (W.take k) rm).getD r 0=rm.getD r 0:=by rw[hcv,if_neg hnf,if_neg hnt];omega
  have e2:(cj a (W.take k) rm).getD (bP r) 0=rm.getD (bP r) 0:=by rw[hcv,jJ,if_neg hnt,if_neg hnf];omega
  have b1:=hrb r;have b2:=hrb (bP r);have b3:=hmle r hrm;have hpush:cj a (W.take (k+1)) rm=((cj a (W.take k) rm).set r (rm.getD r 0-a)).set (bP r) (rm.getD (bP r) 0+a):=by rw[htk,ri];unfold nm;rw[e1,e2]
  have hg1:=hcur k r hrl2;rw[e1] at hg1;have hg2:=hcur k (bP r) hfl;rw[e2] at hg2;have hg3:((cj a (W.take k) rm).set r (rm.getD r 0-a))[bP r]?=some (rm.getD (bP r) 0):=by rw[GJ (u0 r).symm];exact hg2
  have hxo:=CQ (r:=r) (by omega);refine ad (au ?_);refine ad (aa (ah [] rfl ?_));refine ab [] (aG rfl hlt) rfl ?_;refine ab [] (aD (v:=.int .i64 (r:Int)) 5 rfl rfl rfl (dl hr)) rfl ?_;refine ae [] rfl ?_;refine ad (aa ?_);refine ab [] (af (v:=.pointer (some ⟨pw,0,none⟩)) 2 rfl) rfl ?_;refine ah [] rfl ?_;refine ab [] (af (v:=.slice (some ⟨gr,0,none⟩) (2*N.arcs.length) cr) 3 rfl) rfl ?_;refine ah [] rfl ?_;refine ab [] (aG rfl hrl2) rfl ?_;refine ab [] (aD 4 rfl rfl rfl (bD hg1)) rfl ?_;refine ah [] rfl ?_;refine aI 65 (v':=.int .i64 (rm.getD r 0-a)) rfl (Gt (Value.int .i64) (cv (by omega))) ?_;refine ab [] (aG rfl hrl2) rfl ?_;refine aO 4 rfl rfl rfl rfl (dU rfl (by rw[fJ];omega)) [] rfl ?_;refine ai ?_;refine aa ?_;refine ab [] (af (v:=.pointer (some ⟨pw,0,none⟩)) 2 rfl) rfl ?_;refine ah [] rfl ?_;refine ab [] (af (v:=.slice (some ⟨gr,0,none⟩) (2*N.arcs.length) cr) 3 rfl) rfl ?_;refine ah [] rfl ?_;refine aI 72 (v':=.int .i64 ((bP r:Nat):Int)) rfl (Gt (Value.int .i64) hxo) ?_;refine ab [] (aG rfl hfl) rfl ?_;refine ab [] (aD 4 rfl rfl rfl (bD hg3)) rfl ?_;refine ah [] rfl ?_;refine aI 76 (v':=.int .i64 (rm.getD (bP r) 0+a)) rfl (Gt (Value.int .i64) (cv (by omega))) ?_;refine ab [] (aG rfl hfl) rfl ?_;refine aO 4 rfl rfl rfl rfl (dU rfl (by rw[Ha,fJ];omega)) [] rfl ?_;refine ai ?_;refine aa (ae [] rfl ?_);refine⟨k+1,[0,1,2,3,4,5],⟨?_,rfl,rfl,rfl,rfl,rfl,rfl,an⟩,by decide,by rw[hpush];rfl,by omega,by omega⟩;show some (Value.int .i64 (IntKind.i64.wrap ((k:Int)+1)))=_;rw[cv (by omega)];rfl
 obtain rfl:k=W.length:=by omega
 have hfin:=hcv W.length;rw[GY] at hfin ⊢;obtain⟨rm',hrm'⟩:∃ rm',rm'=cj a W rm:=⟨_,rfl⟩;rw[<- hrm'] at hfin ⊢;have hrl':rm'.length=2*N.arcs.length:=by rw[hrm',fJ];exact hrl
 have hex:∃ r∈W,rm'.getD r 0<least:=⟨ra,hra,by
  rw[hfin,if_neg (λ hin=>hWf ra hra _ hin rfl),if_pos hra];omega⟩
 obtain⟨k,hk⟩:∃ k,k=mA least rm' W:=⟨_,rfl⟩;have hkW:k<=W.length:=by rw[hk];exact List.findIdx_le_length
 refine ad (aa ?_);refine ab [] (af (v:=.pointer (some ⟨pw,0,none⟩)) 2 rfl) rfl ?_;refine ah [] rfl ?_;refine ab [] (af (v:=.slice (some ⟨gw,0,none⟩) W.length cw) 3 rfl) rfl ?_;refine ah [] rfl ?_
 refine ap [] (BD N A c pw p1 (some ⟨gr,0,none⟩) cr gr least gl n (some ⟨gw,0,none⟩) cw gw rm' hrl' (fun _=>rfl) W hW hWl (fun _=>rfl) hex) rfl (by kernel_rfl)
  ⟨⟨2,_,by simp,rfl,aF _ _ _ (0,0),.inr rfl⟩,⟨3,_,by simp,rfl,aF _ _ _ (0,0),.inr rfl⟩,⟨4,_,by simp,rfl,cp,aM (λ _=>rfl)⟩,⟨5,_,by simp,rfl,cp,aM (λ _=>rfl)⟩,an⟩ (λ _=>rfl) ?_
 rintro v H' ⟨rfl,rfl⟩;refine⟨rfl,?_⟩;refine ae [] rfl ?_;rw[<- hk];refine ad ?_;refine bu 9 (cZ [0,1,2,3,4,5,6,7,8]) [2,3] (by kernel_rfl) (by decide) rfl ?_;refine aj [] rfl (af (v:=.pointer (some ⟨pw,0,none⟩)) 0 rfl) rfl ?_;refine aj [] rfl (af (v:=.pointer (some ⟨pw,0,none⟩)) 0 rfl) rfl ?_;refine aB [] rfl ?_;refine aj [] rfl (af (v:=.slice (some ⟨gw,0,none⟩) W.length cw) 1 rfl) rfl ?_;refine aB [] rfl ?_;refine aj [] rfl (gF (i:=k) rfl rfl rfl rfl rfl (by omega)) rfl ?_;refine dw [] rfl ?_;refine aA 3 rfl [] rfl ?_;refine ai ?_;refine bJ (aH.shrink (m:=k) 5 rfl hkW) ?_;rw[G8,show (bS W).take k=bS (W.take k) by unfold bS;rw[List.map_take];simp[ax]];refine ad (aa ?_);refine ab [] (af (v:=.agg #[.slice At W.length ct,.int .i64 a]) 0 rfl) rfl ?_;refine aA 1 rfl [] rfl ?_;refine ai ?_;refine ay ?_;exact⟨[_],[3,4,5],_,⟨⟨p2,1,_,_,rfl,rfl,rfl⟩,an⟩,by decide,rfl,some ⟨gw,0,none⟩,cw,At,ct,rfl,rfl⟩
theorem tU(N:aU)(ls:LN)(r v:Nat):ek N (ls++[r]) v=ek N ls v++(if dC N r=v then [r] else []):=by
 unfold ek;rw[Im]
 congr 1
 by_cases h:dC N r=v
 ·rw[if_pos h,H6,if_pos (Ii h)];rfl
 ·rw[if_neg h,H6,if_neg (by simpa using h)];rfl
theorem iY(N:aU)(ls:LN)(v:Nat):(ek N ls v).length<=ls.length:=HI _ _
set_option maxHeartbeats 1000000 in
theorem Fp(N:aU)(hR:N.Right)(A:OA)(c b o:Nat)(hA:N.arcs≠[]->A=some ⟨b,o,none⟩)(Ar:OA)(cr:Nat)(ls:LN)(hls:∀ r∈ls,r<2*N.arcs.length)(hlsl:ls.length<=4000)(B:OA)(cb bb ob:Nat)(hB:ls≠[]->B=some ⟨bb,ob,none⟩)
 (least:Int) (n:Nat) (hn:N.nodes=n):Fn 225 [bp N A c,.slice Ar (2*N.arcs.length) cr,.slice B ls.length cb,.int .i64 least] [] [.seg b o (arcs N.arcs),.seg bb ob (bS ls)] λ v H'=>∃ (pw gl:Nat) (rows:List d9),v=.pointer (some ⟨pw,0,none⟩)/\rows.length=n+1/\
  (∀ (v:Nat) (row:d9),rows[v]?=some row->row.l=(ek N ls v).map λ (i:Nat)=>(i:Int))/\
  H'=[blk pw 303 (sp N A c Ar cr least gl n none 0 0),.own (.slice (some ⟨gl,0,none⟩) (n+1) (n+1)) 23 1 (n+1) (rows.map cz)]++rows.map (aZ 3):=by
 have hnn:=hR.nodes;have hl2:=hR.len;refine aJ Tryz.func225 rfl rfl λ w0=>?_;refine ad (aa ?_);refine bx (cs:=bI N A c) rfl rfl rfl (λ _=>rfl) λ p=>?_;refine ae [] rfl ?_;refine ad ?_;refine bu 10 (cZ [0,1,2,3,4,5]++[(6,false)]++cZ [7]++[(8,false)]++cZ [9]) [0] (by kernel_rfl) (by decide) rfl ?_;refine aj [] rfl (af (v:=bp N A c) 0 rfl) rfl ?_;refine aB [] rfl ?_;refine aj [] rfl (af (v:=.int .i64 N.nodes) 0 rfl) rfl ?_;refine aB [] rfl ?_;refine eg 19 (v':=.int .i64 ((n+1:Nat):Int)) rfl (Gt (Value.int .i64) ((cv (n:=N.nodes+1) (by omega)).trans (by omega))) ?_;refine bg rfl ?_;refine cX (n:=n+1) (c:=n+1) rfl rfl rfl rfl rfl rfl (by omega) (by omega) (by omega) (λ _=>rfl) λ gl=>?_;refine ai ⟨⟨[1],by decide,rfl⟩,?_⟩;refine aj [] rfl (bz rfl rfl rfl rfl rfl rfl) rfl ?_;refine bg rfl ?_;refine bx (cs:=sp N A c Ar cr least gl n none 0 0) rfl rfl rfl (λ _=>rfl) λ pw=>?_;refine ai ⟨⟨[2],by decide,rfl⟩,?_⟩;refine dw [] rfl ?_;refine ai ?_;rw[show made [Value.slice none 0 0] ((n+1)*1)=(List.replicate (n+1) dv).map cz by rw[dh,G8,HT];rfl];refine ad (ad (aa (ae [] rfl ?_)));refine au ?_;refine bJ (aH.nils 3 (n+1)) ?_
 refine b6 (σ:=Nat×List d9) (λ s=>[(25,.int .i64 s.1),(24,.int .i64 ls.length),(23,.slice B ls.length cb),(9,.pointer (some ⟨pw,0,none⟩)),(4,.pointer (some ⟨p,0,none⟩))])
  (λ s=>[blk pw 303 (sp N A c Ar cr least gl n none 0 0),.own (.slice (some ⟨gl,0,none⟩) (n+1) (n+1)) 23 1 (n+1) (s.2.map cz),blk p 33 (bI N A c),.seg b o (arcs N.arcs),.seg bb ob (bS ls)]++s.2.map (aZ 3))
  (λ s=>s.1<=ls.length/\s.2.length=n+1/\∀ (v:Nat) (r:d9),s.2[v]?=some r->r.l=(ek N (ls.take s.1) v).map λ (i:Nat)=>(i:Int)) (λ s=>ls.length-s.1)
  (0,List.replicate (n+1) dv) ⟨rfl,rfl,rfl,rfl,rfl,an⟩ aH.refl ⟨GB _,by simp,λ v r h=>?_⟩ ?_
 ·rw[GN] at h;split at h
  ·simp only[Gs] at h;subst h;rfl
  ·cases h
 rintro⟨k,rows⟩ ⟨hk,hrows,htr⟩;simp only at hk hrows htr ⊢;refine ad (aa (ae [] rfl ?_));refine ad (aC rfl (λ hlt=>aq ?_) (λ hge=>bc ?_))
 ·have hlt:k<ls.length:=by omega
  obtain⟨r,hr⟩:∃ r,ls[k]?=some r:=⟨ls[k],Gq hlt⟩;have hrl:=hls r (Gu hr);obtain⟨he,hf1,hf2⟩:=kn hR hrl;obtain⟨v,hv⟩:∃ v,dC N r=v:=⟨_,rfl⟩;rw[hv] at he hf1 hf2;obtain rfl:=hB (by rintro rfl;simp at hlt);have hvn:v<rows.length:=by omega
  obtain⟨row,hrow⟩:∃ r,rows[v]?=some r:=⟨rows[v],Gq hvn⟩;have hrl':=htr v row hrow;have hlen:=iY N (ls.take k) v;have htake:(ls.take k).length<=ls.length:=by rw[GV];omega
  have hrowl:row.l.length=(ek N (ls.take k) v).length:=by rw[hrl',GA]
  have htk:ls.take (k+1)=ls.take k++[r]:=by rw[GO,hr];rfl
  refine ad (au ?_);refine ad (aa (ah [] rfl ?_));refine ab [] (bR rfl hlt) rfl ?_;refine ab [] (a8 4 rfl rfl (dl hr)) rfl ?_;refine ae [] rfl ?_;refine ad (aa ?_);refine ab [] (v:=bp N A c) (af 2 rfl) rfl ?_;refine ah [] rfl ?_;refine ap [] (gC N A c b o hA hl2 r hrl) rfl (by kernel_rfl) ⟨⟨3,_,by simp,rfl,ak _ _ _,av⟩,an⟩ (λ _=>rfl) ?_;rintro v' H' ⟨rfl,rfl⟩;refine⟨rfl,?_⟩;refine ae [] rfl ?_;refine a7 12 (v':=.int .i64 (v:Int)) rfl (Gt (Value.int .i64) he) ?_;show J _ _ _ _ ([_,_,_,_,_]++rows.map (aZ 3));refine bJ (aH.front (i:=v) (c:=aZ 3 row) (by rw[GC,hrow];rfl)) ?_;refine bu 16 (cZ [0,1,2,3,4,5,6,7,8,9,10,11,12]++[(13,false),(14,false)]++cZ [15]) [1,2] (by kernel_rfl) (by decide) rfl ?_;refine aB [] rfl ?_;refine aj [] rfl (af (v:=.slice (some ⟨gl,0,none⟩) (n+1) (n+1)) 0 rfl) rfl ?_;refine aB [] rfl ?_;refine aj [] rfl (af (v:=.slice (some ⟨gl,0,none⟩) (n+1) (n+1)) 0 rfl) rfl ?_;refine aB [] rfl ?_;refine aj [] rfl (aG rfl (by omega)) rfl ?_;refine aj [] rfl (aD (v:=cz row) 1 rfl rfl rfl (show (rows.map cz)[v]?=some (cz row) by rw[GC,hrow];rfl)) rfl ?_;refine aB [] rfl ?_;refine bg rfl ?_;refine bF rfl rfl rfl rfl rfl rfl rfl (λ _=>rfl) λ g2=>?_;refine ai ⟨⟨[2,3],by decide,rfl⟩,?_⟩;refine bg rfl ?_;refine bv (n:=row.l.length) (m:=1) (off:=0) (news:=ax [(r:Int)]) 1 0 rfl rfl rfl rfl rfl rfl (by decide) rfl rfl (aF g2 _ _ (0,0)) (λ _=>rfl) rfl rfl (by omega) (by omega) (λ _ _=>rfl) λ A2 c2=>?_;rw[show row.l.length+1=(row.l++[(r:Int)]).length by simp,show ax row.l++ax [(r:Int)]=ax (row.l++[(r:Int)]) by simp[ax]];refine ai ⟨⟨[2,3],by decide,rfl⟩,?_⟩;refine aj [] rfl (aG rfl (by omega)) rfl ?_;refine bq ?_;refine aO 3 rfl rfl rfl rfl (df rfl rfl rfl (by rw[GA];omega)) [] rfl ?_;refine ai ?_;refine aa (ae [] rfl ?_);refine⟨(k+1,rows.set v ⟨A2,c2,row.l++[(r:Int)]⟩),⟨?_,rfl,rfl,rfl,rfl,an⟩,?_,⟨by simp only;omega,by simp only[Ha];omega,λ u q hu=>?_⟩,by simp only;omega⟩
  ·show some (Value.int .i64 (IntKind.i64.wrap ((k:Int)+1)))=_;rw[cv (by omega)];rfl
  ·simp only[In];refine aH.trans (aH.sub (G9 _ _)) (aH.back (A:=[_,_,_,_,_]) (by rw[GA];exact hvn))
  ·simp only at hu ⊢;rw[htk,tU,GX];by_cases huv:v=u
   ·subst huv;rw[GH hvn] at hu;simp only[Gs] at hu;rw[<- hu,if_pos hv,hrl'];rfl
   ·rw[GJ huv] at hu;rw[if_neg (λ e=>huv (hv.symm.trans e)),Hy,G5];exact htr u q hu
 ·obtain rfl:k=ls.length:=by omega
  rw[GY] at htr;refine ad (aa (ae [] rfl ?_));refine bJ (aH.re [0,1] rfl (by decide)) (ay ⟨_,rfl,pw,gl,rows,rfl,hrows,htr,rfl⟩)
def EE(N:aU)(f:LI)(least:Int)(m:Nat)(v:Value)(H':Heap):Prop:=
 (aK N f/\1<=least/\∃ (f':LI) (ws:List (LN×Int)) (g:Nat) (Ak:OA) (ck:Nat) (xs:LV_),kh N least f ws f'/\
  v=.tuple #[.slice (some ⟨g,0,none⟩) m m,.slice Ak ws.length ck,.int .i64 0]/\
  H'=[.own (.slice (some ⟨g,0,none⟩) m m) 2 1 m (ax f'),.own (.slice Ak ws.length ck) 300 2 ws.length xs])\/
 (¬ aK N f/\v=.tuple #[.slice none 0 0,.slice none 0 0,.int .i64 (en N f)]/\H'=[])\/(aK N f/\least<1/\v=.tuple #[.slice none 0 0,.slice none 0 0,.int .i64 3]/\H'=[])
structure BS where
 ns:NS
 rm:LI
 f:LI
 acc:List (LN×Int)
 Ak:OA
 ck:Nat
 xs:LV_
set_option maxHeartbeats 1000000 in
theorem BJ(N:aU)(hN:N.Fits)(hR:N.Right)(A:OA)(c b o:Nat)(hA:N.arcs≠[]->A=some ⟨b,o,none⟩)(f:LI)(F:OA)(cf bf of:Nat)(hF:f≠[]->F=some ⟨bf,of,none⟩)(hf:∀ x∈f,dn x)(hfl:f.length*8<=140737488351232)(least:Int):
 Fn 223 [bp N A c,.slice F f.length cf,.int .i64 least] [] [.seg b o (arcs N.arcs),.seg bf of (ax f)] (EE N f least f.length):=by
 have hnn:=hR.nodes;have hl2:=hR.len;obtain⟨n,hn⟩:∃ n:Nat,N.nodes=n:=⟨N.nodes.toNat,by omega⟩;refine aJ Tryz.func223 rfl rfl λ w0=>?_;refine ad (aa ?_);refine bx (cs:=bI N A c) rfl rfl rfl (λ _=>rfl) λ p=>?_;refine ae [] rfl ?_;refine ad (aa ?_);refine ab [] (v:=bp N A c) (af 0 rfl) rfl ?_;refine ah [] rfl ?_;refine ap [] (uw N hN hR A c b o hA f F cf bf of hF hf hfl least) rfl (by kernel_rfl) ⟨⟨1,_,by simp,rfl,ak _ _ _,av⟩,⟨2,_,by simp,rfl,ak _ _ _,av⟩,an⟩ (λ _=>rfl) ?_;rintro v H' (⟨hW,hle,lv,B,cb,hlv,rfl,rfl⟩|⟨hW,rfl,rfl⟩|⟨hW,hle,rfl,rfl⟩)
 case inr.inl=>
  refine⟨rfl,?_⟩;refine ae [] rfl ?_;refine ad (ad (aa (ae [] rfl ?_)));refine aC rfl (λ h=>?_) (λ h=>absurd (cU.1 (GK.1 h)) hW);refine ad (aa (ae [] rfl ?_));refine az [] (by decide) rfl (ay ⟨_,rfl,.inr (.inl ⟨hW,rfl,rfl⟩)⟩)
 case inr.inr=>
  refine⟨rfl,?_⟩;refine ae [] rfl ?_;refine ad (ad (aa (ae [] rfl ?_)));refine aC rfl (λ h=>?_) (λ h=>absurd h (by decide));refine ad (aa (ae [] rfl ?_));refine az [] (by decide) rfl (ay ⟨_,rfl,.inr (.inr ⟨hW,hle,rfl,rfl⟩)⟩)
 refine⟨rfl,?_⟩;refine ae [] rfl ?_;refine ad (ad (aa (ae [] rfl ?_)));refine aC rfl (λ h=>absurd rfl h) (λ _=>aq ?_);refine ad (aa ?_);refine ab [] (v:=bp N A c) (af 1 rfl) rfl ?_;refine ah [] rfl ?_;refine ap [] (mH N hN hR A c b o hA f F cf bf of hF hf hfl) rfl (by kernel_rfl) ⟨⟨2,_,by simp,rfl,ak _ _ _,av⟩,⟨3,_,by simp,rfl,ak _ _ _,av⟩,an⟩ (λ _=>rfl) ?_;rintro v H' (⟨_,A1,c1,rfl,rfl⟩|⟨h,_,_⟩)
 case inr=>exact absurd hW h
 refine⟨rfl,?_⟩;refine ae [] rfl ?_;have hfN:=hW.len;obtain⟨ls,hls⟩:∃ ls,ls=cm N (aP (N.arcs.zip f)) least lv (2*N.arcs.length):=⟨_,rfl⟩;rw[<- hls];have hlsm:∀ r∈ls,r<2*N.arcs.length:=λ r hr=>(el.1 (hls▸hr)).1;have hlsl:ls.length<=4000:=by rw[hls];have:=jf N (aP (N.arcs.zip f)) least lv (2*N.arcs.length);omega
 have hG:=ij hlv;rw[<- hls] at hG;refine bh (aW 1 rfl) λ ⟨_,_,hB,hlB⟩=>?_;obtain⟨gB,hB⟩:=bL hB hlB;refine bh (aW 0 rfl) λ ⟨_,_,hA1,hlA1⟩=>?_;obtain⟨gr,hA1⟩:=bL hA1 hlA1;have hB':ls≠[]->B=some ⟨gB,0,none⟩:=λ h=>hB (by intro h0;apply h;have:=eq ls;unfold bS at this;rw[h0] at this;exact GM.1 this.symm);refine ad (aa ?_);refine ab [] (v:=bp N A c) (af 2 rfl) rfl ?_;refine ah [] rfl ?_;refine ap [] (Fp N hR A c b o hA A1 c1 ls hlsm hlsl B cb gB 0 hB' least n hn) rfl (by kernel_rfl) ⟨⟨3,_,by simp,rfl,ak _ _ _,av⟩,⟨1,_,by simp,rfl,aE hB,aM hB⟩,an⟩ (λ _=>rfl) ?_;rintro v H' ⟨pw,gl,rows,rfl,hrows,hL,rfl⟩;refine⟨cP rfl (cF _ rows),?_⟩;refine bY aH.swap ?_;show JL _ _ _ _ _ ([_,_,_,_,_,_,_]++rows.map (aZ 3));refine ae [] rfl ?_;refine ad (aa (ae [] rfl ?_));refine cd 3 1 ?_;refine cd 300 2 ?_;refine ad (au ?_)
 have hgvA:∀ w,cO w0 [] w ([.own (.slice none 0 0) 300 2 0 [],.own (.slice none 0 0) 3 1 0 [],blk pw 303 (sp N A c A1 c1 least gl n none 0 0),.own (.slice (some ⟨gl,0,none⟩) (n+1) (n+1)) 23 1 (n+1) (rows.map cz),.own (.slice A1 (2*N.arcs.length) c1) 2 1 (2*N.arcs.length) (ax (aP (N.arcs.zip f))),.own (.slice B ls.length cb) 3 1 ls.length (ax (ls.map λ (i:Nat)=>(i:Int))),blk p 33 (bI N A c),.seg b o (arcs N.arcs),.seg bf of (ax f)]++rows.map (aZ 3))->
  ∀ v:Nat,∃ gv:Nat,∀ row,rows[v]?=some row->row.l.length<=row.c/\(ax row.l≠[]->row.A=some ⟨gv,0,none⟩):=by
  intro w hw v
  cases hv:rows[v]? with
  |none=>exact⟨0,λ row h=>by cases h⟩
  |some row=>
   obtain⟨_,h2,h3,h4⟩:=aW (X:=⟨w0,[],⟨0,[]⟩⟩) (v+9) (show _=some (aZ 3 row) by show (rows.map (aZ 3))[v]?=_;rw[GC,hv];rfl) w hw;obtain⟨gv,hgv⟩:=bL h3 h4;exact⟨gv,λ row' h=>by simp only[Gs] at h;subst h;exact⟨h2,hgv⟩⟩
 show J _ _ _ _ ([_,_,_,_,_,_,_,_,_]++rows.map (aZ 3));refine bh hgvA λ hrowA=>?_;obtain⟨gv,hgv⟩:∃ gv:Nat->Nat,∀ (v:Nat) (row:d9),rows[v]?=some row->row.l.length<=row.c/\(ax row.l≠[]->row.A=some ⟨gv v,0,none⟩):=⟨λ v=>Classical.choose (hrowA v),λ v=>Is (hrowA v)⟩
 clear hrowA hgvA
 obtain⟨rm0,hrm0⟩:∃ rm0,rm0=aP (N.arcs.zip f):=⟨_,rfl⟩;have hL':∀ (v:Nat) (row:d9),rows[v]?=some row->row.l=(ek N ls v).map λ (i:Nat)=>(i:Int):=hL
 have hV0:oY rows gv (List.replicate (n+1) 0) (rows.map cz):=by
  refine⟨by simp,λ v row q hr hq=>?_⟩;rw[GN] at hq;split at hq
  ·simp only[Option.some.injEq] at hq;subst hq;have h1:=hgv v row hr;refine⟨row.A,row.c,by rw[List.getElem?_map,hr];rfl,h1.1,fun hp=>h1.2 (fun h0=>?_)⟩;have:row.l.length=0:=by rw[← bK,h0];rfl
   omega
  ·cases hq
 refine b6 (σ:=BS) (λ s=>[(14,.slice s.Ak s.acc.length s.ck),(13,.pointer (some ⟨pw,0,none⟩)),(11,.slice A1 (2*N.arcs.length) c1),(1,.slice F f.length cf)])
  (λ s=>[blk pw 303 (sp N A c A1 c1 least gl n s.ns.Aw s.ns.W.length s.ns.cw),.own (.slice (some ⟨gl,0,none⟩) (n+1) (n+1)) 23 1 (n+1) s.ns.vals,.own (.slice s.ns.Aw s.ns.W.length s.ns.cw) 3 1 s.ns.W.length (bS s.ns.W),
   .own (.slice A1 (2*N.arcs.length) c1) 2 1 (2*N.arcs.length) (ax s.rm),.own (.slice s.Ak s.acc.length s.ck) 300 2 s.acc.length s.xs,.seg b o (arcs N.arcs),.seg bf of (ax f)]++rows.map (aZ 3))
  (λ s=>PI N (ek N ls) least s.rm s.ns.pos s.ns.W/\oY rows gv s.ns.pos s.ns.vals/\aK N s.f/\s.rm=aP (N.arcs.zip s.f)/\s.acc.length+mP ls least s.rm<=4000/\
   ∀ ws rm',Bl N (ek N ls) least s.rm s.ns.pos s.ns.W ws rm'->Bl N (ek N ls) least rm0 (List.replicate (N.nodes.toNat+1) 0) [] (s.acc++ws) rm')
  (λ s=>mP ls least s.rm) ⟨⟨List.replicate (n+1) 0,[],rows.map cz,none,0⟩,rm0,f,[],none,0,[]⟩ ⟨rfl,rfl,rfl,rfl,an⟩ (by
   simp only[hrm0];exact aH.re [2,3,1,4,0,7,8] rfl (by decide)) ⟨?_,hV0,hW,hrm0,?_,λ ws rm' h=>?_⟩ ?_
 ·have:=PI.start (N:=N) (L:=ek N ls) (least:=least) (rm:=rm0);rw[hn,GW] at this;exact this
 ·have:mP ls least rm0<=ls.length:=HI _ _;simp only[GQ];omega
 ·rw[hn,GW];exact h
 rintro⟨⟨pos,W,vals,Aw,cw⟩,rm,fc,acc,Ak,ck,xs⟩ ⟨hI,hV,hfc,hrm,hcnt,hX⟩;simp only at hI hV hfc hrm hcnt hX ⊢;have hrl:rm.length=2*N.arcs.length:=by rw[hrm];exact iq hfc.len
 refine bh (aW 3 rfl) λ ⟨_,_,hA1x,hlA1x⟩=>?_;obtain⟨grx,hA1x⟩:=bL hA1x hlA1x;have hArx:rm≠[]->A1=some ⟨grx,0,none⟩:=λ h=>hA1x (by simpa [ax] using h);have hLl:∀ v,(ek N ls v).length<=4000:=λ v=>HG (iY N ls v) hlsl;refine ad (ad (aa (ah [] rfl ?_)))
 refine aw (fst:=[]) (cap:=[]) [] (DC N hR A c b o hA pw A1 c1 grx least gl n hn (ek N ls) (cM lv) hG hLl rm hrl hArx rows hrows hL gv (fun v row h=>(hgv v row h).2) ⟨pos,W,vals,Aw,cw⟩ hI hV) rfl rfl rfl rfl (by kernel_rfl) (aH.mid [0,1,2] [3,4,5,6] rfl rfl (by decide))
  ⟨⟨2,_,by simp,rfl,ak _ _ _,av⟩,⟨0,_,by simp,rfl,aE hA1x,aM hA1x⟩,an⟩ (λ _=>rfl) ?_
 rintro v H' ⟨bb,⟨pos2,W2,vals2,Aw2,cw2⟩,rfl,hnx,hI2,hV2,rfl⟩;simp only at hnx hI2 hV2 ⊢;refine⟨cP rfl (cF _ rows),?_⟩;refine bY aH.swap ?_;refine ai ?_
 cases bb with
 |false=>
  refine bG rfl (bc ?_);have hbl:=hX _ _ (.stop hnx);rw[G5] at hbl;have hfcl:=hfc.len;obtain⟨m,hm⟩:∃ m,f.length=m:=⟨_,rfl⟩;rw[hm] at hfN ⊢;refine ad (aa (ah [] rfl ?_));refine cX (n:=m) (c:=m) rfl rfl rfl rfl rfl rfl (by omega) (by omega) (by omega) (λ _=>rfl) λ go=>?_;refine ae [] rfl ?_;rw[show made [Value.int .i64 0] (m*1)=ax (List.replicate m 0) by rw[dh,G8];simp[ax]];refine ad (ad (aa (ae [] rfl ?_)));refine au ?_
  refine bO (σ:=Nat) (λ k=>[(50,.int .i64 k),(49,.int .i64 m),(15,.slice (some ⟨go,0,none⟩) m m),(14,.slice Ak acc.length ck),(11,.slice A1 (2*N.arcs.length) c1)])
   (λ k=>[.own (.slice (some ⟨go,0,none⟩) m m) 2 1 m (ax (fc.take k++List.replicate (m-k) 0)),.own (.slice A1 (2*N.arcs.length) c1) 2 1 (2*N.arcs.length) (ax rm),.own (.slice Ak acc.length ck) 300 2 acc.length xs])
   (λ k=>k<=m) (λ k=>m-k) 0 [0,4,5] ⟨rfl,rfl,rfl,rfl,rfl,an⟩ (by decide) rfl (GB _) ?_
  intro k hk;refine ad (aa (ae [] rfl ?_));refine ad (aC rfl (λ hlt=>aq ?_) (λ hge=>bc ?_))
  ·have hlt:k<m:=by omega
   obtain⟨x,hx⟩:∃ x,fc[k]?=some x:=⟨fc[k]'(by omega),Gq (by omega)⟩;obtain⟨ar,har⟩:∃ ar,N.arcs[k]?=some ar:=⟨N.arcs[k]'(by omega),Gq (by omega)⟩;have hrx:=(dA (fi har hx)).2;rw[<- hrm] at hrx;simp only at hrx;obtain rfl:=hArx (by intro h0;rw[h0] at hrl;simp at hrl;omega);refine ad (au ?_);refine ad (aa (ae [] rfl ?_));refine aa (ah [] rfl ?_);refine aI 58 (v':=.int .i64 ((2*k+1:Nat):Int)) rfl (Gt (Value.int .i64) (by rw[cv (n:=2*(k:Int)) (by omega),cv (by omega)];omega)) ?_;refine ab [] (aG rfl (by omega)) rfl ?_;refine ab [] (aD 1 rfl rfl rfl (bD hrx)) rfl ?_;refine ab [] (aG rfl hlt) rfl ?_;refine aO 0 rfl rfl rfl rfl (dU rfl (by rw[Gx,GV,GU];omega)) [] rfl ?_;refine ai ?_;refine aa (ae [] rfl ?_);refine⟨k+1,[0,1,2],⟨?_,rfl,rfl,rfl,rfl,an⟩,by decide,?_,by omega,by omega⟩
   ·show some (Value.int .i64 (IntKind.i64.wrap ((k:Int)+1)))=_;rw[cv (by omega)];rfl
   ·rw[show fc.take (k+1)++List.replicate (m-(k+1)) 0=(fc.take k++List.replicate (m-k) 0).set k x by
     rw[HJ _ _ (by simp;omega),GV,H9 (by omega),HC,show m-k=(m-(k+1))+1 by omega,Hw,HU,GO,hx,G4];rfl]
    rfl
  ·obtain rfl:k=m:=by omega
   rw[HC,IX,G5,Hr (by omega)];refine ad (aa (ae [] rfl ?_));refine az [0,2] (by decide) rfl (ay ⟨_,rfl,.inl ⟨hW,hle,fc,acc,go,Ak,ck,xs,⟨lv,hlv,hfc,?_⟩,rfl,rfl⟩⟩);rw[<- hls,<- hrm0,<- hrm];exact hbl
 |true=>
  refine bi rfl (aq ?_);obtain⟨_,hend,_⟩:=hnx.keeps hG hI;obtain⟨k1,k2,k3,k4,k5,k6,⟨f',k7,k8⟩,k9,k10,r,v,k11,k12,k13⟩:=iH hR hG hle hfc hrm hI2 (hend rfl);rw[hn,GW] at k5;obtain⟨r0,hr0⟩:=I2 _ k1;have hr0l:=k2 r0 hr0;obtain rfl:=hArx (by intro h0;rw[h0] at hrl;simp at hrl;omega);show J _ _ _ _ ([_,_,_,_,_,_,_]++rows.map (aZ 3));refine bJ (aH.re [0,3,2,1,4,5,6] rfl (by decide)) ?_;refine au (aa (ah [] rfl ?_));show JL _ _ _ _ _ ([_,_,_]++([_,_,_,_]++rows.map (aZ 3)));have hcl:mP ls least (cj (cH rm W2) W2 rm)<mP ls least rm:=sj (λ q hq=>k10 (dC N q) q (fO.2 ⟨hq,rfl⟩)) r (fO.1 k11).1 k12 k13;refine aw (fst:=[]) (cap:=[]) [] (Dh N hl2 A c pw grx c1 least hle gl n Aw2 cw2 rm hrl (λ q=>by rw[hrm];exact eQ hR hfc.toRanged q) W2 k2 (by omega) k3 k4 k1) rfl rfl rfl rfl (by kernel_rfl) aH.refl an (λ _=>rfl) ?_;rintro v' H' ⟨Aw3,cw3,At,ct,rfl,rfl⟩;refine⟨rfl,?_⟩;obtain⟨kc,hkc⟩:∃ kc,kc=mA least (cj (cH rm W2) W2 rm) W2:=⟨_,rfl⟩;have hkcl:kc<=W2.length:=by rw[hkc];exact List.findIdx_le_length
  rw[<- hkc] at k9 ⊢;refine bF rfl rfl rfl rfl rfl rfl rfl (λ _=>rfl) λ gk=>?_;refine bv (n:=acc.length) (m:=1) (off:=0) (news:=[.slice At W2.length ct,.int .i64 (cH rm W2)]) 5 0 rfl rfl rfl rfl rfl rfl (by decide) rfl rfl (aF gk _ _ (0,0)) (λ _=>rfl) rfl rfl (by omega) (by omega) (λ _ _=>rfl) λ A4 c4=>?_;refine ae [] rfl ?_;have htkl:(W2.take kc).length=kc:=by rw[GV];omega
  refine⟨⟨⟨pos2,W2.take kc,vals2,Aw3,cw3⟩,cj (cH rm W2) W2 rm,f',acc++[(W2,cH rm W2)],A4,c4,xs++[.slice At W2.length ct,.int .i64 (cH rm W2)]⟩,⟨?_,rfl,rfl,rfl,an⟩,?_,⟨k9,hV2,k7,k8,?_,λ ws rm' h=>?_⟩,hcl⟩
  ·show some (Value.slice A4 (acc.length+1) c4)=some (Value.slice A4 (acc++[(W2,cH rm W2)]).length c4);rw[Gx,G2]
  ·simp only[htkl,Gx,G2];show aH _ ([_,_,_,_,_,_,_,_]++rows.map (aZ 3)) _;exact aH.re [1,4,3,2,5,6,7] rfl (by decide)
  ·simp only[Gx,G2];omega
  ·have:=hX _ _ (.walk hnx (hkc▸h));rw[G4];exact this
end Go.Proofs.YtmcnpaelaieniaaGreatDoor
