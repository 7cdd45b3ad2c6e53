/- The engine and the words that all chapters share: several texts in one. -/
import Derived.Test.YtpbmihpjgjbndaaGreatDoorQB
import Derived.Test.YtpbmihpjgjbndaaGreatDoorWalkN
/- Rows that are cloned. -/
set_option linter.unusedVariables false
set_option linter.unusedSimpArgs false
namespace Go.Proofs.YtpbmihpjgjbndaaGreatDoor
open Go.RowKit
theorem nG (l:List Int):one (ap l)=true:=by
 induction l with
 |nil=>rfl
 |cons x l ih=>exact ih
theorem oo (A:Option Addr) (c b o:Nat) (l:List Int) (hA:l≠[]→A=some ⟨b,o,none⟩) (hl:l.length≤100000):
 Fn 133 [.slice A l.length c] [] [.seg b o (ap l)] fun v H'=>∃ (A':Option Addr) (c':Nat),v=.slice A' l.length c'∧H'=[.own (.slice A' l.length c') 3 1 l.length (ap l)]:=by
 refine aS Tryz.func133 rfl rfl fun w0=>?_
 refine ad (aa (ae [] rfl ?_))
 refine ad (ad (aa (ah [] rfl ?_)))
 refine ab [] (nP rfl rfl rfl rfl) rfl ?_
 refine ai ?_
 cases A with
 |none=>
  have h0:l=[]:=Classical.byContradiction fun h=>by have:=hA h;simp at this
  subst h0
  refine bo rfl ?_
  refine ad (aa (ae [] rfl ?_))
  refine cC 3 1 ?_
  exact aE [0] (by decide) rfl (aB ⟨_,rfl,none,0,rfl,rfl⟩)
 |some a=>
  refine bI rfl (av ?_)
  refine ad (aa ?_)
  refine bK rfl rfl rfl rfl rfl rfl rfl (fun _=>rfl) fun g=>?_
  refine mn 1 0 rfl (by decide) ?_
  refine ah [] rfl ?_
  refine be (n:=0) (m:=l.length) (off:=o) (b:=b) (news:=ap l) 0 1 rfl rfl rfl rfl rfl rfl (by decide) rfl rfl (aq _ _ _) (fun h=>hA (fun e=>h (by rw[e];rfl))) (by rw[bB];omega) (nG l) (by omega) (by omega) (fun _ _=>rfl) fun A2 c2=>?_
  rw[Nat.zero_add]
  refine ae [] rfl ?_
  exact aE [0] (by decide) rfl (aB ⟨_,rfl,A2,c2,rfl,rfl⟩)
theorem jl (A:Option Addr) (c b o:Nat) (l:List Int) (hA:l≠[]→A=some ⟨b,o,none⟩) (hl:l.length≤100000):
 Fn 82 [.slice A l.length c] [] [.seg b o (ap l)] fun v H'=>∃ (A':Option Addr) (c':Nat),v=.slice A' l.length c'∧H'=[.own (.slice A' l.length c') 2 1 l.length (ap l)]:=by
 refine aS Tryz.func82 rfl rfl fun w0=>?_
 refine ad (aa (ae [] rfl ?_))
 refine ad (ad (aa (ah [] rfl ?_)))
 refine ab [] (nP rfl rfl rfl rfl) rfl ?_
 refine ai ?_
 cases A with
 |none=>
  have h0:l=[]:=Classical.byContradiction fun h=>by have:=hA h;simp at this
  subst h0
  refine bo rfl ?_
  refine ad (aa (ae [] rfl ?_))
  refine cC 2 1 ?_
  exact aE [0] (by decide) rfl (aB ⟨_,rfl,none,0,rfl,rfl⟩)
 |some a=>
  refine bI rfl (av ?_)
  refine ad (aa ?_)
  refine bK rfl rfl rfl rfl rfl rfl rfl (fun _=>rfl) fun g=>?_
  refine mn 1 0 rfl (by decide) ?_
  refine ah [] rfl ?_
  refine be (n:=0) (m:=l.length) (off:=o) (b:=b) (news:=ap l) 0 1 rfl rfl rfl rfl rfl rfl (by decide) rfl rfl (aq _ _ _) (fun h=>hA (fun e=>h (by rw[e];rfl))) (by rw[bB];omega) (nG l) (by omega) (by omega) (fun _ _=>rfl) fun A2 c2=>?_
  rw[Nat.zero_add]
  refine ae [] rfl ?_
  exact aE [0] (by decide) rfl (aB ⟨_,rfl,A2,c2,rfl,rfl⟩)
end Go.Proofs.YtpbmihpjgjbndaaGreatDoor
/- What a walk carries, step by step. -/
set_option linter.unusedVariables false
set_option linter.unusedSimpArgs false
namespace Go.Proofs.YtpbmihpjgjbndaaGreatDoor
open Go.RowKit
theorem x7 (r:Nat):r^^^1=bi r:=by
 have h1:=Nat.xor_div_two (a:=r) (b:=1)
 have h2:(r^^^1)%2=(r+1)%2:=by
  have h:=Nat.xor_mod_two_eq_one (a:=r) (b:=1)
  by_cases h2:r%2=1
  ·have:¬ (r^^^1)%2=1:=by rw[h];simp[h2]
   omega
  ·have:(r^^^1)%2=1:=by rw[h];simp[h2]
   omega
 have h3:r/2^^^1/2=r/2:=by show r/2^^^0=_;exact Nat.xor_zero _
 unfold bi
 split<;>omega
theorem ye {r:Nat} (h:r<4611686018427387904):IntKind.i64.wrap ((BitVec.ofInt IntKind.i64.bits (r:Int)^^^BitVec.ofInt IntKind.i64.bits 1).toNat:Int)=((bi r:Nat):Int):=by
 have e:(BitVec.ofInt IntKind.i64.bits (r:Int)^^^BitVec.ofInt IntKind.i64.bits 1).toNat=r^^^1:=by
  rw[BitVec.toNat_xor,BitVec.toNat_ofInt,BitVec.toNat_ofInt]
  have e1:((1:Int)%((2^IntKind.i64.bits:Nat):Int)).toNat=1:=by decide
  have e2:((2^IntKind.i64.bits:Nat):Int)=18446744073709551616:=by decide
  rw[e1,e2]
  congr 1
  omega
 rw[e,x7,bU (by unfold bi;split<;>omega)]
theorem vG (N:a8) (A:Option Addr) (c pw p1:Nat) (Ar:Option Addr) (cr gr:Nat) (least:Int) (gl n:Nat) (Aw:Option Addr) (nw cw:Nat) (rm:List Int) (hrl:rm.length=2*N.arcs.length) (hAr:rm≠[]→Ar=some ⟨gr,0,none⟩) (r:Nat) (hr:r<2*N.arcs.length):
 Fn 243 [.int .i64 r,.pointer (some ⟨p1,0,none⟩)] [] [.seg p1 0 [.pointer (some ⟨pw,0,none⟩)],.seg pw 0 (pu N A c Ar cr least gl n Aw nw cw),.seg gr 0 (ap rm)] fun v H'=>v=.bool (dI (rm.getD r 0<least))∧H'=[]:=by
 obtain⟨x,hxr⟩:∃ x,rm[r]?=some x:=⟨rm[r]'(by omega),List.getElem?_eq_getElem (by omega)⟩
 have hxd:rm.getD r 0=x:=by rw[List.getD_eq_getElem?_getD,hxr];rfl
 obtain rfl:=hAr (by intro h0;rw[h0] at hxr;simp at hxr)
 rw[hxd]
 refine aS Tryz.func243 rfl rfl fun w0=>?_
 refine ad (aa (ae [] rfl ?_))
 refine ad ?_
 refine bp 13 [(0,true),(1,true),(2,true),(3,true),(4,true),(5,true),(6,true),(7,true),(8,true),(9,true),(10,true),(11,true),(12,true)] [0,1,2] (by kernel_rfl) (by decide) rfl ?_
 refine aj [] rfl (bz (i:=0) 0 rfl rfl rfl rfl rfl) rfl ?_
 refine aF [] rfl ?_
 refine aj [] rfl (bz (i:=4) (v:=.slice (some ⟨gr,0,none⟩) (2*N.arcs.length) cr) 1 rfl rfl rfl rfl rfl) rfl ?_
 refine aF [] rfl ?_
 refine aj [] rfl (aJ rfl rfl rfl rfl rfl hr) rfl ?_
 refine aj [] rfl (bz (i:=r) 2 rfl rfl rfl (Nat.zero_add _).symm (a9 hxr)) rfl ?_
 refine aj [] rfl (bz (i:=0) 0 rfl rfl rfl rfl rfl) rfl ?_
 refine aF [] rfl ?_
 refine aj [] rfl (bz (i:=5) (v:=.int .i64 least) 1 rfl rfl rfl rfl rfl) rfl ?_
 refine dW [] rfl ?_
 refine ai ?_
 exact aE [] (by decide) rfl (aB ⟨_,rfl,rfl,rfl⟩)
theorem vh (N:a8) (A:Option Addr) (c pw p1:Nat) (Ar:Option Addr) (cr gr:Nat) (least:Int) (gl n:Nat) (Aw:Option Addr) (cw gw:Nat) (rm:List Int) (hrl:rm.length=2*N.arcs.length) (hAr:rm≠[]→Ar=some ⟨gr,0,none⟩)
 (W:List Nat) (hW:∀ r∈W,r<2*N.arcs.length) (hWl:W.length≤1000) (hAw:W≠[]→Aw=some ⟨gw,0,none⟩) (hex:∃ r∈W,rm.getD r 0<least):
 Fn 242 [.slice Aw W.length cw,.func (.func 243) #[] #[.pointer (some ⟨p1,0,none⟩)]] [] [.seg p1 0 [.pointer (some ⟨pw,0,none⟩)],.seg pw 0 (pu N A c Ar cr least gl n Aw W.length cw),.seg gr 0 (ap rm),.seg gw 0 (bL W)]
  fun v H'=>v=.int .i64 (kH least rm W:Nat)∧H'=[]:=by
 refine aS Tryz.func242 rfl rfl fun w0=>?_
 refine ad (aa (ae [] rfl ?_))
 refine ad (ad (aa (ae [] rfl ?_)))
 refine au ?_
 refine bq (σ:=Nat) (fun k=>[(8,.int .i64 k),(7,.int .i64 W.length),(1,.func (.func 243) #[] #[.pointer (some ⟨p1,0,none⟩)]),(0,.slice Aw W.length cw)])
  (fun _=>[.seg p1 0 [.pointer (some ⟨pw,0,none⟩)],.seg pw 0 (pu N A c Ar cr least gl n Aw W.length cw),.seg gr 0 (ap rm),.seg gw 0 (bL W)]) (fun k=>k≤W.length∧∀ j r,j<k→W[j]?=some r→¬ rm.getD r 0<least) (fun k=>W.length-k)
  0 [0,1,2,3] ⟨rfl,rfl,rfl,rfl,trivial⟩ (by decide) rfl ⟨Nat.zero_le _,fun j r h=>by omega⟩ ?_
 rintro k ⟨hk,hbef⟩
 refine ad (aa (ae [] rfl ?_))
 refine ad (aC rfl (fun hlt=>av ?_) (fun hge=>aV ?_))
 ·have hlt:k<W.length:=by omega
  obtain⟨r,hr⟩:∃ r,W[k]?=some r:=⟨W[k],List.getElem?_eq_getElem hlt⟩
  obtain rfl:=hAw (by rintro rfl;simp at hlt)
  refine ad (au ?_)
  refine ad (aa (ae [] rfl ?_))
  refine ad (aa (ah [] rfl ?_))
  refine ab [] (aJ rfl rfl rfl rfl rfl hlt) rfl ?_
  refine ab [] (bz (i:=k) 3 rfl rfl rfl (Nat.zero_add _).symm (dh hr)) rfl ?_
  refine ax (fst:=[]) (cap:=[.pointer (some ⟨p1,0,none⟩)]) [] (vG N A c pw p1 Ar cr gr least gl n _ W.length cw rm hrl hAr r (hW r (List.mem_of_getElem? hr))) rfl rfl rfl rfl (by kernel_rfl) ⟨⟨0,_,by simp,rfl,aq _ _ _,ay⟩,⟨1,_,by simp,rfl,aq _ _ _,ay⟩,⟨2,_,by simp,rfl,aq _ _ _,ay⟩,trivial⟩ (fun _=>rfl) ?_
  rintro v H' ⟨rfl,rfl⟩
  refine⟨rfl,?_⟩
  refine ai ?_
  refine aC rfl (fun hs=>?_) (fun hs=>av ?_)
  ·refine ad (aa (ae [] rfl ?_))
   refine aE [] (by decide) rfl (aB ⟨_,rfl,congrArg (Value.int .i64) ?_,rfl⟩)
   have:kH least rm W=k:=by
    unfold kH
    refine (List.findIdx_eq hlt).2 ⟨by rw[(List.getElem?_eq_some_iff.1 hr).2];exact decide_eq_true hs,fun j hj=>?_⟩
    have:=hbef j (W[j]'(by omega)) hj (List.getElem?_eq_getElem (by omega))
    simpa using this
   rw[this]
  ·skip
   refine aa (ae [] rfl ?_)
   refine⟨k+1,[0,1,2,3],⟨?_,rfl,rfl,rfl,trivial⟩,by decide,rfl,⟨by omega,fun j q hj hq=>?_⟩,by omega⟩
   ·show some (Value.int .i64 (IntKind.i64.wrap ((k:Int)+1)))=_
    rw[bU (by omega)];rfl
   ·by_cases e:j=k
    ·subst e;rw[hr] at hq;simp only[Option.some.injEq] at hq;rw[← hq];exact hs
    ·exact hbef j q (by omega) hq
 ·exfalso
  obtain⟨r,hr,hs⟩:=hex
  obtain⟨j,hj,hjr⟩:=List.mem_iff_getElem.1 hr
  exact hbef j r (by omega) (by rw[List.getElem?_eq_getElem hj,hjr]) hs
def sZ (least:Int) (N:a8) (A:Option Addr) (c:Nat) (gr cr pw gl n:Nat) (rm:List Int) (W:List Nat) (v:Value) (H':Heap):Prop:=
 ∃ (Aw:Option Addr) (cw:Nat) (At:Option Addr) (ct:Nat),v=.agg #[.slice At W.length ct,.int .i64 (bS rm W)]∧
   H'=[blk pw 316 (pu N A c (some ⟨gr,0,none⟩) cr least gl n Aw (kH least (bC (bS rm W) W rm) W) cw),.own (.slice (some ⟨gr,0,none⟩) (2*N.arcs.length) cr) 2 1 (2*N.arcs.length) (ap (bC (bS rm W) W rm)),
    .own (.slice Aw (kH least (bC (bS rm W) W rm) W) cw) 3 1 (kH least (bC (bS rm W) W rm) W) (bL (W.take (kH least (bC (bS rm W) W rm) W)))]
theorem rF (rm:List Int) (W:List Nat) (x:Int) (k r:Nat) (hr:W[k]?=some r):(W.take (k+1)).foldl (fun m q=>if rm.getD q 0<m then rm.getD q 0 else m) x=if rm.getD r 0<(W.take k).foldl (fun m q=>if rm.getD q 0<m then rm.getD q 0 else m) x then rm.getD r 0 else (W.take k).foldl (fun m q=>if rm.getD q 0<m then rm.getD q 0 else m) x:=by
 rw[List.take_add_one,hr,List.foldl_append];rfl
set_option maxHeartbeats 1000000 in
theorem xY (N:a8) (hl2:N.arcs.length≤2000) (A:Option Addr) (c:Nat) (pw gr cr:Nat) (least:Int) (hle:1≤least) (gl n:Nat) (Aw:Option Addr) (cw:Nat) (rm:List Int) (hrl:rm.length=2*N.arcs.length) (hrb:∀ q,0≤rm.getD q 0∧rm.getD q 0≤4611686018427387903)
 (W:List Nat) (hW:∀ r∈W,r<2*N.arcs.length) (hWl:W.length≤1000) (hWn:W.Nodup) (hWf:∀ r∈W,∀ q∈W,bi r≠q) (hne:W≠[]):
 Fn 240 [.pointer (some ⟨pw,0,none⟩)] (aR ([blk pw 316 (pu N A c (some ⟨gr,0,none⟩) cr least gl n Aw W.length cw),.own (.slice (some ⟨gr,0,none⟩) (2*N.arcs.length) cr) 2 1 (2*N.arcs.length) (ap rm),.own (.slice Aw W.length cw) 3 1 W.length (bL W)]))
  ([]++([blk pw 316 (pu N A c (some ⟨gr,0,none⟩) cr least gl n Aw W.length cw),.own (.slice (some ⟨gr,0,none⟩) (2*N.arcs.length) cr) 2 1 (2*N.arcs.length) (ap rm),.own (.slice Aw W.length cw) 3 1 W.length (bL W)]))
  (sZ least N A c gr cr pw gl n rm W):=by
 generalize hM:aR _=M
 have hWpos:0<W.length:=List.length_pos_iff.2 hne
 obtain⟨r0,hr0⟩:∃ r0,W[0]?=some r0:=⟨W[0],List.getElem?_eq_getElem hWpos⟩
 have hhead:W.headD 0=r0:=by rw[List.headD_eq_head?_getD,List.head?_eq_getElem?,hr0];rfl
 have hget:∀ r∈W,rm[r]?=some (rm.getD r 0):=fun r hr=>by rw[List.getD_eq_getElem?_getD,List.getElem?_eq_getElem (by have:=hW r hr;omega)];rfl
 have hr0m:=List.mem_of_getElem? hr0
 have hx0:=hget r0 hr0m
 refine kV Tryz.func240 rfl rfl fun w0=>?_
 refine ad (aa ?_)
 refine bw (cs:=[.pointer (some ⟨pw,0,none⟩)]) rfl rfl rfl (fun _=>rfl) fun p1=>?_
 refine ci rfl rfl rfl (fun _=>rfl) fun p2=>?_
 refine ae [] rfl ?_
 show J _ _ _ _ [_,_,_,_,_]
 refine bO (bh 4 rfl) fun ⟨_,hcwl,hAw0,_⟩=>?_
 obtain⟨gw,rfl⟩:=hAw0 hWpos
 refine ad ?_
 refine bp 13 [(0,true),(1,true),(2,true),(3,true),(4,true),(5,true),(6,true),(7,true),(8,true),(9,true),(10,true),(11,true),(12,true)] [0,1,2,3,4] (by kernel_rfl) (by decide) rfl ?_
 refine aj [] rfl (af (v:=.pointer (some ⟨pw,0,none⟩)) 1 rfl rfl rfl rfl) rfl ?_
 refine aF [] rfl ?_
 refine aj [] rfl (af (v:=.slice (some ⟨gr,0,none⟩) (2*N.arcs.length) cr) 2 rfl rfl rfl rfl) rfl ?_
 refine aj [] rfl (af (v:=.pointer (some ⟨pw,0,none⟩)) 1 rfl rfl rfl rfl) rfl ?_
 refine aF [] rfl ?_
 refine aj [] rfl (af (v:=.slice (some ⟨gw,0,none⟩) W.length cw) 2 rfl rfl rfl rfl) rfl ?_
 refine aj [] rfl (aJ (m:=0) rfl rfl rfl rfl rfl hWpos) rfl ?_
 refine aj [] rfl (aD (v:=.int .i64 (r0:Int)) 4 rfl rfl rfl (dh hr0)) rfl ?_
 refine aj [] rfl (aJ rfl rfl rfl rfl rfl (hW r0 hr0m)) rfl ?_
 refine aj [] rfl (aD 3 rfl rfl rfl (a9 hx0)) rfl ?_
 refine dW [] rfl ?_
 refine ai ?_
 refine ad (ad (aa ?_))
 refine ab [] (af (v:=.pointer (some ⟨pw,0,none⟩)) 1 rfl rfl rfl rfl) rfl ?_
 refine ah [] rfl ?_
 refine ab [] (af (v:=.slice (some ⟨gw,0,none⟩) W.length cw) 2 rfl rfl rfl rfl) rfl ?_
 refine ae [] rfl ?_
 refine au ?_
 refine bq (σ:=Nat) (fun k=>[(27,.int .i64 k),(26,.int .i64 W.length),(25,.slice (some ⟨gw,0,none⟩) W.length cw),(3,.int .i64 ((W.take k).foldl (fun m q=>if rm.getD q 0<m then rm.getD q 0 else m) (rm.getD r0 0))),(2,.pointer (some ⟨p2,0,none⟩)),(1,.pointer (some ⟨p1,0,none⟩))])
  (fun _=>[blk p2 313 [.slice none 0 0,.int .i64 0],blk p1 310 [.pointer (some ⟨pw,0,none⟩)],blk pw 316 (pu N A c (some ⟨gr,0,none⟩) cr least gl n (some ⟨gw,0,none⟩) W.length cw),.own (.slice (some ⟨gr,0,none⟩) (2*N.arcs.length) cr) 2 1 (2*N.arcs.length) (ap rm),.own (.slice (some ⟨gw,0,none⟩) W.length cw) 3 1 W.length (bL W)])
  (fun k=>k≤W.length) (fun k=>W.length-k) 0 [0,1,2,3,4] ⟨rfl,rfl,rfl,rfl,rfl,rfl,trivial⟩ (by decide) rfl (Nat.zero_le _) ?_
 intro k hk
 refine ad (aa (ae [] rfl ?_))
 refine ad (aC rfl (fun hlt=>av ?_) (fun hge=>aV ?_))
 ·have hlt:k<W.length:=by omega
  obtain⟨r,hr⟩:∃ r,W[k]?=some r:=⟨W[k],List.getElem?_eq_getElem hlt⟩
  have hrm:=List.mem_of_getElem? hr
  have hstep:=rF rm W (rm.getD r0 0) k r hr
  refine ad (au ?_)
  refine ad (aa (ah [] rfl ?_))
  refine ab [] (aJ rfl rfl rfl rfl rfl hlt) rfl ?_
  refine ab [] (aD (v:=.int .i64 (r:Int)) 4 rfl rfl rfl (dh hr)) rfl ?_
  refine ae [] rfl ?_
  refine aa (ah [] rfl ?_)
  refine ab [] (af (v:=.pointer (some ⟨pw,0,none⟩)) 1 rfl rfl rfl rfl) rfl ?_
  refine ah [] rfl ?_
  refine ab [] (af (v:=.slice (some ⟨gr,0,none⟩) (2*N.arcs.length) cr) 2 rfl rfl rfl rfl) rfl ?_
  refine ah [] rfl ?_
  refine ab [] (aJ rfl rfl rfl rfl rfl (hW r hrm)) rfl ?_
  refine ab [] (aD 3 rfl rfl rfl (a9 (hget r hrm))) rfl ?_
  refine ae [] rfl ?_
  refine aa (ae [] rfl ?_)
  refine⟨k+1,[0,1,2,3,4],⟨?_,rfl,rfl,by rw[hstep];rfl,rfl,rfl,trivial⟩,by decide,rfl,by omega,by omega⟩
  show some (Value.int .i64 (IntKind.i64.wrap ((k:Int)+1)))=_
  rw[bU (by omega)];rfl
 obtain rfl:k=W.length:=by omega
 rw[List.take_length,show W.foldl (fun m q=>if rm.getD q 0<m then rm.getD q 0 else m) (rm.getD r0 0)=bS rm W by unfold bS;rw[hhead]]
 unfold sZ
 obtain⟨ra,hra,hma⟩:=iU (rm:=rm) hne
 have hmb:=hrb ra
 rw[← hma] at hmb
 obtain⟨a,ha⟩:∃ a,a=bS rm W:=⟨_,rfl⟩
 have hmle:∀ r∈W,a≤rm.getD r 0:=fun r hr=>ha▸kO r hr
 rw[← ha] at hmb hma ⊢
 have hcur:∀ k q:Nat,q<2*N.arcs.length→(bC a (W.take k) rm)[q]?=some ((bC a (W.take k) rm).getD q 0):=fun k q hq=>by
  rw[List.getD_eq_getElem?_getD,List.getElem?_eq_getElem (by rw[eD];omega)];rfl
 have hcv:∀ k q:Nat,(bC a (W.take k) rm).getD q 0=rm.getD q 0+(if bi q∈W.take k then a else 0)-(if q∈W.take k then a else 0):=fun k q=>
  eU hrl (fun r hr=>hW r (List.mem_of_mem_take hr)) ((List.take_sublist k W).nodup hWn) q
 refine ad (aa ?_)
 refine ab [] (af (v:=.pointer (some ⟨pw,0,none⟩)) 1 rfl rfl rfl rfl) rfl ?_
 refine ah [] rfl ?_
 refine ab [] (af (v:=.slice (some ⟨gw,0,none⟩) W.length cw) 2 rfl rfl rfl rfl) rfl ?_
 refine ax [] (oo (some ⟨gw,0,none⟩) cw gw 0 (W.map fun (i:Nat)=>(i:Int)) (fun _=>rfl) (by rw[List.length_map];omega)) rfl rfl rfl (by rw[List.length_map];rfl) (by kernel_rfl) ⟨⟨4,_,by simp,rfl,bX,a7 (fun _=>rfl)⟩,trivial⟩ (fun _=>rfl) ?_
 rintro v H' ⟨At,ct,rfl,rfl⟩
 refine⟨rfl,?_⟩
 rw[List.length_map]
 refine ah [] rfl ?_
 refine ab [] (cj rfl rfl rfl rfl rfl rfl) rfl ?_
 refine ci rfl rfl rfl (fun _=>rfl) fun p6=>?_
 refine aX 0 rfl rfl rfl rfl rfl [] rfl ?_
 refine ai ?_
 refine ad (ad (aa ?_))
 refine ab [] (af (v:=.pointer (some ⟨pw,0,none⟩)) 3 rfl rfl rfl rfl) rfl ?_
 refine ah [] rfl ?_
 refine ab [] (af (v:=.slice (some ⟨gw,0,none⟩) W.length cw) 4 rfl rfl rfl rfl) rfl ?_
 refine ae [] rfl ?_
 refine au ?_
 refine bq (σ:=Nat) (fun k=>[(53,.int .i64 k),(52,.int .i64 W.length),(51,.slice (some ⟨gw,0,none⟩) W.length cw),(3,.int .i64 a),(6,.pointer (some ⟨p6,0,none⟩)),(2,.pointer (some ⟨p2,0,none⟩)),(1,.pointer (some ⟨p1,0,none⟩))])
  (fun k=>[blk p6 313 [.slice At W.length ct,.int .i64 a],blk p2 313 [.slice none 0 0,.int .i64 0],blk p1 310 [.pointer (some ⟨pw,0,none⟩)],blk pw 316 (pu N A c (some ⟨gr,0,none⟩) cr least gl n (some ⟨gw,0,none⟩) W.length cw),.own (.slice (some ⟨gr,0,none⟩) (2*N.arcs.length) cr) 2 1 (2*N.arcs.length) (ap (bC a (W.take k) rm)),.own (.slice (some ⟨gw,0,none⟩) W.length cw) 3 1 W.length (bL W)])
  (fun k=>k≤W.length) (fun k=>W.length-k) 0 [0,2,3,4,5,6] ⟨rfl,rfl,rfl,rfl,rfl,rfl,rfl,trivial⟩ (by decide) rfl (Nat.zero_le _) ?_
 intro k hk
 refine ad (aa (ae [] rfl ?_))
 refine ad (aC rfl (fun hlt=>av ?_) (fun hge=>aV ?_))
 ·have hlt:k<W.length:=by omega
  obtain⟨r,hr⟩:∃ r,W[k]?=some r:=⟨W[k],List.getElem?_eq_getElem hlt⟩
  have hrm:=List.mem_of_getElem? hr
  have hrl2:=hW r hrm
  have hfl:=qM hrl2
  have htk:W.take (k+1)=W.take k++[r]:=by rw[List.take_add_one,hr];rfl
  have hnt:r∉W.take k:=by
   intro hin
   have h1:=hWn
   rw[← List.take_append_drop (k+1) W,htk] at h1
   exact (List.nodup_append.1 (List.nodup_append.1 h1).1).2.2 r hin r (by simp) rfl
  have hnf:bi r∉W.take k:=fun hin=>hWf r hrm _ (List.mem_of_mem_take hin) rfl
  have e1:(bC a (W.take k) rm).getD r 0=rm.getD r 0:=by rw[hcv,if_neg hnf,if_neg hnt];omega
  have e2:(bC a (W.take k) rm).getD (bi r) 0=rm.getD (bi r) 0:=by rw[hcv,io,if_neg hnt,if_neg hnf];omega
  have b1:=hrb r
  have b2:=hrb (bi r)
  have b3:=hmle r hrm
  have hpush:bC a (W.take (k+1)) rm=((bC a (W.take k) rm).set r (rm.getD r 0-a)).set (bi r) (rm.getD (bi r) 0+a):=by rw[htk,nM];unfold kN;rw[e1,e2]
  have hg1:=hcur k r hrl2
  rw[e1] at hg1
  have hg2:=hcur k (bi r) hfl
  rw[e2] at hg2
  have hg3:((bC a (W.take k) rm).set r (rm.getD r 0-a))[bi r]?=some (rm.getD (bi r) 0):=by rw[List.getElem?_set_ne (qg r).symm];exact hg2
  have hxo:=ye (r:=r) (by omega)
  refine ad (au ?_)
  refine ad (aa (ah [] rfl ?_))
  refine ab [] (aJ rfl rfl rfl rfl rfl hlt) rfl ?_
  refine ab [] (aD (v:=.int .i64 (r:Int)) 5 rfl rfl rfl (dh hr)) rfl ?_
  refine ae [] rfl ?_
  refine ad (aa ?_)
  refine ab [] (af (v:=.pointer (some ⟨pw,0,none⟩)) 2 rfl rfl rfl rfl) rfl ?_
  refine ah [] rfl ?_
  refine ab [] (af (v:=.slice (some ⟨gr,0,none⟩) (2*N.arcs.length) cr) 3 rfl rfl rfl rfl) rfl ?_
  refine ah [] rfl ?_
  refine ab [] (aJ rfl rfl rfl rfl rfl hrl2) rfl ?_
  refine ab [] (aD 4 rfl rfl rfl (a9 hg1)) rfl ?_
  refine ah [] rfl ?_
  refine aw 65 (v':=.int .i64 (rm.getD r 0-a)) rfl (congrArg (Value.int .i64) (bU (by omega))) ?_
  refine ab [] (aJ rfl rfl rfl rfl rfl hrl2) rfl ?_
  refine aQ 4 rfl rfl rfl rfl (ep rfl (by rw[eD];omega)) [] rfl ?_
  refine ai ?_
  refine aa ?_
  refine ab [] (af (v:=.pointer (some ⟨pw,0,none⟩)) 2 rfl rfl rfl rfl) rfl ?_
  refine ah [] rfl ?_
  refine ab [] (af (v:=.slice (some ⟨gr,0,none⟩) (2*N.arcs.length) cr) 3 rfl rfl rfl rfl) rfl ?_
  refine ah [] rfl ?_
  refine aw 72 (v':=.int .i64 ((bi r:Nat):Int)) rfl (congrArg (Value.int .i64) hxo) ?_
  refine ab [] (aJ rfl rfl rfl rfl rfl hfl) rfl ?_
  refine ab [] (aD 4 rfl rfl rfl (a9 hg3)) rfl ?_
  refine ah [] rfl ?_
  refine aw 76 (v':=.int .i64 (rm.getD (bi r) 0+a)) rfl (congrArg (Value.int .i64) (bU (by omega))) ?_
  refine ab [] (aJ rfl rfl rfl rfl rfl hfl) rfl ?_
  refine aQ 4 rfl rfl rfl rfl (ep rfl (by rw[List.length_set,eD];omega)) [] rfl ?_
  refine ai ?_
  refine aa (ae [] rfl ?_)
  refine⟨k+1,[0,1,2,3,4,5],⟨?_,rfl,rfl,rfl,rfl,rfl,rfl,trivial⟩,by decide,by rw[hpush];rfl,by omega,by omega⟩
  show some (Value.int .i64 (IntKind.i64.wrap ((k:Int)+1)))=_
  rw[bU (by omega)];rfl
 obtain rfl:k=W.length:=by omega
 have hfin:=hcv W.length
 rw[List.take_length] at hfin ⊢
 obtain⟨rm',hrm'⟩:∃ rm',rm'=bC a W rm:=⟨_,rfl⟩
 rw[← hrm'] at hfin ⊢
 have hrl':rm'.length=2*N.arcs.length:=by rw[hrm',eD];exact hrl
 have hex:∃ r∈W,rm'.getD r 0<least:=⟨ra,hra,by
  rw[hfin,if_neg (fun hin=>hWf ra hra _ hin rfl),if_pos hra];omega⟩
 obtain⟨k,hk⟩:∃ k,k=kH least rm' W:=⟨_,rfl⟩
 have hkW:k≤W.length:=by rw[hk];exact List.findIdx_le_length
 refine ad (aa ?_)
 refine ab [] (af (v:=.pointer (some ⟨pw,0,none⟩)) 2 rfl rfl rfl rfl) rfl ?_
 refine ah [] rfl ?_
 refine ab [] (af (v:=.slice (some ⟨gw,0,none⟩) W.length cw) 3 rfl rfl rfl rfl) rfl ?_
 refine ah [] rfl ?_
 refine ax [] (vh N A c pw p1 (some ⟨gr,0,none⟩) cr gr least gl n (some ⟨gw,0,none⟩) cw gw rm' hrl' (fun _=>rfl) W hW hWl (fun _=>rfl) hex) rfl rfl rfl rfl (by kernel_rfl)
  ⟨⟨2,_,by simp,rfl,aL _ _ _ (0,0),.inr rfl⟩,⟨3,_,by simp,rfl,aL _ _ _ (0,0),.inr rfl⟩,⟨4,_,by simp,rfl,bX,a7 (fun _=>rfl)⟩,⟨5,_,by simp,rfl,bX,a7 (fun _=>rfl)⟩,trivial⟩ (fun _=>rfl) ?_
 rintro v H' ⟨rfl,rfl⟩
 refine⟨rfl,?_⟩
 refine ae [] rfl ?_
 rw[← hk]
 refine ad ?_
 refine bp 9 [(0,true),(1,true),(2,true),(3,true),(4,true),(5,true),(6,true),(7,true),(8,true)] [2,3] (by kernel_rfl) (by decide) rfl ?_
 refine aj [] rfl (af (v:=.pointer (some ⟨pw,0,none⟩)) 0 rfl rfl rfl rfl) rfl ?_
 refine aj [] rfl (af (v:=.pointer (some ⟨pw,0,none⟩)) 0 rfl rfl rfl rfl) rfl ?_
 refine aF [] rfl ?_
 refine aj [] rfl (af (v:=.slice (some ⟨gw,0,none⟩) W.length cw) 1 rfl rfl rfl rfl) rfl ?_
 refine aF [] rfl ?_
 refine aj [] rfl (fg (i:=k) rfl rfl rfl rfl rfl (by omega)) rfl ?_
 refine dW [] rfl ?_
 refine aX 3 rfl rfl rfl rfl rfl [] rfl ?_
 refine ai ?_
 refine bA (aK.shrink (m:=k) 5 rfl hkW) ?_
 rw[Nat.mul_one,show (bL W).take k=bL (W.take k) by unfold bL;rw[List.map_take];simp[ap]]
 refine ad (aa ?_)
 refine ab [] (af (v:=.agg #[.slice At W.length ct,.int .i64 a]) 0 rfl rfl rfl rfl) rfl ?_
 refine aX 1 rfl rfl rfl rfl rfl [] rfl ?_
 refine ai ?_
 refine aB ?_
 exact⟨[_],[3,4,5],_,⟨⟨p2,1,_,_,rfl,rfl,rfl⟩,trivial⟩,by decide,rfl,some ⟨gw,0,none⟩,cw,At,ct,rfl,rfl⟩
end Go.Proofs.YtpbmihpjgjbndaaGreatDoor
