/- The engine and the words that all chapters share: several texts in one. -/
import Derived.Test.YtpbmihpjgjbndaaGreatQB
import Derived.Test.YtpbmihpjgjbndaaGreatWalkN
/- Rows that are cloned. -/
set_option linter.unusedVariables false
set_option linter.unusedSimpArgs false
namespace Go.Proofs.YtpbmihpjgjbndaaGreat
open Go.RowKit
theorem fK (l:List Int):one (aw l)=true:=by
 induction l with
 |nil=>rfl
 |cons x l ih=>exact ih
theorem nD (A:Option Addr) (c b o:Nat) (l:List Int) (hA:l≠[]→A=some ⟨b,o,none⟩) (hl:l.length≤100000):
 Fn 104 [.slice A l.length c] [] [.seg b o (aw l)] fun v H'=>∃ (A':Option Addr) (c':Nat),v=.slice A' l.length c'∧H'=[.own (.slice A' l.length c') 3 1 l.length (aw l)]:=by
 refine aM Tryz.func104 rfl rfl fun w0=>?_
 refine ae (aa (af [] rfl ?_))
 refine ae (ae (aa (ah [] rfl ?_)))
 refine ab [] (nt rfl rfl rfl rfl) rfl ?_
 refine aj ?_
 cases A with
 |none=>
  have h0:l=[]:=Classical.byContradiction fun h=>by have:=hA h;simp at this
  subst h0
  refine bz rfl ?_
  refine ae (aa (af [] rfl ?_))
  refine bO 3 1 ?_
  exact aE [0] (by decide) rfl (aB ⟨_,rfl,none,0,rfl,rfl⟩)
 |some a=>
  refine bP rfl (aq ?_)
  refine ae (aa ?_)
  refine b8 rfl rfl rfl rfl rfl rfl rfl (fun _=>rfl) fun g=>?_
  refine nN 1 0 rfl (by decide) ?_
  refine ah [] rfl ?_
  refine a9 (n:=0) (m:=l.length) (off:=o) (b:=b) (news:=aw l) 0 1 rfl rfl rfl rfl rfl rfl (by decide) rfl rfl (ak _ _ _) (fun h=>hA (fun e=>h (by rw[e];rfl))) (by rw[bh];omega) (fK l) (by omega) (by omega) (fun _ _=>rfl) fun A2 c2=>?_
  rw[Nat.zero_add]
  refine af [] rfl ?_
  exact aE [0] (by decide) rfl (aB ⟨_,rfl,A2,c2,rfl,rfl⟩)
theorem jq (A:Option Addr) (c b o:Nat) (l:List Int) (hA:l≠[]→A=some ⟨b,o,none⟩) (hl:l.length≤100000):
 Fn 54 [.slice A l.length c] [] [.seg b o (aw l)] fun v H'=>∃ (A':Option Addr) (c':Nat),v=.slice A' l.length c'∧H'=[.own (.slice A' l.length c') 2 1 l.length (aw l)]:=by
 refine aM Tryz.func54 rfl rfl fun w0=>?_
 refine ae (aa (af [] rfl ?_))
 refine ae (ae (aa (ah [] rfl ?_)))
 refine ab [] (nt rfl rfl rfl rfl) rfl ?_
 refine aj ?_
 cases A with
 |none=>
  have h0:l=[]:=Classical.byContradiction fun h=>by have:=hA h;simp at this
  subst h0
  refine bz rfl ?_
  refine ae (aa (af [] rfl ?_))
  refine bO 2 1 ?_
  exact aE [0] (by decide) rfl (aB ⟨_,rfl,none,0,rfl,rfl⟩)
 |some a=>
  refine bP rfl (aq ?_)
  refine ae (aa ?_)
  refine b8 rfl rfl rfl rfl rfl rfl rfl (fun _=>rfl) fun g=>?_
  refine nN 1 0 rfl (by decide) ?_
  refine ah [] rfl ?_
  refine a9 (n:=0) (m:=l.length) (off:=o) (b:=b) (news:=aw l) 0 1 rfl rfl rfl rfl rfl rfl (by decide) rfl rfl (ak _ _ _) (fun h=>hA (fun e=>h (by rw[e];rfl))) (by rw[bh];omega) (fK l) (by omega) (by omega) (fun _ _=>rfl) fun A2 c2=>?_
  rw[Nat.zero_add]
  refine af [] rfl ?_
  exact aE [0] (by decide) rfl (aB ⟨_,rfl,A2,c2,rfl,rfl⟩)
end Go.Proofs.YtpbmihpjgjbndaaGreat
/- What a walk carries, step by step. -/
set_option linter.unusedVariables false
set_option linter.unusedSimpArgs false
namespace Go.Proofs.YtpbmihpjgjbndaaGreat
open Go.RowKit
theorem vr (r:Nat):r^^^1=bF r:=by
 have h1:=Nat.xor_div_two (a:=r) (b:=1)
 have h2:(r^^^1)%2=(r+1)%2:=by
  have h:=Nat.xor_mod_two_eq_one (a:=r) (b:=1)
  by_cases h2:r%2=1
  ·have:¬ (r^^^1)%2=1:=by rw[h];simp[h2]
   omega
  ·have:(r^^^1)%2=1:=by rw[h];simp[h2]
   omega
 have h3:r/2^^^1/2=r/2:=by show r/2^^^0=_;exact Nat.xor_zero _
 unfold bF
 split<;>omega
theorem vH {r:Nat} (h:r<4611686018427387904):IntKind.i64.wrap ((BitVec.ofInt IntKind.i64.bits (r:Int)^^^BitVec.ofInt IntKind.i64.bits 1).toNat:Int)=((bF r:Nat):Int):=by
 have e:(BitVec.ofInt IntKind.i64.bits (r:Int)^^^BitVec.ofInt IntKind.i64.bits 1).toNat=r^^^1:=by
  rw[BitVec.toNat_xor,BitVec.toNat_ofInt,BitVec.toNat_ofInt]
  have e1:((1:Int)%((2^IntKind.i64.bits:Nat):Int)).toNat=1:=by decide
  have e2:((2^IntKind.i64.bits:Nat):Int)=18446744073709551616:=by decide
  rw[e1,e2]
  congr 1
  omega
 rw[e,vr,bK (by unfold bF;split<;>omega)]
theorem vi (N:bt) (A:Option Addr) (c pw p1:Nat) (Ar:Option Addr) (cr gr:Nat) (least:Int) (gl n:Nat) (Aw:Option Addr) (nw cw:Nat) (rm:List Int) (hrl:rm.length=2*N.arcs.length) (hAr:rm≠[]→Ar=some ⟨gr,0,none⟩) (r:Nat) (hr:r<2*N.arcs.length):
 Fn 106 [.int .i64 r,.pointer (some ⟨p1,0,none⟩)] [] [.seg p1 0 [.pointer (some ⟨pw,0,none⟩)],.seg pw 0 (oc N A c Ar cr least gl n Aw nw cw),.seg gr 0 (aw rm)] fun v H'=>v=.bool (cU (rm.getD r 0<least))∧H'=[]:=by
 obtain⟨x,hxr⟩:∃ x,rm[r]?=some x:=⟨rm[r]'(by omega),List.getElem?_eq_getElem (by omega)⟩
 have hxd:rm.getD r 0=x:=by rw[List.getD_eq_getElem?_getD,hxr];rfl
 obtain rfl:=hAr (by intro h0;rw[h0] at hxr;simp at hxr)
 rw[hxd]
 refine aM Tryz.func106 rfl rfl fun w0=>?_
 refine ae (aa (af [] rfl ?_))
 refine ae ?_
 refine bq 13 [(0,true),(1,true),(2,true),(3,true),(4,true),(5,true),(6,true),(7,true),(8,true),(9,true),(10,true),(11,true),(12,true)] [0,1,2] (by kernel_rfl) (by decide) rfl ?_
 refine ai [] rfl (aU (i:=0) 0 rfl rfl rfl rfl rfl) rfl ?_
 refine aJ [] rfl ?_
 refine ai [] rfl (aU (i:=4) (v:=.slice (some ⟨gr,0,none⟩) (2*N.arcs.length) cr) 1 rfl rfl rfl rfl rfl) rfl ?_
 refine aJ [] rfl ?_
 refine ai [] rfl (aI rfl rfl rfl rfl rfl hr) rfl ?_
 refine ai [] rfl (aU (i:=r) 2 rfl rfl rfl (Nat.zero_add _).symm (bn hxr)) rfl ?_
 refine ai [] rfl (aU (i:=0) 0 rfl rfl rfl rfl rfl) rfl ?_
 refine aJ [] rfl ?_
 refine ai [] rfl (aU (i:=5) (v:=.int .i64 least) 1 rfl rfl rfl rfl rfl) rfl ?_
 refine cA [] rfl ?_
 refine aj ?_
 exact aE [] (by decide) rfl (aB ⟨_,rfl,rfl,rfl⟩)
theorem uR (N:bt) (A:Option Addr) (c pw p1:Nat) (Ar:Option Addr) (cr gr:Nat) (least:Int) (gl n:Nat) (Aw:Option Addr) (cw gw:Nat) (rm:List Int) (hrl:rm.length=2*N.arcs.length) (hAr:rm≠[]→Ar=some ⟨gr,0,none⟩)
 (W:List Nat) (hW:∀ r∈W,r<2*N.arcs.length) (hWl:W.length≤1000) (hAw:W≠[]→Aw=some ⟨gw,0,none⟩) (hex:∃ r∈W,rm.getD r 0<least):
 Fn 105 [.slice Aw W.length cw,.func (.func 106) #[] #[.pointer (some ⟨p1,0,none⟩)]] [] [.seg p1 0 [.pointer (some ⟨pw,0,none⟩)],.seg pw 0 (oc N A c Ar cr least gl n Aw W.length cw),.seg gr 0 (aw rm),.seg gw 0 (bs W)]
  fun v H'=>v=.int .i64 (kt least rm W:Nat)∧H'=[]:=by
 refine aM Tryz.func105 rfl rfl fun w0=>?_
 refine ae (aa (af [] rfl ?_))
 refine ae (ae (aa (af [] rfl ?_)))
 refine au ?_
 refine bu (σ:=Nat) (fun k=>[(8,.int .i64 k),(7,.int .i64 W.length),(1,.func (.func 106) #[] #[.pointer (some ⟨p1,0,none⟩)]),(0,.slice Aw W.length cw)])
  (fun _=>[.seg p1 0 [.pointer (some ⟨pw,0,none⟩)],.seg pw 0 (oc N A c Ar cr least gl n Aw W.length cw),.seg gr 0 (aw rm),.seg gw 0 (bs W)]) (fun k=>k≤W.length∧∀ j r,j<k→W[j]?=some r→¬ rm.getD r 0<least) (fun k=>W.length-k)
  0 [0,1,2,3] ⟨rfl,rfl,rfl,rfl,trivial⟩ (by decide) rfl ⟨Nat.zero_le _,fun j r h=>by omega⟩ ?_
 rintro k ⟨hk,hbef⟩
 refine ae (aa (af [] rfl ?_))
 refine ae (aC rfl (fun hlt=>aq ?_) (fun hge=>aO ?_))
 ·have hlt:k<W.length:=by omega
  obtain⟨r,hr⟩:∃ r,W[k]?=some r:=⟨W[k],List.getElem?_eq_getElem hlt⟩
  obtain rfl:=hAw (by rintro rfl;simp at hlt)
  refine ae (au ?_)
  refine ae (aa (af [] rfl ?_))
  refine ae (aa (ah [] rfl ?_))
  refine ab [] (aI rfl rfl rfl rfl rfl hlt) rfl ?_
  refine ab [] (aU (i:=k) 3 rfl rfl rfl (Nat.zero_add _).symm (dA hr)) rfl ?_
  refine ax (fst:=[]) (cap:=[.pointer (some ⟨p1,0,none⟩)]) [] (vi N A c pw p1 Ar cr gr least gl n _ W.length cw rm hrl hAr r (hW r (List.mem_of_getElem? hr))) rfl rfl rfl rfl (by kernel_rfl) ⟨⟨0,_,by simp,rfl,ak _ _ _,ap⟩,⟨1,_,by simp,rfl,ak _ _ _,ap⟩,⟨2,_,by simp,rfl,ak _ _ _,ap⟩,trivial⟩ (fun _=>rfl) ?_
  rintro v H' ⟨rfl,rfl⟩
  refine⟨rfl,?_⟩
  refine aj ?_
  refine aC rfl (fun hs=>?_) (fun hs=>aq ?_)
  ·refine ae (aa (af [] rfl ?_))
   refine aE [] (by decide) rfl (aB ⟨_,rfl,congrArg (Value.int .i64) ?_,rfl⟩)
   have:kt least rm W=k:=by
    unfold kt
    refine (List.findIdx_eq hlt).2 ⟨by rw[(List.getElem?_eq_some_iff.1 hr).2];exact decide_eq_true hs,fun j hj=>?_⟩
    have:=hbef j (W[j]'(by omega)) hj (List.getElem?_eq_getElem (by omega))
    simpa using this
   rw[this]
  ·skip
   refine aa (af [] rfl ?_)
   refine⟨k+1,[0,1,2,3],⟨?_,rfl,rfl,rfl,trivial⟩,by decide,rfl,⟨by omega,fun j q hj hq=>?_⟩,by omega⟩
   ·show some (Value.int .i64 (IntKind.i64.wrap ((k:Int)+1)))=_
    rw[bK (by omega)];rfl
   ·by_cases e:j=k
    ·subst e;rw[hr] at hq;simp only[Option.some.injEq] at hq;rw[← hq];exact hs
    ·exact hbef j q (by omega) hq
 ·exfalso
  obtain⟨r,hr,hs⟩:=hex
  obtain⟨j,hj,hjr⟩:=List.mem_iff_getElem.1 hr
  exact hbef j r (by omega) (by rw[List.getElem?_eq_getElem hj,hjr]) hs
def rW (least:Int) (N:bt) (A:Option Addr) (c:Nat) (gr cr pw gl n:Nat) (rm:List Int) (W:List Nat) (v:Value) (H':Heap):Prop:=
 ∃ (Aw:Option Addr) (cw:Nat) (At:Option Addr) (ct:Nat),v=.agg #[.slice At W.length ct,.int .i64 (ci rm W)]∧
   H'=[blk pw 176 (oc N A c (some ⟨gr,0,none⟩) cr least gl n Aw (kt least (bZ (ci rm W) W rm) W) cw),.own (.slice (some ⟨gr,0,none⟩) (2*N.arcs.length) cr) 2 1 (2*N.arcs.length) (aw (bZ (ci rm W) W rm)),
    .own (.slice Aw (kt least (bZ (ci rm W) W rm) W) cw) 3 1 (kt least (bZ (ci rm W) W rm) W) (bs (W.take (kt least (bZ (ci rm W) W rm) W)))]
theorem qv (rm:List Int) (W:List Nat) (x:Int) (k r:Nat) (hr:W[k]?=some r):(W.take (k+1)).foldl (fun m q=>if rm.getD q 0<m then rm.getD q 0 else m) x=if rm.getD r 0<(W.take k).foldl (fun m q=>if rm.getD q 0<m then rm.getD q 0 else m) x then rm.getD r 0 else (W.take k).foldl (fun m q=>if rm.getD q 0<m then rm.getD q 0 else m) x:=by
 rw[List.take_add_one,hr,List.foldl_append];rfl
set_option maxHeartbeats 1000000 in
theorem vN (N:bt) (hl2:N.arcs.length≤2000) (A:Option Addr) (c:Nat) (pw gr cr:Nat) (least:Int) (hle:1≤least) (gl n:Nat) (Aw:Option Addr) (cw:Nat) (rm:List Int) (hrl:rm.length=2*N.arcs.length) (hrb:∀ q,0≤rm.getD q 0∧rm.getD q 0≤4611686018427387903)
 (W:List Nat) (hW:∀ r∈W,r<2*N.arcs.length) (hWl:W.length≤1000) (hWn:W.Nodup) (hWf:∀ r∈W,∀ q∈W,bF r≠q) (hne:W≠[]):
 Fn 102 [.pointer (some ⟨pw,0,none⟩)] (aX ([blk pw 176 (oc N A c (some ⟨gr,0,none⟩) cr least gl n Aw W.length cw),.own (.slice (some ⟨gr,0,none⟩) (2*N.arcs.length) cr) 2 1 (2*N.arcs.length) (aw rm),.own (.slice Aw W.length cw) 3 1 W.length (bs W)]))
  ([]++([blk pw 176 (oc N A c (some ⟨gr,0,none⟩) cr least gl n Aw W.length cw),.own (.slice (some ⟨gr,0,none⟩) (2*N.arcs.length) cr) 2 1 (2*N.arcs.length) (aw rm),.own (.slice Aw W.length cw) 3 1 W.length (bs W)]))
  (rW least N A c gr cr pw gl n rm W):=by
 generalize hM:aX _=M
 have hWpos:0<W.length:=List.length_pos_iff.2 hne
 obtain⟨r0,hr0⟩:∃ r0,W[0]?=some r0:=⟨W[0],List.getElem?_eq_getElem hWpos⟩
 have hhead:W.headD 0=r0:=by rw[List.headD_eq_head?_getD,List.head?_eq_getElem?,hr0];rfl
 have hget:∀ r∈W,rm[r]?=some (rm.getD r 0):=fun r hr=>by rw[List.getD_eq_getElem?_getD,List.getElem?_eq_getElem (by have:=hW r hr;omega)];rfl
 have hr0m:=List.mem_of_getElem? hr0
 have hx0:=hget r0 hr0m
 refine em Tryz.func102 rfl rfl fun w0=>?_
 refine ae (aa ?_)
 refine a6 (cs:=[.pointer (some ⟨pw,0,none⟩)]) rfl rfl rfl (fun _=>rfl) fun p1=>?_
 refine aQ rfl rfl rfl (fun _=>rfl) fun p2=>?_
 refine af [] rfl ?_
 show J _ _ _ _ [_,_,_,_,_]
 refine bG (bp 4 rfl) fun ⟨_,hcwl,hAw0,_⟩=>?_
 obtain⟨gw,rfl⟩:=hAw0 hWpos
 refine ae ?_
 refine bq 13 [(0,true),(1,true),(2,true),(3,true),(4,true),(5,true),(6,true),(7,true),(8,true),(9,true),(10,true),(11,true),(12,true)] [0,1,2,3,4] (by kernel_rfl) (by decide) rfl ?_
 refine ai [] rfl (ad (v:=.pointer (some ⟨pw,0,none⟩)) 1 rfl rfl rfl rfl) rfl ?_
 refine aJ [] rfl ?_
 refine ai [] rfl (ad (v:=.slice (some ⟨gr,0,none⟩) (2*N.arcs.length) cr) 2 rfl rfl rfl rfl) rfl ?_
 refine ai [] rfl (ad (v:=.pointer (some ⟨pw,0,none⟩)) 1 rfl rfl rfl rfl) rfl ?_
 refine aJ [] rfl ?_
 refine ai [] rfl (ad (v:=.slice (some ⟨gw,0,none⟩) W.length cw) 2 rfl rfl rfl rfl) rfl ?_
 refine ai [] rfl (aI (m:=0) rfl rfl rfl rfl rfl hWpos) rfl ?_
 refine ai [] rfl (aF (v:=.int .i64 (r0:Int)) 4 rfl rfl rfl (dA hr0)) rfl ?_
 refine ai [] rfl (aI rfl rfl rfl rfl rfl (hW r0 hr0m)) rfl ?_
 refine ai [] rfl (aF 3 rfl rfl rfl (bn hx0)) rfl ?_
 refine cA [] rfl ?_
 refine aj ?_
 refine ae (ae (aa ?_))
 refine ab [] (ad (v:=.pointer (some ⟨pw,0,none⟩)) 1 rfl rfl rfl rfl) rfl ?_
 refine ah [] rfl ?_
 refine ab [] (ad (v:=.slice (some ⟨gw,0,none⟩) W.length cw) 2 rfl rfl rfl rfl) rfl ?_
 refine af [] rfl ?_
 refine au ?_
 refine bu (σ:=Nat) (fun k=>[(27,.int .i64 k),(26,.int .i64 W.length),(25,.slice (some ⟨gw,0,none⟩) W.length cw),(3,.int .i64 ((W.take k).foldl (fun m q=>if rm.getD q 0<m then rm.getD q 0 else m) (rm.getD r0 0))),(2,.pointer (some ⟨p2,0,none⟩)),(1,.pointer (some ⟨p1,0,none⟩))])
  (fun _=>[blk p2 173 [.slice none 0 0,.int .i64 0],blk p1 171 [.pointer (some ⟨pw,0,none⟩)],blk pw 176 (oc N A c (some ⟨gr,0,none⟩) cr least gl n (some ⟨gw,0,none⟩) W.length cw),.own (.slice (some ⟨gr,0,none⟩) (2*N.arcs.length) cr) 2 1 (2*N.arcs.length) (aw rm),.own (.slice (some ⟨gw,0,none⟩) W.length cw) 3 1 W.length (bs W)])
  (fun k=>k≤W.length) (fun k=>W.length-k) 0 [0,1,2,3,4] ⟨rfl,rfl,rfl,rfl,rfl,rfl,trivial⟩ (by decide) rfl (Nat.zero_le _) ?_
 intro k hk
 refine ae (aa (af [] rfl ?_))
 refine ae (aC rfl (fun hlt=>aq ?_) (fun hge=>aO ?_))
 ·have hlt:k<W.length:=by omega
  obtain⟨r,hr⟩:∃ r,W[k]?=some r:=⟨W[k],List.getElem?_eq_getElem hlt⟩
  have hrm:=List.mem_of_getElem? hr
  have hstep:=qv rm W (rm.getD r0 0) k r hr
  refine ae (au ?_)
  refine ae (aa (ah [] rfl ?_))
  refine ab [] (aI rfl rfl rfl rfl rfl hlt) rfl ?_
  refine ab [] (aF (v:=.int .i64 (r:Int)) 4 rfl rfl rfl (dA hr)) rfl ?_
  refine af [] rfl ?_
  refine aa (ah [] rfl ?_)
  refine ab [] (ad (v:=.pointer (some ⟨pw,0,none⟩)) 1 rfl rfl rfl rfl) rfl ?_
  refine ah [] rfl ?_
  refine ab [] (ad (v:=.slice (some ⟨gr,0,none⟩) (2*N.arcs.length) cr) 2 rfl rfl rfl rfl) rfl ?_
  refine ah [] rfl ?_
  refine ab [] (aI rfl rfl rfl rfl rfl (hW r hrm)) rfl ?_
  refine ab [] (aF 3 rfl rfl rfl (bn (hget r hrm))) rfl ?_
  refine af [] rfl ?_
  refine aa (af [] rfl ?_)
  refine⟨k+1,[0,1,2,3,4],⟨?_,rfl,rfl,by rw[hstep];rfl,rfl,rfl,trivial⟩,by decide,rfl,by omega,by omega⟩
  show some (Value.int .i64 (IntKind.i64.wrap ((k:Int)+1)))=_
  rw[bK (by omega)];rfl
 obtain rfl:k=W.length:=by omega
 rw[List.take_length,show W.foldl (fun m q=>if rm.getD q 0<m then rm.getD q 0 else m) (rm.getD r0 0)=ci rm W by unfold ci;rw[hhead]]
 unfold rW
 obtain⟨ra,hra,hma⟩:=ic (rm:=rm) hne
 have hmb:=hrb ra
 rw[← hma] at hmb
 obtain⟨a,ha⟩:∃ a,a=ci rm W:=⟨_,rfl⟩
 have hmle:∀ r∈W,a≤rm.getD r 0:=fun r hr=>ha▸g9 r hr
 rw[← ha] at hmb hma ⊢
 have hcur:∀ k q:Nat,q<2*N.arcs.length→(bZ a (W.take k) rm)[q]?=some ((bZ a (W.take k) rm).getD q 0):=fun k q hq=>by
  rw[List.getD_eq_getElem?_getD,List.getElem?_eq_getElem (by rw[eV];omega)];rfl
 have hcv:∀ k q:Nat,(bZ a (W.take k) rm).getD q 0=rm.getD q 0+(if bF q∈W.take k then a else 0)-(if q∈W.take k then a else 0):=fun k q=>
  fg hrl (fun r hr=>hW r (List.mem_of_mem_take hr)) ((List.take_sublist k W).nodup hWn) q
 refine ae (aa ?_)
 refine ab [] (ad (v:=.pointer (some ⟨pw,0,none⟩)) 1 rfl rfl rfl rfl) rfl ?_
 refine ah [] rfl ?_
 refine ab [] (ad (v:=.slice (some ⟨gw,0,none⟩) W.length cw) 2 rfl rfl rfl rfl) rfl ?_
 refine ax [] (nD (some ⟨gw,0,none⟩) cw gw 0 (W.map fun (i:Nat)=>(i:Int)) (fun _=>rfl) (by rw[List.length_map];omega)) rfl rfl rfl (by rw[List.length_map];rfl) (by kernel_rfl) ⟨⟨4,_,by simp,rfl,cp,aZ (fun _=>rfl)⟩,trivial⟩ (fun _=>rfl) ?_
 rintro v H' ⟨At,ct,rfl,rfl⟩
 refine⟨rfl,?_⟩
 rw[List.length_map]
 refine ah [] rfl ?_
 refine ab [] (bg rfl rfl rfl rfl rfl rfl) rfl ?_
 refine aQ rfl rfl rfl (fun _=>rfl) fun p6=>?_
 refine aD 0 rfl rfl rfl rfl rfl [] rfl ?_
 refine aj ?_
 refine ae (ae (aa ?_))
 refine ab [] (ad (v:=.pointer (some ⟨pw,0,none⟩)) 3 rfl rfl rfl rfl) rfl ?_
 refine ah [] rfl ?_
 refine ab [] (ad (v:=.slice (some ⟨gw,0,none⟩) W.length cw) 4 rfl rfl rfl rfl) rfl ?_
 refine af [] rfl ?_
 refine au ?_
 refine bu (σ:=Nat) (fun k=>[(53,.int .i64 k),(52,.int .i64 W.length),(51,.slice (some ⟨gw,0,none⟩) W.length cw),(3,.int .i64 a),(6,.pointer (some ⟨p6,0,none⟩)),(2,.pointer (some ⟨p2,0,none⟩)),(1,.pointer (some ⟨p1,0,none⟩))])
  (fun k=>[blk p6 173 [.slice At W.length ct,.int .i64 a],blk p2 173 [.slice none 0 0,.int .i64 0],blk p1 171 [.pointer (some ⟨pw,0,none⟩)],blk pw 176 (oc N A c (some ⟨gr,0,none⟩) cr least gl n (some ⟨gw,0,none⟩) W.length cw),.own (.slice (some ⟨gr,0,none⟩) (2*N.arcs.length) cr) 2 1 (2*N.arcs.length) (aw (bZ a (W.take k) rm)),.own (.slice (some ⟨gw,0,none⟩) W.length cw) 3 1 W.length (bs W)])
  (fun k=>k≤W.length) (fun k=>W.length-k) 0 [0,2,3,4,5,6] ⟨rfl,rfl,rfl,rfl,rfl,rfl,rfl,trivial⟩ (by decide) rfl (Nat.zero_le _) ?_
 intro k hk
 refine ae (aa (af [] rfl ?_))
 refine ae (aC rfl (fun hlt=>aq ?_) (fun hge=>aO ?_))
 ·have hlt:k<W.length:=by omega
  obtain⟨r,hr⟩:∃ r,W[k]?=some r:=⟨W[k],List.getElem?_eq_getElem hlt⟩
  have hrm:=List.mem_of_getElem? hr
  have hrl2:=hW r hrm
  have hfl:=pD hrl2
  have htk:W.take (k+1)=W.take k++[r]:=by rw[List.take_add_one,hr];rfl
  have hnt:r∉W.take k:=by
   intro hin
   have h1:=hWn
   rw[← List.take_append_drop (k+1) W,htk] at h1
   exact (List.nodup_append.1 (List.nodup_append.1 h1).1).2.2 r hin r (by simp) rfl
  have hnf:bF r∉W.take k:=fun hin=>hWf r hrm _ (List.mem_of_mem_take hin) rfl
  have e1:(bZ a (W.take k) rm).getD r 0=rm.getD r 0:=by rw[hcv,if_neg hnf,if_neg hnt];omega
  have e2:(bZ a (W.take k) rm).getD (bF r) 0=rm.getD (bF r) 0:=by rw[hcv,iw,if_neg hnt,if_neg hnf];omega
  have b1:=hrb r
  have b2:=hrb (bF r)
  have b3:=hmle r hrm
  have hpush:bZ a (W.take (k+1)) rm=((bZ a (W.take k) rm).set r (rm.getD r 0-a)).set (bF r) (rm.getD (bF r) 0+a):=by rw[htk,nv];unfold ki;rw[e1,e2]
  have hg1:=hcur k r hrl2
  rw[e1] at hg1
  have hg2:=hcur k (bF r) hfl
  rw[e2] at hg2
  have hg3:((bZ a (W.take k) rm).set r (rm.getD r 0-a))[bF r]?=some (rm.getD (bF r) 0):=by rw[List.getElem?_set_ne (pO r).symm];exact hg2
  have hxo:=vH (r:=r) (by omega)
  refine ae (au ?_)
  refine ae (aa (ah [] rfl ?_))
  refine ab [] (aI rfl rfl rfl rfl rfl hlt) rfl ?_
  refine ab [] (aF (v:=.int .i64 (r:Int)) 5 rfl rfl rfl (dA hr)) rfl ?_
  refine af [] rfl ?_
  refine ae (aa ?_)
  refine ab [] (ad (v:=.pointer (some ⟨pw,0,none⟩)) 2 rfl rfl rfl rfl) rfl ?_
  refine ah [] rfl ?_
  refine ab [] (ad (v:=.slice (some ⟨gr,0,none⟩) (2*N.arcs.length) cr) 3 rfl rfl rfl rfl) rfl ?_
  refine ah [] rfl ?_
  refine ab [] (aI rfl rfl rfl rfl rfl hrl2) rfl ?_
  refine ab [] (aF 4 rfl rfl rfl (bn hg1)) rfl ?_
  refine ah [] rfl ?_
  refine av 65 (v':=.int .i64 (rm.getD r 0-a)) rfl (congrArg (Value.int .i64) (bK (by omega))) ?_
  refine ab [] (aI rfl rfl rfl rfl rfl hrl2) rfl ?_
  refine aG 4 rfl rfl rfl rfl (du rfl (by rw[eV];omega)) [] rfl ?_
  refine aj ?_
  refine aa ?_
  refine ab [] (ad (v:=.pointer (some ⟨pw,0,none⟩)) 2 rfl rfl rfl rfl) rfl ?_
  refine ah [] rfl ?_
  refine ab [] (ad (v:=.slice (some ⟨gr,0,none⟩) (2*N.arcs.length) cr) 3 rfl rfl rfl rfl) rfl ?_
  refine ah [] rfl ?_
  refine av 72 (v':=.int .i64 ((bF r:Nat):Int)) rfl (congrArg (Value.int .i64) hxo) ?_
  refine ab [] (aI rfl rfl rfl rfl rfl hfl) rfl ?_
  refine ab [] (aF 4 rfl rfl rfl (bn hg3)) rfl ?_
  refine ah [] rfl ?_
  refine av 76 (v':=.int .i64 (rm.getD (bF r) 0+a)) rfl (congrArg (Value.int .i64) (bK (by omega))) ?_
  refine ab [] (aI rfl rfl rfl rfl rfl hfl) rfl ?_
  refine aG 4 rfl rfl rfl rfl (du rfl (by rw[List.length_set,eV];omega)) [] rfl ?_
  refine aj ?_
  refine aa (af [] rfl ?_)
  refine⟨k+1,[0,1,2,3,4,5],⟨?_,rfl,rfl,rfl,rfl,rfl,rfl,trivial⟩,by decide,by rw[hpush];rfl,by omega,by omega⟩
  show some (Value.int .i64 (IntKind.i64.wrap ((k:Int)+1)))=_
  rw[bK (by omega)];rfl
 obtain rfl:k=W.length:=by omega
 have hfin:=hcv W.length
 rw[List.take_length] at hfin ⊢
 obtain⟨rm',hrm'⟩:∃ rm',rm'=bZ a W rm:=⟨_,rfl⟩
 rw[← hrm'] at hfin ⊢
 have hrl':rm'.length=2*N.arcs.length:=by rw[hrm',eV];exact hrl
 have hex:∃ r∈W,rm'.getD r 0<least:=⟨ra,hra,by
  rw[hfin,if_neg (fun hin=>hWf ra hra _ hin rfl),if_pos hra];omega⟩
 obtain⟨k,hk⟩:∃ k,k=kt least rm' W:=⟨_,rfl⟩
 have hkW:k≤W.length:=by rw[hk];exact List.findIdx_le_length
 refine ae (aa ?_)
 refine ab [] (ad (v:=.pointer (some ⟨pw,0,none⟩)) 2 rfl rfl rfl rfl) rfl ?_
 refine ah [] rfl ?_
 refine ab [] (ad (v:=.slice (some ⟨gw,0,none⟩) W.length cw) 3 rfl rfl rfl rfl) rfl ?_
 refine ah [] rfl ?_
 refine ax [] (uR N A c pw p1 (some ⟨gr,0,none⟩) cr gr least gl n (some ⟨gw,0,none⟩) cw gw rm' hrl' (fun _=>rfl) W hW hWl (fun _=>rfl) hex) rfl rfl rfl rfl (by kernel_rfl)
  ⟨⟨2,_,by simp,rfl,aR _ _ _ (0,0),.inr rfl⟩,⟨3,_,by simp,rfl,aR _ _ _ (0,0),.inr rfl⟩,⟨4,_,by simp,rfl,cp,aZ (fun _=>rfl)⟩,⟨5,_,by simp,rfl,cp,aZ (fun _=>rfl)⟩,trivial⟩ (fun _=>rfl) ?_
 rintro v H' ⟨rfl,rfl⟩
 refine⟨rfl,?_⟩
 refine af [] rfl ?_
 rw[← hk]
 refine ae ?_
 refine bq 9 [(0,true),(1,true),(2,true),(3,true),(4,true),(5,true),(6,true),(7,true),(8,true)] [2,3] (by kernel_rfl) (by decide) rfl ?_
 refine ai [] rfl (ad (v:=.pointer (some ⟨pw,0,none⟩)) 0 rfl rfl rfl rfl) rfl ?_
 refine ai [] rfl (ad (v:=.pointer (some ⟨pw,0,none⟩)) 0 rfl rfl rfl rfl) rfl ?_
 refine aJ [] rfl ?_
 refine ai [] rfl (ad (v:=.slice (some ⟨gw,0,none⟩) W.length cw) 1 rfl rfl rfl rfl) rfl ?_
 refine aJ [] rfl ?_
 refine ai [] rfl (fR (i:=k) rfl rfl rfl rfl rfl (by omega)) rfl ?_
 refine cA [] rfl ?_
 refine aD 3 rfl rfl rfl rfl rfl [] rfl ?_
 refine aj ?_
 refine bN (aH.shrink (m:=k) 5 rfl hkW) ?_
 rw[Nat.mul_one,show (bs W).take k=bs (W.take k) by unfold bs;rw[List.map_take];simp[aw]]
 refine ae (aa ?_)
 refine ab [] (ad (v:=.agg #[.slice At W.length ct,.int .i64 a]) 0 rfl rfl rfl rfl) rfl ?_
 refine aD 1 rfl rfl rfl rfl rfl [] rfl ?_
 refine aj ?_
 refine aB ?_
 exact⟨[_],[3,4,5],_,⟨⟨p2,1,_,_,rfl,rfl,rfl⟩,trivial⟩,by decide,rfl,some ⟨gw,0,none⟩,cw,At,ct,rfl,rfl⟩
end Go.Proofs.YtpbmihpjgjbndaaGreat
