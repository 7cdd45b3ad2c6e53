/- The engine and the words that all chapters share: several texts in one. -/
import Derived.Test.YtpbmihpjgjbndaaGreatDoorQX29
/- A flow that is blocked, step by step. -/
set_option linter.unusedVariables false
set_option linter.unusedSimpArgs false
namespace Go.Proofs.YtpbmihpjgjbndaaGreatDoor
open Go.RowKit
def ys (N:a8) (f:List Int) (least:Int) (m:Nat) (v:Value) (H':Heap):Prop:=
 (aH N f∧1≤least∧∃ (f':List Int) (ws:List (List Nat×Int)) (g:Nat) (Ak:Option Addr) (ck:Nat) (xs:List Value),kI N least f ws f'∧
  v=.tuple #[.slice (some ⟨g,0,none⟩) m m,.slice Ak ws.length ck,.int .i64 0]∧
  H'=[.own (.slice (some ⟨g,0,none⟩) m m) 2 1 m (ap f'),.own (.slice Ak ws.length ck) 313 2 ws.length xs])∨
 (¬ aH N f∧v=.tuple #[.slice none 0 0,.slice none 0 0,.int .i64 (eO N f)]∧H'=[])∨(aH N f∧least<1∧v=.tuple #[.slice none 0 0,.slice none 0 0,.int .i64 3]∧H'=[])
structure BS where
 ns:NS
 rm:List Int
 f:List Int
 acc:List (List Nat×Int)
 Ak:Option Addr
 ck:Nat
 xs:List Value
set_option maxHeartbeats 1000000 in
theorem vI (N:a8) (hN:N.Fits) (hR:N.Right) (A:Option Addr) (c b o:Nat) (hA:N.arcs≠[]→A=some ⟨b,o,none⟩) (f:List Int) (F:Option Addr) (cf bf of:Nat) (hF:f≠[]→F=some ⟨bf,of,none⟩) (hf:∀ x∈f,bN x) (hfl:f.length*8≤140737488351232) (least:Int):
 Fn 236 [bu N A c,.slice F f.length cf,.int .i64 least] [] [.seg b o (arcs N.arcs),.seg bf of (ap f)] (ys N f least f.length):=by
 have hnn:=hR.nodes
 have hl2:=hR.len
 obtain⟨n,hn⟩:∃ n:Nat,N.nodes=n:=⟨N.nodes.toNat,by omega⟩
 refine aS Tryz.func236 rfl rfl fun w0=>?_
 refine ad (aa ?_)
 refine bw (cs:=bG N A c) rfl rfl rfl (fun _=>rfl) fun p=>?_
 refine ae [] rfl ?_
 refine ad (aa ?_)
 refine ab [] (v:=bu N A c) (af 0 rfl rfl rfl rfl) rfl ?_
 refine ah [] rfl ?_
 refine ax [] (pY N hN hR A c b o hA f F cf bf of hF hf hfl least) rfl rfl rfl rfl (by kernel_rfl) ⟨⟨1,_,by simp,rfl,aq _ _ _,ay⟩,⟨2,_,by simp,rfl,aq _ _ _,ay⟩,trivial⟩ (fun _=>rfl) ?_
 rintro v H' (⟨hW,hle,lv,B,cb,hlv,rfl,rfl⟩|⟨hW,rfl,rfl⟩|⟨hW,hle,rfl,rfl⟩)
 case inr.inl=>
  refine⟨rfl,?_⟩
  refine ae [] rfl ?_
  refine ad (ad (aa (ae [] rfl ?_)))
  refine aC rfl (fun h=>?_) (fun h=>absurd (cK.1 (Classical.not_not.1 h)) hW)
  refine ad (aa (ae [] rfl ?_))
  refine aE [] (by decide) rfl (aB ⟨_,rfl,.inr (.inl ⟨hW,rfl,rfl⟩)⟩)
 case inr.inr=>
  refine⟨rfl,?_⟩
  refine ae [] rfl ?_
  refine ad (ad (aa (ae [] rfl ?_)))
  refine aC rfl (fun h=>?_) (fun h=>absurd h (by decide))
  refine ad (aa (ae [] rfl ?_))
  refine aE [] (by decide) rfl (aB ⟨_,rfl,.inr (.inr ⟨hW,hle,rfl,rfl⟩)⟩)
 refine⟨rfl,?_⟩
 refine ae [] rfl ?_
 refine ad (ad (aa (ae [] rfl ?_)))
 refine aC rfl (fun h=>absurd rfl h) (fun _=>av ?_)
 refine ad (aa ?_)
 refine ab [] (v:=bu N A c) (af 1 rfl rfl rfl rfl) rfl ?_
 refine ah [] rfl ?_
 refine ax [] (kq N hN hR A c b o hA f F cf bf of hF hf hfl) rfl rfl rfl rfl (by kernel_rfl) ⟨⟨2,_,by simp,rfl,aq _ _ _,ay⟩,⟨3,_,by simp,rfl,aq _ _ _,ay⟩,trivial⟩ (fun _=>rfl) ?_
 rintro v H' (⟨_,A1,c1,rfl,rfl⟩|⟨h,_,_⟩)
 case inr=>exact absurd hW h
 refine⟨rfl,?_⟩
 refine ae [] rfl ?_
 have hfN:=hW.len
 obtain⟨ls,hls⟩:∃ ls,ls=bJ N (aM (N.arcs.zip f)) least lv (2*N.arcs.length):=⟨_,rfl⟩
 rw[← hls]
 have hlsm:∀ r∈ls,r<2*N.arcs.length:=fun r hr=>(dw.1 (hls▸hr)).1
 have hlsl:ls.length≤4000:=by rw[hls];have:=gQ N (aM (N.arcs.zip f)) least lv (2*N.arcs.length);omega
 have hG:=fE hlv
 rw[← hls] at hG
 refine bO (bh 1 rfl) fun ⟨_,_,hB,hlB⟩=>?_
 obtain⟨gB,hB⟩:=cB hB hlB
 refine bO (bh 0 rfl) fun ⟨_,_,hA1,hlA1⟩=>?_
 obtain⟨gr,hA1⟩:=cB hA1 hlA1
 have hB':ls≠[]→B=some ⟨gB,0,none⟩:=fun h=>hB (by intro h0;apply h;have:=dF ls;unfold bL at this;rw[h0] at this;exact List.length_eq_zero_iff.1 this.symm)
 refine ad (aa ?_)
 refine ab [] (v:=bu N A c) (af 2 rfl rfl rfl rfl) rfl ?_
 refine ah [] rfl ?_
 refine ax [] (zr N hR A c b o hA A1 c1 ls hlsm hlsl B cb gB 0 hB' least n hn) rfl rfl rfl rfl (by kernel_rfl) ⟨⟨3,_,by simp,rfl,aq _ _ _,ay⟩,⟨1,_,by simp,rfl,aY hB,a7 hB⟩,trivial⟩ (fun _=>rfl) ?_
 rintro v H' ⟨pw,gl,rows,rfl,hrows,hL,rfl⟩
 refine⟨cR rfl (cJ _ rows),?_⟩
 refine bY aK.swap ?_
 show JL _ _ _ _ _ ([_,_,_,_,_,_,_]++rows.map (bH 3))
 refine ae [] rfl ?_
 refine ad (aa (ae [] rfl ?_))
 refine cC 3 1 ?_
 refine cC 313 2 ?_
 refine ad (au ?_)
 have hgvA:∀ w,cm w0 [] w ([.own (.slice none 0 0) 313 2 0 [],.own (.slice none 0 0) 3 1 0 [],blk pw 316 (pu N A c A1 c1 least gl n none 0 0),.own (.slice (some ⟨gl,0,none⟩) (n+1) (n+1)) 23 1 (n+1) (rows.map cH),.own (.slice A1 (2*N.arcs.length) c1) 2 1 (2*N.arcs.length) (ap (aM (N.arcs.zip f))),.own (.slice B ls.length cb) 3 1 ls.length (ap (ls.map fun (i:Nat)=>(i:Int))),blk p 27 (bG N A c),.seg b o (arcs N.arcs),.seg bf of (ap f)]++rows.map (bH 3))→
  ∀ v:Nat,∃ gv:Nat,∀ row,rows[v]?=some row→row.l.length≤row.c∧(ap row.l≠[]→row.A=some ⟨gv,0,none⟩):=by
  intro w hw v
  cases hv:rows[v]? with
  |none=>exact⟨0,fun row h=>by cases h⟩
  |some row=>
   obtain⟨_,h2,h3,h4⟩:=bh (X:=⟨w0,[],⟨0,[]⟩⟩) (v+9) (show _=some (bH 3 row) by show (rows.map (bH 3))[v]?=_;rw[List.getElem?_map,hv];rfl) w hw
   obtain⟨gv,hgv⟩:=cB h3 h4
   exact⟨gv,fun row' h=>by simp only[Option.some.injEq] at h;subst h;exact⟨h2,hgv⟩⟩
 show J _ _ _ _ ([_,_,_,_,_,_,_,_,_]++rows.map (bH 3))
 refine bO hgvA fun hrowA=>?_
 obtain⟨gv,hgv⟩:∃ gv:Nat→Nat,∀ (v:Nat) (row:eu),rows[v]?=some row→row.l.length≤row.c∧(ap row.l≠[]→row.A=some ⟨gv v,0,none⟩):=⟨fun v=>Classical.choose (hrowA v),fun v=>Classical.choose_spec (hrowA v)⟩
 clear hrowA hgvA
 obtain⟨rm0,hrm0⟩:∃ rm0,rm0=aM (N.arcs.zip f):=⟨_,rfl⟩
 have hL':∀ (v:Nat) (row:eu),rows[v]?=some row→row.l=(dz N ls v).map fun (i:Nat)=>(i:Int):=hL
 have hV0:u7 rows gv (List.replicate (n+1) 0) (rows.map cH):=by
  refine⟨by simp,fun v row q hr hq=>?_⟩
  rw[List.getElem?_replicate] at hq
  split at hq
  ·simp only[Option.some.injEq] at hq
   subst hq
   have h1:=hgv v row hr
   refine⟨row.A,row.c,by rw[List.getElem?_map,hr];rfl,h1.1,fun hp=>h1.2 (fun h0=>?_)⟩
   have:row.l.length=0:=by rw[← bB,h0];rfl
   omega
  ·cases hq
 refine cN (σ:=BS) (fun s=>[(14,.slice s.Ak s.acc.length s.ck),(13,.pointer (some ⟨pw,0,none⟩)),(11,.slice A1 (2*N.arcs.length) c1),(1,.slice F f.length cf)])
  (fun s=>[blk pw 316 (pu N A c A1 c1 least gl n s.ns.Aw s.ns.W.length s.ns.cw),.own (.slice (some ⟨gl,0,none⟩) (n+1) (n+1)) 23 1 (n+1) s.ns.vals,.own (.slice s.ns.Aw s.ns.W.length s.ns.cw) 3 1 s.ns.W.length (bL s.ns.W),
   .own (.slice A1 (2*N.arcs.length) c1) 2 1 (2*N.arcs.length) (ap s.rm),.own (.slice s.Ak s.acc.length s.ck) 313 2 s.acc.length s.xs,.seg b o (arcs N.arcs),.seg bf of (ap f)]++rows.map (bH 3))
  (fun s=>PI N (dz N ls) least s.rm s.ns.pos s.ns.W∧u7 rows gv s.ns.pos s.ns.vals∧aH N s.f∧s.rm=aM (N.arcs.zip s.f)∧s.acc.length+kD ls least s.rm≤4000∧
   ∀ ws rm',Bl N (dz N ls) least s.rm s.ns.pos s.ns.W ws rm'→Bl N (dz N ls) least rm0 (List.replicate (N.nodes.toNat+1) 0) [] (s.acc++ws) rm')
  (fun s=>kD ls least s.rm) ⟨⟨List.replicate (n+1) 0,[],rows.map cH,none,0⟩,rm0,f,[],none,0,[]⟩ ⟨rfl,rfl,rfl,rfl,trivial⟩ (by
   simp only[hrm0]
   exact aK.re [2,3,1,4,0,7,8] rfl (by decide)) ⟨?_,hV0,hW,hrm0,?_,fun ws rm' h=>?_⟩ ?_
 ·have:=PI.start (N:=N) (L:=dz N ls) (least:=least) (rm:=rm0)
  rw[hn,Int.toNat_natCast] at this
  exact this
 ·have:kD ls least rm0≤ls.length:=List.length_filter_le _ _
  simp only[List.length_nil];omega
 ·rw[hn,Int.toNat_natCast];exact h
 rintro⟨⟨pos,W,vals,Aw,cw⟩,rm,fc,acc,Ak,ck,xs⟩ ⟨hI,hV,hfc,hrm,hcnt,hX⟩
 simp only at hI hV hfc hrm hcnt hX ⊢
 have hrl:rm.length=2*N.arcs.length:=by rw[hrm];exact fM hfc.len
 refine bO (bh 3 rfl) fun ⟨_,_,hA1x,hlA1x⟩=>?_
 obtain⟨grx,hA1x⟩:=cB hA1x hlA1x
 have hArx:rm≠[]→A1=some ⟨grx,0,none⟩:=fun h=>hA1x (by simpa [ap] using h)
 have hLl:∀ v,(dz N ls v).length≤4000:=fun v=>Nat.le_trans (gg N ls v) hlsl
 refine ad (ad (aa (ah [] rfl ?_)))
 refine ao (fst:=[]) (cap:=[]) [] (xO N hR A c b o hA pw A1 c1 grx least gl n hn (dz N ls) (bZ lv) hG hLl rm hrl hArx rows hrows hL gv (fun v row h=>(hgv v row h).2) ⟨pos,W,vals,Aw,cw⟩ hI hV) rfl rfl rfl rfl (by kernel_rfl) (aK.mid [0,1,2] [3,4,5,6] rfl rfl (by decide))
  ⟨⟨2,_,by simp,rfl,aq _ _ _,ay⟩,⟨0,_,by simp,rfl,aY hA1x,a7 hA1x⟩,trivial⟩ (fun _=>rfl) ?_
 rintro v H' ⟨bb,⟨pos2,W2,vals2,Aw2,cw2⟩,rfl,hnx,hI2,hV2,rfl⟩
 simp only at hnx hI2 hV2 ⊢
 refine⟨cR rfl (cJ _ rows),?_⟩
 refine bY aK.swap ?_
 refine ai ?_
 cases bb with
 |false=>
  refine bI rfl (aV ?_)
  have hbl:=hX _ _ (.stop hnx)
  rw[List.append_nil] at hbl
  have hfcl:=hfc.len
  obtain⟨m,hm⟩:∃ m,f.length=m:=⟨_,rfl⟩
  rw[hm] at hfN ⊢
  refine ad (aa (ah [] rfl ?_))
  refine dv (n:=m) (c:=m) rfl rfl rfl rfl rfl rfl (by omega) (by omega) (by omega) (fun _=>rfl) fun go=>?_
  refine ae [] rfl ?_
  rw[show made [Value.int .i64 0] (m*1)=ap (List.replicate m 0) by rw[dn,Nat.mul_one];simp[ap]]
  refine ad (ad (aa (ae [] rfl ?_)))
  refine au ?_
  refine bq (σ:=Nat) (fun k=>[(50,.int .i64 k),(49,.int .i64 m),(15,.slice (some ⟨go,0,none⟩) m m),(14,.slice Ak acc.length ck),(11,.slice A1 (2*N.arcs.length) c1)])
   (fun k=>[.own (.slice (some ⟨go,0,none⟩) m m) 2 1 m (ap (fc.take k++List.replicate (m-k) 0)),.own (.slice A1 (2*N.arcs.length) c1) 2 1 (2*N.arcs.length) (ap rm),.own (.slice Ak acc.length ck) 313 2 acc.length xs])
   (fun k=>k≤m) (fun k=>m-k) 0 [0,4,5] ⟨rfl,rfl,rfl,rfl,rfl,trivial⟩ (by decide) rfl (Nat.zero_le _) ?_
  intro k hk
  refine ad (aa (ae [] rfl ?_))
  refine ad (aC rfl (fun hlt=>av ?_) (fun hge=>aV ?_))
  ·have hlt:k<m:=by omega
   obtain⟨x,hx⟩:∃ x,fc[k]?=some x:=⟨fc[k]'(by omega),List.getElem?_eq_getElem (by omega)⟩
   obtain⟨ar,har⟩:∃ ar,N.arcs[k]?=some ar:=⟨N.arcs[k]'(by omega),List.getElem?_eq_getElem (by omega)⟩
   have hrx:=(cT (eo har hx)).2
   rw[← hrm] at hrx
   simp only at hrx
   obtain rfl:=hArx (by intro h0;rw[h0] at hrl;simp at hrl;omega)
   refine ad (au ?_)
   refine ad (aa (ae [] rfl ?_))
   refine aa (ah [] rfl ?_)
   refine aw 58 (v':=.int .i64 ((2*k+1:Nat):Int)) rfl (congrArg (Value.int .i64) (by rw[bU (n:=2*(k:Int)) (by omega),bU (by omega)];omega)) ?_
   refine ab [] (aJ rfl rfl rfl rfl rfl (by omega)) rfl ?_
   refine ab [] (aD 1 rfl rfl rfl (a9 hrx)) rfl ?_
   refine ab [] (aJ rfl rfl rfl rfl rfl hlt) rfl ?_
   refine aQ 0 rfl rfl rfl rfl (ep rfl (by rw[List.length_append,List.length_take,List.length_replicate];omega)) [] rfl ?_
   refine ai ?_
   refine aa (ae [] rfl ?_)
   refine⟨k+1,[0,1,2],⟨?_,rfl,rfl,rfl,rfl,trivial⟩,by decide,?_,by omega,by omega⟩
   ·show some (Value.int .i64 (IntKind.i64.wrap ((k:Int)+1)))=_
    rw[bU (by omega)];rfl
   ·rw[show fc.take (k+1)++List.replicate (m-(k+1)) 0=(fc.take k++List.replicate (m-k) 0).set k x by
     rw[List.set_append_right _ _ (by simp;omega),List.length_take,Nat.min_eq_left (by omega),Nat.sub_self,show m-k=(m-(k+1))+1 by omega,List.replicate_succ,List.set_cons_zero,List.take_add_one,hx,List.append_assoc]
     rfl]
    rfl
  ·obtain rfl:k=m:=by omega
   rw[Nat.sub_self,List.replicate_zero,List.append_nil,List.take_of_length_le (by omega)]
   refine ad (aa (ae [] rfl ?_))
   refine aE [0,2] (by decide) rfl (aB ⟨_,rfl,.inl ⟨hW,hle,fc,acc,go,Ak,ck,xs,⟨lv,hlv,hfc,?_⟩,rfl,rfl⟩⟩)
   rw[← hls,← hrm0,← hrm]
   exact hbl
 |true=>
  refine bo rfl (av ?_)
  obtain⟨_,hend,_⟩:=hnx.keeps hG hI
  obtain⟨k1,k2,k3,k4,k5,k6,⟨f',k7,k8⟩,k9,k10,r,v,k11,k12,k13⟩:=fW hR hG hle hfc hrm hI2 (hend rfl)
  rw[hn,Int.toNat_natCast] at k5
  obtain⟨r0,hr0⟩:=List.exists_mem_of_ne_nil _ k1
  have hr0l:=k2 r0 hr0
  obtain rfl:=hArx (by intro h0;rw[h0] at hrl;simp at hrl;omega)
  show J _ _ _ _ ([_,_,_,_,_,_,_]++rows.map (bH 3))
  refine bA (aK.re [0,3,2,1,4,5,6] rfl (by decide)) ?_
  refine au (aa (ah [] rfl ?_))
  show JL _ _ _ _ _ ([_,_,_]++([_,_,_,_]++rows.map (bH 3)))
  have hcl:kD ls least (bC (bS rm W2) W2 rm)<kD ls least rm:=oW (fun q hq=>k10 (cU N q) q (eI.2 ⟨hq,rfl⟩)) r (eI.1 k11).1 k12 k13
  refine ao (fst:=[]) (cap:=[]) [] (xY N hl2 A c pw grx c1 least hle gl n Aw2 cw2 rm hrl (fun q=>by rw[hrm];exact dX hR hfc.toRanged q) W2 k2 (by omega) k3 k4 k1) rfl rfl rfl rfl (by kernel_rfl) aK.refl trivial (fun _=>rfl) ?_
  rintro v' H' ⟨Aw3,cw3,At,ct,rfl,rfl⟩
  refine⟨rfl,?_⟩
  obtain⟨kc,hkc⟩:∃ kc,kc=kH least (bC (bS rm W2) W2 rm) W2:=⟨_,rfl⟩
  have hkcl:kc≤W2.length:=by rw[hkc];exact List.findIdx_le_length
  rw[← hkc] at k9 ⊢
  refine bK rfl rfl rfl rfl rfl rfl rfl (fun _=>rfl) fun gk=>?_
  refine be (n:=acc.length) (m:=1) (off:=0) (news:=[.slice At W2.length ct,.int .i64 (bS rm W2)]) 5 0 rfl rfl rfl rfl rfl rfl (by decide) rfl rfl (aL gk _ _ (0,0)) (fun _=>rfl) rfl rfl (by omega) (by omega) (fun _ _=>rfl) fun A4 c4=>?_
  refine ae [] rfl ?_
  have htkl:(W2.take kc).length=kc:=by rw[List.length_take];omega
  refine⟨⟨⟨pos2,W2.take kc,vals2,Aw3,cw3⟩,bC (bS rm W2) W2 rm,f',acc++[(W2,bS rm W2)],A4,c4,xs++[.slice At W2.length ct,.int .i64 (bS rm W2)]⟩,⟨?_,rfl,rfl,rfl,trivial⟩,?_,⟨k9,hV2,k7,k8,?_,fun ws rm' h=>?_⟩,hcl⟩
  ·show some (Value.slice A4 (acc.length+1) c4)=some (Value.slice A4 (acc++[(W2,bS rm W2)]).length c4)
   rw[List.length_append,List.length_singleton]
  ·simp only[htkl,List.length_append,List.length_singleton]
   show aK _ ([_,_,_,_,_,_,_,_]++rows.map (bH 3)) _
   exact aK.re [1,4,3,2,5,6,7] rfl (by decide)
  ·simp only[List.length_append,List.length_singleton];omega
  ·have:=hX _ _ (.walk hnx (hkc▸h))
   rw[List.append_assoc]
   exact this
end Go.Proofs.YtpbmihpjgjbndaaGreatDoor
/- Phases by walks. -/
set_option linter.unusedVariables false
set_option linter.unusedSimpArgs false
namespace Go.Proofs.YtpbmihpjgjbndaaGreatDoor
open Go.RowKit
theorem qZ (N:a8) (hN:N.Fits) (hR:N.Right) (A:Option Addr) (c b o:Nat) (hA:N.arcs≠[]→A=some ⟨b,o,none⟩) (f:List Int) (hf:aH N f) (F:Option Addr) (cf bf of:Nat) (hF:f≠[]→F=some ⟨bf,of,none⟩) (least:Int) (hle:1≤least):
 Fn 235 [.agg #[],bu N A c,.slice F f.length cf,.int .i64 least] [] [.seg b o (arcs N.arcs),.seg bf of (ap f)] fun v H'=>∃ (f':List Int) (ws:List (List Nat×Int)) (g:Nat),kI N least f ws f'∧
  v=.tuple #[.slice (some ⟨g,0,none⟩) f.length f.length,.int .i64 ws.length,.int .i64 0]∧H'=[.own (.slice (some ⟨g,0,none⟩) f.length f.length) 2 1 f.length (ap f')]:=by
 have hl:=hf.len
 have hl2:=hR.len
 refine aS Tryz.func235 rfl rfl fun w0=>?_
 refine ad (aa ?_)
 refine bw (cs:=[]) rfl rfl rfl (fun _=>rfl) fun p0=>?_
 refine bw (cs:=bG N A c) rfl rfl rfl (fun _=>rfl) fun p=>?_
 refine ae [] rfl ?_
 refine ad (aa ?_)
 refine ab [] (v:=bu N A c) (af 0 rfl rfl rfl rfl) rfl ?_
 refine ah [] rfl ?_
 refine ax [] (vI N hN hR A c b o hA f F cf bf of hF (aH.inB hR hf.toRanged) (by omega) least) rfl rfl rfl rfl (by kernel_rfl) ⟨⟨2,_,by simp,rfl,aq _ _ _,ay⟩,⟨3,_,by simp,rfl,aq _ _ _,ay⟩,trivial⟩ (fun _=>rfl) ?_
 rintro v H' (⟨_,_,f',ws,g,Ak,ck,xs,hb,rfl,rfl⟩|⟨hW,_,_⟩|⟨_,hlt,_,_⟩)
 case inr.inl=>exact absurd hf hW
 case inr.inr=>omega
 refine⟨rfl,?_⟩
 refine ae [] rfl ?_
 refine ad (aa (ae [] rfl ?_))
 exact aE [0] (by decide) rfl (aB ⟨_,rfl,f',ws,g,hb,rfl,rfl⟩)
theorem tR:Fn 81 [.int .u8 112] [] [] fun v H'=>v=.iface 189 (.agg #[])∧H'=[]:=by
 refine aS Tryz.func81 rfl rfl fun w0=>?_
 refine ad (aa (ae [] rfl ?_))
 refine ad (ad (aa (ae [] rfl ?_)))
 refine au (ad (aa (ae [] rfl ?_)))
 refine aC rfl (fun _=>?_) (fun h=>absurd rfl h)
 refine ad (aa (ah [] rfl ?_))
 refine ab [] (cj rfl rfl rfl rfl rfl rfl) rfl ?_
 refine ae [] rfl ?_
 exact aB ⟨_,rfl,rfl,rfl⟩
structure FS where
 f:List Int
 A:Option Addr
 c:Nat
 p:Nat
 k:Nat
 lv:List Int
def rk (A:Option Addr) (m c:Nat) (p k:Int) (s:Int):Value:=.agg #[.slice A m c,.int .i64 p,.int .i64 k,.int .i64 s]
set_option maxHeartbeats 1000000 in
theorem xI (N:a8) (hN:N.Fits) (hR:N.Right) (A:Option Addr) (c b o:Nat) (hA:N.arcs≠[]→A=some ⟨b,o,none⟩) (f:List Int) (hf:aH N f) (F:Option Addr) (cf bf of:Nat) (hF:f≠[]→F=some ⟨bf,of,none⟩) (least:Int) (hle:1≤least):
 Fn 47 [bu N A c,.slice F f.length cf,.int .i64 least,.int .u8 112] [] [.seg b o (arcs N.arcs),.seg bf of (ap f)] fun v H'=>∃ (f':List Int) (p k:Nat) (A':Option Addr) (c':Nat),Dn N least f p k f'∧(k:Int)≤9223372036854775806∧
  v=.tuple #[rk A' f'.length c' p k 0,.int .i64 0]∧H'=[.own (.slice A' f'.length c') 2 1 f'.length (ap f')]:=by
 have hl:=hf.len
 have hl2:=hR.len
 refine kV Tryz.func47 rfl rfl fun w0=>?_
 refine ad (aa ?_)
 refine bw (cs:=bG N A c) rfl rfl rfl (fun _=>rfl) fun p4=>?_
 refine ci rfl rfl rfl (fun _=>rfl) fun p8=>?_
 refine ae [] rfl ?_
 refine ad (aa ?_)
 refine ab [] (v:=bu N A c) (af 1 rfl rfl rfl rfl) rfl ?_
 refine ah [] rfl ?_
 refine ax [] (l7 N hN hR A c b o hA f F cf bf of hF (aH.inB hR hf.toRanged) (by omega) least) rfl rfl rfl rfl (by kernel_rfl) ⟨⟨2,_,by simp,rfl,aq _ _ _,ay⟩,⟨3,_,by simp,rfl,aq _ _ _,ay⟩,trivial⟩ (fun _=>rfl) ?_
 rintro v H' (⟨_,_,lv,hlv,rfl,rfl⟩|⟨hW,_,_⟩|⟨_,hlt,_,_⟩)
 case inr.inl=>exact absurd hf hW
 case inr.inr=>omega
 refine⟨rfl,?_⟩
 refine ae [] rfl ?_
 refine ad (ad (aa (ae [] rfl ?_)))
 refine aC rfl (fun h=>absurd rfl h) (fun _=>av ?_)
 refine ad (aa (ah [] rfl ?_))
 refine ax [] (tR) rfl rfl rfl rfl (by kernel_rfl) trivial (fun _=>rfl) ?_
 rintro v H' ⟨rfl,rfl⟩
 refine⟨rfl,?_⟩
 refine ae [] rfl ?_
 refine ad (ad (aa (ae [] rfl ?_)))
 refine bI rfl (av ?_)
 refine ad (aa (ah [] rfl ?_))
 refine ax [] (jl F cf bf of f hF (by omega)) rfl rfl rfl rfl (by kernel_rfl) ⟨⟨3,_,by simp,rfl,aq _ _ _,ay⟩,trivial⟩ (fun _=>rfl) ?_
 rintro v H' ⟨A0,c0,rfl,rfl⟩
 refine⟨rfl,?_⟩
 refine ab [] (cj rfl rfl rfl rfl rfl rfl) rfl ?_
 refine ci rfl rfl rfl (fun _=>rfl) fun p13=>?_
 refine aX 0 rfl rfl rfl rfl rfl [] rfl ?_
 refine ai ?_
 refine ad (au ?_)
 have hvb:=dm hR hf.toRanged N.snk
 refine bq (σ:=FS) (fun s=>[(10,.int .i64 (bZ s.lv N.snk.toNat)),(12,.iface 189 (.agg #[])),(13,.pointer (some ⟨p13,0,none⟩)),(8,.pointer (some ⟨p8,0,none⟩)),(4,.pointer (some ⟨p4,0,none⟩)),(2,.int .i64 least)])
  (fun s=>[blk p13 31 [.slice s.A s.f.length s.c,.int .i64 s.p,.int .i64 s.k,.int .i64 0],.own (.slice s.A s.f.length s.c) 2 1 s.f.length (ap s.f),blk p8 31 [.slice none 0 0,.int .i64 0,.int .i64 0,.int .i64 0],blk p4 27 (bG N A c),.seg b o (arcs N.arcs)])
  (fun s=>aH N s.f∧dr N (aM (N.arcs.zip s.f)) least s.lv∧s.p≤s.k∧cY (N.arcs.zip f) N.snk+s.k≤cY (N.arcs.zip s.f) N.snk∧∀ p k f',Dn N least s.f p k f'→Dn N least f (s.p+p) (s.k+k) f')
  (fun s=>(4611686018427387903-cY (N.arcs.zip s.f) N.snk).toNat) ⟨f,A0,c0,0,0,lv⟩ [0,1,2,3,4] ⟨rfl,rfl,rfl,rfl,rfl,rfl,trivial⟩ (by decide) rfl ⟨hf,hlv,Nat.le_refl _,by simp,fun p k f' h=>by simpa using h⟩ ?_
 rintro⟨fc,Ac,cc,p,k,lvc⟩ ⟨hfc,hlvc,hpk,hval,hX⟩
 simp only at hfc hlvc hpk hval hX ⊢
 have hvc:=dm hR hfc.toRanged N.snk
 have hfcl:=hfc.len
 refine ad (ad (aa (ae [] rfl ?_)))
 refine aC rfl (fun hge=>av ?_) (fun hlt=>aV ?_)
 ·refine au ?_
  refine bO (bh 1 rfl) fun ⟨_,_,hAc,hlAc⟩=>?_
  obtain⟨gc,hAc⟩:=cB hAc hlAc
  refine ad (aa (ah [] rfl ?_))
  refine ab [] (v:=bu N A c) (af 3 rfl rfl rfl rfl) rfl ?_
  refine ah [] rfl ?_
  refine ab [] (af (v:=.slice Ac fc.length cc) 0 rfl rfl rfl rfl) rfl ?_
  refine ah [] rfl ?_
  refine oB [] (qZ N hN hR A c b o hA fc hfc Ac cc gc 0 (fun h=>hAc (by simpa [ap] using h)) least hle) rfl rfl rfl rfl (by kernel_rfl) rfl (by kernel_rfl) ⟨⟨4,_,by simp,rfl,aq _ _ _,ay⟩,⟨1,_,by simp,rfl,aY hAc,a7 hAc⟩,trivial⟩ (fun _=>rfl) ?_
  rintro v H' ⟨f1,ws,g1,hb,rfl,rfl⟩
  obtain⟨hf1,hv1,hw1⟩:=hb.keeps hR hle hfc hlvc
  have hwpos:=List.length_pos_iff.2 (hw1 hge)
  have hf1l:=hf1.len
  have hlen:fc.length=f1.length:=by omega
  refine⟨rfl,?_⟩
  rw[hlen]
  refine ae [] rfl ?_
  have hvc1:=dm hR hf1.toRanged N.snk
  have hlw:(ws.length:Int)≤least*ws.length:=by
   have:=Int.mul_le_mul_of_nonneg_right hle (show (0:Int)≤ws.length by omega)
   omega
  refine ad (aa (ah [] rfl ?_))
  refine ab [] (af (v:=.int .i64 p) 1 rfl rfl rfl rfl) rfl ?_
  refine ah [] rfl ?_
  refine aw 51 (v':=.int .i64 ((p+1:Nat):Int)) rfl (congrArg (Value.int .i64) (bU (by omega))) ?_
  refine ab [] (af (v:=.int .i64 k) 1 rfl rfl rfl rfl) rfl ?_
  refine ah [] rfl ?_
  refine aw 55 (v':=.int .i64 ((k+ws.length:Nat):Int)) rfl (congrArg (Value.int .i64) ((bU (by omega)).trans (by omega))) ?_
  refine ab [] (af (v:=.int .i64 0) 1 rfl rfl rfl rfl) rfl ?_
  refine ah [] rfl ?_
  refine aw 59 (v':=.int .i64 0) rfl (congrArg (Value.int .i64) (bU (by omega))) ?_
  refine ab [] (cj rfl rfl rfl rfl rfl rfl) rfl ?_
  refine aX 1 rfl rfl rfl rfl rfl [] rfl ?_
  refine ai ?_
  refine aa ?_
  refine ab [] (v:=bu N A c) (af 4 rfl rfl rfl rfl) rfl ?_
  refine ah [] rfl ?_
  refine ax [] (l7 N hN hR A c b o hA f1 (some ⟨g1,0,none⟩) f1.length g1 0 (fun _=>rfl) (aH.inB hR hf1.toRanged) (by omega) least) rfl rfl rfl rfl (by kernel_rfl) ⟨⟨5,_,by simp,rfl,aq _ _ _,ay⟩,⟨0,_,by simp,rfl,bX,a7 (fun _=>rfl)⟩,trivial⟩ (fun _=>rfl) ?_
  rintro v H' (⟨_,_,lv1,hlv1,rfl,rfl⟩|⟨hW,_,_⟩|⟨_,hlt,_,_⟩)
  case inr.inl=>exact absurd hf1 hW
  case inr.inr=>omega
  refine⟨rfl,?_⟩
  refine ae [] rfl ?_
  refine⟨⟨f1,some ⟨g1,0,none⟩,f1.length,p+1,k+ws.length,lv1⟩,[1,0,3,4,5],⟨rfl,rfl,rfl,rfl,rfl,rfl,trivial⟩,by decide,rfl,⟨hf1,hlv1,by simp only;omega,by simp only;omega,fun p' k' f' h=>?_⟩,by simp only;omega⟩
  have:=hX _ _ _ (.step hlvc hge hb h)
  simp only
  rw[show p+1+p'=p+(p'+1) by omega,show k+ws.length+k'=k+(ws.length+k') by omega]
  exact this
 ·have hdn:=hX _ _ _ (.stop hlvc (by omega))
  rw[Nat.add_zero,Nat.add_zero] at hdn
  refine ad (aa ?_)
  refine ab [] (v:=rk Ac fc.length cc p k 0) (af 0 rfl rfl rfl rfl) rfl ?_
  refine ah [] rfl ?_
  refine aX 2 rfl rfl rfl rfl rfl [] rfl ?_
  refine ae [] rfl ?_
  refine aB ?_
  exact⟨[_,_],[1],_,⟨⟨p8,2,_,_,rfl,rfl,rfl⟩,rfl,trivial⟩,by decide,rfl,fc,p,k,Ac,cc,hdn,by omega,rfl,rfl⟩
theorem yJ (N:a8) (hN:N.Fits) (hR:N.Right) (A:Option Addr) (c b o:Nat) (hA:N.arcs≠[]→A=some ⟨b,o,none⟩):
 Fn 12 [bu N A c,.int .u8 112] [] [.seg b o (arcs N.arcs)] fun v H'=>∃ (f':List Int) (p k:Nat) (A':Option Addr) (c':Nat),Dn N 1 (List.replicate N.arcs.length 0) p k f'∧(k:Int)≤9223372036854775806∧
  v=.tuple #[rk A' f'.length c' p k 0,.int .i64 0]∧H'=[.own (.slice A' f'.length c') 2 1 f'.length (ap f')]:=by
 have hl2:=hR.len
 refine kV Tryz.func12 rfl rfl fun w0=>?_
 refine ad (aa ?_)
 refine bw (cs:=bG N A c) rfl rfl rfl (fun _=>rfl) fun p2=>?_
 refine ci rfl rfl rfl (fun _=>rfl) fun p4=>?_
 refine ae [] rfl ?_
 refine ad ?_
 refine bp 9 [(0,true),(1,true),(2,true),(3,true),(5,true),(4,false),(6,false),(7,true),(8,true)] [1,2] (by kernel_rfl) (by decide) rfl ?_
 refine aj [] rfl (af (v:=bu N A c) 0 rfl rfl rfl rfl) rfl ?_
 refine aF [] rfl ?_
 (first|refine aj [] rfl (af 0 rfl rfl rfl rfl) rfl ?_|refine aj [] rfl (af 1 rfl rfl rfl rfl) rfl ?_|refine aj [] rfl (af 2 rfl rfl rfl rfl) rfl ?_|refine aj [] rfl (af 3 rfl rfl rfl rfl) rfl ?_|refine aj [] rfl (af 4 rfl rfl rfl rfl) rfl ?_|refine aj [] rfl (af 5 rfl rfl rfl rfl) rfl ?_)
 refine aF [] rfl ?_
 refine a6 rfl ?_
 refine dv (n:=N.arcs.length) (c:=N.arcs.length) rfl rfl rfl rfl rfl rfl (by omega) (by omega) (by omega) (fun _=>rfl) fun g=>?_
 refine ai ⟨⟨[2,3],by decide,rfl⟩,?_⟩
 rw[show made [Value.int .i64 0] (N.arcs.length*1)=ap (List.replicate N.arcs.length 0) by rw[dn,Nat.mul_one];simp[ap]]
 refine a6 rfl ?_
 refine ax [] (xI N hN hR A c b o hA (List.replicate N.arcs.length 0) (g9 N hR) (some ⟨g,0,none⟩) N.arcs.length g 0 (fun _=>rfl) 1 (by decide)) rfl rfl rfl (by rw[List.length_replicate];rfl) (by kernel_rfl) ⟨⟨3,_,by simp,rfl,aq _ _ _,ay⟩,⟨0,_,by simp,rfl,bX,a7 (fun _=>rfl)⟩,trivial⟩ (fun _=>rfl) ?_
 rintro v H' ⟨f',p,k,A',c',hd,hk,rfl,rfl⟩
 refine⟨rfl,ai ⟨⟨[3,4],by decide,rfl⟩,?_⟩⟩
 refine dW [] rfl ?_
 refine aX 2 rfl rfl rfl rfl rfl [] rfl ?_
 refine ae [] rfl ?_
 refine aB ?_
 exact⟨[_,_],[0],_,⟨⟨p4,2,_,_,rfl,rfl,rfl⟩,rfl,trivial⟩,by decide,rfl,f',p,k,A',c',hd,hk,rfl,rfl⟩
end Go.Proofs.YtpbmihpjgjbndaaGreatDoor
