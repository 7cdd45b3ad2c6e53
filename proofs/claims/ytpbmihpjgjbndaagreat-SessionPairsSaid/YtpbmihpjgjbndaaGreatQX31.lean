/- The engine and the words that all chapters share: several texts in one. -/
import Derived.Test.YtpbmihpjgjbndaaGreatQX20
/- A flow that is blocked, step by step. -/
set_option linter.unusedVariables false
set_option linter.unusedSimpArgs false
namespace Go.Proofs.YtpbmihpjgjbndaaGreat
open Go.RowKit
def xb (N:bt) (f:List Int) (least:Int) (m:Nat) (v:Value) (H':Heap):Prop:=
 (aT N f∧1≤least∧∃ (f':List Int) (ws:List (List Nat×Int)) (g:Nat) (Ak:Option Addr) (ck:Nat) (xs:List Value),gi N least f ws f'∧
  v=.tuple #[.slice (some ⟨g,0,none⟩) m m,.slice Ak ws.length ck,.int .i64 0]∧
  H'=[.own (.slice (some ⟨g,0,none⟩) m m) 2 1 m (aw f'),.own (.slice Ak ws.length ck) 173 2 ws.length xs])∨
 (¬ aT N f∧v=.tuple #[.slice none 0 0,.slice none 0 0,.int .i64 (ez N f)]∧H'=[])∨(aT N f∧least<1∧v=.tuple #[.slice none 0 0,.slice none 0 0,.int .i64 3]∧H'=[])
structure BS where
 ns:NS
 rm:List Int
 f:List Int
 acc:List (List Nat×Int)
 Ak:Option Addr
 ck:Nat
 xs:List Value
set_option maxHeartbeats 1000000 in
theorem uG (N:bt) (hN:N.Fits) (hR:N.Right) (A:Option Addr) (c b o:Nat) (hA:N.arcs≠[]→A=some ⟨b,o,none⟩) (f:List Int) (F:Option Addr) (cf bf of:Nat) (hF:f≠[]→F=some ⟨bf,of,none⟩) (hf:∀ x∈f,dw x) (hfl:f.length*8≤140737488351232) (least:Int):
 Fn 98 [bi N A c,.slice F f.length cf,.int .i64 least] [] [.seg b o (arcs N.arcs),.seg bf of (aw f)] (xb N f least f.length):=by
 have hnn:=hR.nodes
 have hl2:=hR.len
 obtain⟨n,hn⟩:∃ n:Nat,N.nodes=n:=⟨N.nodes.toNat,by omega⟩
 refine aM Tryz.func98 rfl rfl fun w0=>?_
 refine ae (aa ?_)
 refine a6 (cs:=bJ N A c) rfl rfl rfl (fun _=>rfl) fun p=>?_
 refine af [] rfl ?_
 refine ae (aa ?_)
 refine ab [] (v:=bi N A c) (ad 0 rfl rfl rfl rfl) rfl ?_
 refine ah [] rfl ?_
 refine ax [] (pP N hN hR A c b o hA f F cf bf of hF hf hfl least) rfl rfl rfl rfl (by kernel_rfl) ⟨⟨1,_,by simp,rfl,ak _ _ _,ap⟩,⟨2,_,by simp,rfl,ak _ _ _,ap⟩,trivial⟩ (fun _=>rfl) ?_
 rintro v H' (⟨hW,hle,lv,B,cb,hlv,rfl,rfl⟩|⟨hW,rfl,rfl⟩|⟨hW,hle,rfl,rfl⟩)
 case inr.inl=>
  refine⟨rfl,?_⟩
  refine af [] rfl ?_
  refine ae (ae (aa (af [] rfl ?_)))
  refine aC rfl (fun h=>?_) (fun h=>absurd (dJ.1 (Classical.not_not.1 h)) hW)
  refine ae (aa (af [] rfl ?_))
  refine aE [] (by decide) rfl (aB ⟨_,rfl,.inr (.inl ⟨hW,rfl,rfl⟩)⟩)
 case inr.inr=>
  refine⟨rfl,?_⟩
  refine af [] rfl ?_
  refine ae (ae (aa (af [] rfl ?_)))
  refine aC rfl (fun h=>?_) (fun h=>absurd h (by decide))
  refine ae (aa (af [] rfl ?_))
  refine aE [] (by decide) rfl (aB ⟨_,rfl,.inr (.inr ⟨hW,hle,rfl,rfl⟩)⟩)
 refine⟨rfl,?_⟩
 refine af [] rfl ?_
 refine ae (ae (aa (af [] rfl ?_)))
 refine aC rfl (fun h=>absurd rfl h) (fun _=>aq ?_)
 refine ae (aa ?_)
 refine ab [] (v:=bi N A c) (ad 1 rfl rfl rfl rfl) rfl ?_
 refine ah [] rfl ?_
 refine ax [] (lI N hN hR A c b o hA f F cf bf of hF hf hfl) rfl rfl rfl rfl (by kernel_rfl) ⟨⟨2,_,by simp,rfl,ak _ _ _,ap⟩,⟨3,_,by simp,rfl,ak _ _ _,ap⟩,trivial⟩ (fun _=>rfl) ?_
 rintro v H' (⟨_,A1,c1,rfl,rfl⟩|⟨h,_,_⟩)
 case inr=>exact absurd hW h
 refine⟨rfl,?_⟩
 refine af [] rfl ?_
 have hfN:=hW.len
 obtain⟨ls,hls⟩:∃ ls,ls=bo N (aK (N.arcs.zip f)) least lv (2*N.arcs.length):=⟨_,rfl⟩
 rw[← hls]
 have hlsm:∀ r∈ls,r<2*N.arcs.length:=fun r hr=>(dm.1 (hls▸hr)).1
 have hlsl:ls.length≤4000:=by rw[hls];have:=eA N (aK (N.arcs.zip f)) least lv (2*N.arcs.length);omega
 have hG:=eJ hlv
 rw[← hls] at hG
 refine bG (bp 1 rfl) fun ⟨_,_,hB,hlB⟩=>?_
 obtain⟨gB,hB⟩:=bQ hB hlB
 refine bG (bp 0 rfl) fun ⟨_,_,hA1,hlA1⟩=>?_
 obtain⟨gr,hA1⟩:=bQ hA1 hlA1
 have hB':ls≠[]→B=some ⟨gB,0,none⟩:=fun h=>hB (by intro h0;apply h;have:=d7 ls;unfold bs at this;rw[h0] at this;exact List.length_eq_zero_iff.1 this.symm)
 refine ae (aa ?_)
 refine ab [] (v:=bi N A c) (ad 2 rfl rfl rfl rfl) rfl ?_
 refine ah [] rfl ?_
 refine ax [] (xH N hR A c b o hA A1 c1 ls hlsm hlsl B cb gB 0 hB' least n hn) rfl rfl rfl rfl (by kernel_rfl) ⟨⟨3,_,by simp,rfl,ak _ _ _,ap⟩,⟨1,_,by simp,rfl,aS hB,aZ hB⟩,trivial⟩ (fun _=>rfl) ?_
 rintro v H' ⟨pw,gl,rows,rfl,hrows,hL,rfl⟩
 refine⟨cT rfl (cJ _ rows),?_⟩
 refine b6 aH.swap ?_
 show JL _ _ _ _ _ ([_,_,_,_,_,_,_]++rows.map (bY 3))
 refine af [] rfl ?_
 refine ae (aa (af [] rfl ?_))
 refine bO 3 1 ?_
 refine bO 173 2 ?_
 refine ae (au ?_)
 have hgvA:∀ w,cV w0 [] w ([.own (.slice none 0 0) 173 2 0 [],.own (.slice none 0 0) 3 1 0 [],blk pw 176 (oc N A c A1 c1 least gl n none 0 0),.own (.slice (some ⟨gl,0,none⟩) (n+1) (n+1)) 34 1 (n+1) (rows.map cN),.own (.slice A1 (2*N.arcs.length) c1) 2 1 (2*N.arcs.length) (aw (aK (N.arcs.zip f))),.own (.slice B ls.length cb) 3 1 ls.length (aw (ls.map fun (i:Nat)=>(i:Int))),blk p 50 (bJ N A c),.seg b o (arcs N.arcs),.seg bf of (aw f)]++rows.map (bY 3))→
  ∀ v:Nat,∃ gv:Nat,∀ row,rows[v]?=some row→row.l.length≤row.c∧(aw row.l≠[]→row.A=some ⟨gv,0,none⟩):=by
  intro w hw v
  cases hv:rows[v]? with
  |none=>exact⟨0,fun row h=>by cases h⟩
  |some row=>
   obtain⟨_,h2,h3,h4⟩:=bp (X:=⟨w0,[],⟨0,[]⟩⟩) (v+9) (show _=some (bY 3 row) by show (rows.map (bY 3))[v]?=_;rw[List.getElem?_map,hv];rfl) w hw
   obtain⟨gv,hgv⟩:=bQ h3 h4
   exact⟨gv,fun row' h=>by simp only[Option.some.injEq] at h;subst h;exact⟨h2,hgv⟩⟩
 show J _ _ _ _ ([_,_,_,_,_,_,_,_,_]++rows.map (bY 3))
 refine bG hgvA fun hrowA=>?_
 obtain⟨gv,hgv⟩:∃ gv:Nat→Nat,∀ (v:Nat) (row:fb),rows[v]?=some row→row.l.length≤row.c∧(aw row.l≠[]→row.A=some ⟨gv v,0,none⟩):=⟨fun v=>Classical.choose (hrowA v),fun v=>Classical.choose_spec (hrowA v)⟩
 clear hrowA hgvA
 obtain⟨rm0,hrm0⟩:∃ rm0,rm0=aK (N.arcs.zip f):=⟨_,rfl⟩
 have hL':∀ (v:Nat) (row:fb),rows[v]?=some row→row.l=(cP N ls v).map fun (i:Nat)=>(i:Int):=hL
 have hV0:tF rows gv (List.replicate (n+1) 0) (rows.map cN):=by
  refine⟨by simp,fun v row q hr hq=>?_⟩
  rw[List.getElem?_replicate] at hq
  split at hq
  ·simp only[Option.some.injEq] at hq
   subst hq
   have h1:=hgv v row hr
   refine⟨row.A,row.c,by rw[List.getElem?_map,hr];rfl,h1.1,fun hp=>h1.2 (fun h0=>?_)⟩
   have:row.l.length=0:=by rw[← bh,h0];rfl
   omega
  ·cases hq
 refine bM (σ:=BS) (fun s=>[(14,.slice s.Ak s.acc.length s.ck),(13,.pointer (some ⟨pw,0,none⟩)),(11,.slice A1 (2*N.arcs.length) c1),(1,.slice F f.length cf)])
  (fun s=>[blk pw 176 (oc N A c A1 c1 least gl n s.ns.Aw s.ns.W.length s.ns.cw),.own (.slice (some ⟨gl,0,none⟩) (n+1) (n+1)) 34 1 (n+1) s.ns.vals,.own (.slice s.ns.Aw s.ns.W.length s.ns.cw) 3 1 s.ns.W.length (bs s.ns.W),
   .own (.slice A1 (2*N.arcs.length) c1) 2 1 (2*N.arcs.length) (aw s.rm),.own (.slice s.Ak s.acc.length s.ck) 173 2 s.acc.length s.xs,.seg b o (arcs N.arcs),.seg bf of (aw f)]++rows.map (bY 3))
  (fun s=>PI N (cP N ls) least s.rm s.ns.pos s.ns.W∧tF rows gv s.ns.pos s.ns.vals∧aT N s.f∧s.rm=aK (N.arcs.zip s.f)∧s.acc.length+jy ls least s.rm≤4000∧
   ∀ ws rm',Bl N (cP N ls) least s.rm s.ns.pos s.ns.W ws rm'→Bl N (cP N ls) least rm0 (List.replicate (N.nodes.toNat+1) 0) [] (s.acc++ws) rm')
  (fun s=>jy ls least s.rm) ⟨⟨List.replicate (n+1) 0,[],rows.map cN,none,0⟩,rm0,f,[],none,0,[]⟩ ⟨rfl,rfl,rfl,rfl,trivial⟩ (by
   simp only[hrm0]
   exact aH.re [2,3,1,4,0,7,8] rfl (by decide)) ⟨?_,hV0,hW,hrm0,?_,fun ws rm' h=>?_⟩ ?_
 ·have:=PI.start (N:=N) (L:=cP N ls) (least:=least) (rm:=rm0)
  rw[hn,Int.toNat_natCast] at this
  exact this
 ·have:jy ls least rm0≤ls.length:=List.length_filter_le _ _
  simp only[List.length_nil];omega
 ·rw[hn,Int.toNat_natCast];exact h
 rintro⟨⟨pos,W,vals,Aw,cw⟩,rm,fc,acc,Ak,ck,xs⟩ ⟨hI,hV,hfc,hrm,hcnt,hX⟩
 simp only at hI hV hfc hrm hcnt hX ⊢
 have hrl:rm.length=2*N.arcs.length:=by rw[hrm];exact fM hfc.len
 refine bG (bp 3 rfl) fun ⟨_,_,hA1x,hlA1x⟩=>?_
 obtain⟨grx,hA1x⟩:=bQ hA1x hlA1x
 have hArx:rm≠[]→A1=some ⟨grx,0,none⟩:=fun h=>hA1x (by simpa [aw] using h)
 have hLl:∀ v,(cP N ls v).length≤4000:=fun v=>Nat.le_trans (gz N ls v) hlsl
 refine ae (ae (aa (ah [] rfl ?_)))
 refine ay (fst:=[]) (cap:=[]) [] (vW N hR A c b o hA pw A1 c1 grx least gl n hn (cP N ls) (bT lv) hG hLl rm hrl hArx rows hrows hL gv (fun v row h=>(hgv v row h).2) ⟨pos,W,vals,Aw,cw⟩ hI hV) rfl rfl rfl rfl (by kernel_rfl) (aH.mid [0,1,2] [3,4,5,6] rfl rfl (by decide))
  ⟨⟨2,_,by simp,rfl,ak _ _ _,ap⟩,⟨0,_,by simp,rfl,aS hA1x,aZ hA1x⟩,trivial⟩ (fun _=>rfl) ?_
 rintro v H' ⟨bb,⟨pos2,W2,vals2,Aw2,cw2⟩,rfl,hnx,hI2,hV2,rfl⟩
 simp only at hnx hI2 hV2 ⊢
 refine⟨cT rfl (cJ _ rows),?_⟩
 refine b6 aH.swap ?_
 refine aj ?_
 cases bb with
 |false=>
  refine bP rfl (aO ?_)
  have hbl:=hX _ _ (.stop hnx)
  rw[List.append_nil] at hbl
  have hfcl:=hfc.len
  obtain⟨m,hm⟩:∃ m,f.length=m:=⟨_,rfl⟩
  rw[hm] at hfN ⊢
  refine ae (aa (ah [] rfl ?_))
  refine cv (n:=m) (c:=m) rfl rfl rfl rfl rfl rfl (by omega) (by omega) (by omega) (fun _=>rfl) fun go=>?_
  refine af [] rfl ?_
  rw[show made [Value.int .i64 0] (m*1)=aw (List.replicate m 0) by rw[ce,Nat.mul_one];simp[aw]]
  refine ae (ae (aa (af [] rfl ?_)))
  refine au ?_
  refine bu (σ:=Nat) (fun k=>[(50,.int .i64 k),(49,.int .i64 m),(15,.slice (some ⟨go,0,none⟩) m m),(14,.slice Ak acc.length ck),(11,.slice A1 (2*N.arcs.length) c1)])
   (fun k=>[.own (.slice (some ⟨go,0,none⟩) m m) 2 1 m (aw (fc.take k++List.replicate (m-k) 0)),.own (.slice A1 (2*N.arcs.length) c1) 2 1 (2*N.arcs.length) (aw rm),.own (.slice Ak acc.length ck) 173 2 acc.length xs])
   (fun k=>k≤m) (fun k=>m-k) 0 [0,4,5] ⟨rfl,rfl,rfl,rfl,rfl,trivial⟩ (by decide) rfl (Nat.zero_le _) ?_
  intro k hk
  refine ae (aa (af [] rfl ?_))
  refine ae (aC rfl (fun hlt=>aq ?_) (fun hge=>aO ?_))
  ·have hlt:k<m:=by omega
   obtain⟨x,hx⟩:∃ x,fc[k]?=some x:=⟨fc[k]'(by omega),List.getElem?_eq_getElem (by omega)⟩
   obtain⟨ar,har⟩:∃ ar,N.arcs[k]?=some ar:=⟨N.arcs[k]'(by omega),List.getElem?_eq_getElem (by omega)⟩
   have hrx:=(dl (dr har hx)).2
   rw[← hrm] at hrx
   simp only at hrx
   obtain rfl:=hArx (by intro h0;rw[h0] at hrl;simp at hrl;omega)
   refine ae (au ?_)
   refine ae (aa (af [] rfl ?_))
   refine aa (ah [] rfl ?_)
   refine av 58 (v':=.int .i64 ((2*k+1:Nat):Int)) rfl (congrArg (Value.int .i64) (by rw[bK (n:=2*(k:Int)) (by omega),bK (by omega)];omega)) ?_
   refine ab [] (aI rfl rfl rfl rfl rfl (by omega)) rfl ?_
   refine ab [] (aF 1 rfl rfl rfl (bn hrx)) rfl ?_
   refine ab [] (aI rfl rfl rfl rfl rfl hlt) rfl ?_
   refine aG 0 rfl rfl rfl rfl (du rfl (by rw[List.length_append,List.length_take,List.length_replicate];omega)) [] rfl ?_
   refine aj ?_
   refine aa (af [] rfl ?_)
   refine⟨k+1,[0,1,2],⟨?_,rfl,rfl,rfl,rfl,trivial⟩,by decide,?_,by omega,by omega⟩
   ·show some (Value.int .i64 (IntKind.i64.wrap ((k:Int)+1)))=_
    rw[bK (by omega)];rfl
   ·rw[show fc.take (k+1)++List.replicate (m-(k+1)) 0=(fc.take k++List.replicate (m-k) 0).set k x by
     rw[List.set_append_right _ _ (by simp;omega),List.length_take,Nat.min_eq_left (by omega),Nat.sub_self,show m-k=(m-(k+1))+1 by omega,List.replicate_succ,List.set_cons_zero,List.take_add_one,hx,List.append_assoc]
     rfl]
    rfl
  ·obtain rfl:k=m:=by omega
   rw[Nat.sub_self,List.replicate_zero,List.append_nil,List.take_of_length_le (by omega)]
   refine ae (aa (af [] rfl ?_))
   refine aE [0,2] (by decide) rfl (aB ⟨_,rfl,.inl ⟨hW,hle,fc,acc,go,Ak,ck,xs,⟨lv,hlv,hfc,?_⟩,rfl,rfl⟩⟩)
   rw[← hls,← hrm0,← hrm]
   exact hbl
 |true=>
  refine bz rfl (aq ?_)
  obtain⟨_,hend,_⟩:=hnx.keeps hG hI
  obtain⟨k1,k2,k3,k4,k5,k6,⟨f',k7,k8⟩,k9,k10,r,v,k11,k12,k13⟩:=e9 hR hG hle hfc hrm hI2 (hend rfl)
  rw[hn,Int.toNat_natCast] at k5
  obtain⟨r0,hr0⟩:=List.exists_mem_of_ne_nil _ k1
  have hr0l:=k2 r0 hr0
  obtain rfl:=hArx (by intro h0;rw[h0] at hrl;simp at hrl;omega)
  show J _ _ _ _ ([_,_,_,_,_,_,_]++rows.map (bY 3))
  refine bN (aH.re [0,3,2,1,4,5,6] rfl (by decide)) ?_
  refine au (aa (ah [] rfl ?_))
  show JL _ _ _ _ _ ([_,_,_]++([_,_,_,_]++rows.map (bY 3)))
  have hcl:jy ls least (bZ (ci rm W2) W2 rm)<jy ls least rm:=lP (fun q hq=>k10 (bU N q) q (dU.2 ⟨hq,rfl⟩)) r (dU.1 k11).1 k12 k13
  refine ay (fst:=[]) (cap:=[]) [] (vN N hl2 A c pw grx c1 least hle gl n Aw2 cw2 rm hrl (fun q=>by rw[hrm];exact dX hR hfc.toRanged q) W2 k2 (by omega) k3 k4 k1) rfl rfl rfl rfl (by kernel_rfl) aH.refl trivial (fun _=>rfl) ?_
  rintro v' H' ⟨Aw3,cw3,At,ct,rfl,rfl⟩
  refine⟨rfl,?_⟩
  obtain⟨kc,hkc⟩:∃ kc,kc=kt least (bZ (ci rm W2) W2 rm) W2:=⟨_,rfl⟩
  have hkcl:kc≤W2.length:=by rw[hkc];exact List.findIdx_le_length
  rw[← hkc] at k9 ⊢
  refine b8 rfl rfl rfl rfl rfl rfl rfl (fun _=>rfl) fun gk=>?_
  refine a9 (n:=acc.length) (m:=1) (off:=0) (news:=[.slice At W2.length ct,.int .i64 (ci rm W2)]) 5 0 rfl rfl rfl rfl rfl rfl (by decide) rfl rfl (aR gk _ _ (0,0)) (fun _=>rfl) rfl rfl (by omega) (by omega) (fun _ _=>rfl) fun A4 c4=>?_
  refine af [] rfl ?_
  have htkl:(W2.take kc).length=kc:=by rw[List.length_take];omega
  refine⟨⟨⟨pos2,W2.take kc,vals2,Aw3,cw3⟩,bZ (ci rm W2) W2 rm,f',acc++[(W2,ci rm W2)],A4,c4,xs++[.slice At W2.length ct,.int .i64 (ci rm W2)]⟩,⟨?_,rfl,rfl,rfl,trivial⟩,?_,⟨k9,hV2,k7,k8,?_,fun ws rm' h=>?_⟩,hcl⟩
  ·show some (Value.slice A4 (acc.length+1) c4)=some (Value.slice A4 (acc++[(W2,ci rm W2)]).length c4)
   rw[List.length_append,List.length_singleton]
  ·simp only[htkl,List.length_append,List.length_singleton]
   show aH _ ([_,_,_,_,_,_,_,_]++rows.map (bY 3)) _
   exact aH.re [1,4,3,2,5,6,7] rfl (by decide)
  ·simp only[List.length_append,List.length_singleton];omega
  ·have:=hX _ _ (.walk hnx (hkc▸h))
   rw[List.append_assoc]
   exact this
end Go.Proofs.YtpbmihpjgjbndaaGreat
/- Phases by walks. -/
set_option linter.unusedVariables false
set_option linter.unusedSimpArgs false
namespace Go.Proofs.YtpbmihpjgjbndaaGreat
open Go.RowKit
theorem qz (N:bt) (hN:N.Fits) (hR:N.Right) (A:Option Addr) (c b o:Nat) (hA:N.arcs≠[]→A=some ⟨b,o,none⟩) (f:List Int) (hf:aT N f) (F:Option Addr) (cf bf of:Nat) (hF:f≠[]→F=some ⟨bf,of,none⟩) (least:Int) (hle:1≤least):
 Fn 97 [.agg #[],bi N A c,.slice F f.length cf,.int .i64 least] [] [.seg b o (arcs N.arcs),.seg bf of (aw f)] fun v H'=>∃ (f':List Int) (ws:List (List Nat×Int)) (g:Nat),gi N least f ws f'∧
  v=.tuple #[.slice (some ⟨g,0,none⟩) f.length f.length,.int .i64 ws.length,.int .i64 0]∧H'=[.own (.slice (some ⟨g,0,none⟩) f.length f.length) 2 1 f.length (aw f')]:=by
 have hl:=hf.len
 have hl2:=hR.len
 refine aM Tryz.func97 rfl rfl fun w0=>?_
 refine ae (aa ?_)
 refine a6 (cs:=[]) rfl rfl rfl (fun _=>rfl) fun p0=>?_
 refine a6 (cs:=bJ N A c) rfl rfl rfl (fun _=>rfl) fun p=>?_
 refine af [] rfl ?_
 refine ae (aa ?_)
 refine ab [] (v:=bi N A c) (ad 0 rfl rfl rfl rfl) rfl ?_
 refine ah [] rfl ?_
 refine ax [] (uG N hN hR A c b o hA f F cf bf of hF (aT.inB hR hf.toRanged) (by omega) least) rfl rfl rfl rfl (by kernel_rfl) ⟨⟨2,_,by simp,rfl,ak _ _ _,ap⟩,⟨3,_,by simp,rfl,ak _ _ _,ap⟩,trivial⟩ (fun _=>rfl) ?_
 rintro v H' (⟨_,_,f',ws,g,Ak,ck,xs,hb,rfl,rfl⟩|⟨hW,_,_⟩|⟨_,hlt,_,_⟩)
 case inr.inl=>exact absurd hf hW
 case inr.inr=>omega
 refine⟨rfl,?_⟩
 refine af [] rfl ?_
 refine ae (aa (af [] rfl ?_))
 exact aE [0] (by decide) rfl (aB ⟨_,rfl,f',ws,g,hb,rfl,rfl⟩)
theorem sC:Fn 53 [.int .u8 112] [] [] fun v H'=>v=.iface 139 (.agg #[])∧H'=[]:=by
 refine aM Tryz.func53 rfl rfl fun w0=>?_
 refine ae (aa (af [] rfl ?_))
 refine ae (ae (aa (af [] rfl ?_)))
 refine au (ae (aa (af [] rfl ?_)))
 refine aC rfl (fun _=>?_) (fun h=>absurd rfl h)
 refine ae (aa (ah [] rfl ?_))
 refine ab [] (bg rfl rfl rfl rfl rfl rfl) rfl ?_
 refine af [] rfl ?_
 exact aB ⟨_,rfl,rfl,rfl⟩
structure FS where
 f:List Int
 A:Option Addr
 c:Nat
 p:Nat
 k:Nat
 lv:List Int
def kD (A:Option Addr) (m c:Nat) (p k:Int) (s:Int):Value:=.agg #[.slice A m c,.int .i64 p,.int .i64 k,.int .i64 s]
set_option maxHeartbeats 1000000 in
theorem rI (N:bt) (hN:N.Fits) (hR:N.Right) (A:Option Addr) (c b o:Nat) (hA:N.arcs≠[]→A=some ⟨b,o,none⟩) (f:List Int) (hf:aT N f) (F:Option Addr) (cf bf of:Nat) (hF:f≠[]→F=some ⟨bf,of,none⟩) (least:Int) (hle:1≤least):
 Fn 40 [bi N A c,.slice F f.length cf,.int .i64 least,.int .u8 112] [] [.seg b o (arcs N.arcs),.seg bf of (aw f)] fun v H'=>∃ (f':List Int) (p k:Nat) (A':Option Addr) (c':Nat),Dn N least f p k f'∧(k:Int)≤9223372036854775806∧
  v=.tuple #[kD A' f'.length c' p k 0,.int .i64 0]∧H'=[.own (.slice A' f'.length c') 2 1 f'.length (aw f')]:=by
 have hl:=hf.len
 have hl2:=hR.len
 refine em Tryz.func40 rfl rfl fun w0=>?_
 refine ae (aa ?_)
 refine a6 (cs:=bJ N A c) rfl rfl rfl (fun _=>rfl) fun p4=>?_
 refine aQ rfl rfl rfl (fun _=>rfl) fun p8=>?_
 refine af [] rfl ?_
 refine ae (aa ?_)
 refine ab [] (v:=bi N A c) (ad 1 rfl rfl rfl rfl) rfl ?_
 refine ah [] rfl ?_
 refine ax [] (kG N hN hR A c b o hA f F cf bf of hF (aT.inB hR hf.toRanged) (by omega) least) rfl rfl rfl rfl (by kernel_rfl) ⟨⟨2,_,by simp,rfl,ak _ _ _,ap⟩,⟨3,_,by simp,rfl,ak _ _ _,ap⟩,trivial⟩ (fun _=>rfl) ?_
 rintro v H' (⟨_,_,lv,hlv,rfl,rfl⟩|⟨hW,_,_⟩|⟨_,hlt,_,_⟩)
 case inr.inl=>exact absurd hf hW
 case inr.inr=>omega
 refine⟨rfl,?_⟩
 refine af [] rfl ?_
 refine ae (ae (aa (af [] rfl ?_)))
 refine aC rfl (fun h=>absurd rfl h) (fun _=>aq ?_)
 refine ae (aa (ah [] rfl ?_))
 refine ax [] (sC) rfl rfl rfl rfl (by kernel_rfl) trivial (fun _=>rfl) ?_
 rintro v H' ⟨rfl,rfl⟩
 refine⟨rfl,?_⟩
 refine af [] rfl ?_
 refine ae (ae (aa (af [] rfl ?_)))
 refine bP rfl (aq ?_)
 refine ae (aa (ah [] rfl ?_))
 refine ax [] (jq F cf bf of f hF (by omega)) rfl rfl rfl rfl (by kernel_rfl) ⟨⟨3,_,by simp,rfl,ak _ _ _,ap⟩,trivial⟩ (fun _=>rfl) ?_
 rintro v H' ⟨A0,c0,rfl,rfl⟩
 refine⟨rfl,?_⟩
 refine ab [] (bg rfl rfl rfl rfl rfl rfl) rfl ?_
 refine aQ rfl rfl rfl (fun _=>rfl) fun p13=>?_
 refine aD 0 rfl rfl rfl rfl rfl [] rfl ?_
 refine aj ?_
 refine ae (au ?_)
 have hvb:=dC hR hf.toRanged N.snk
 refine bu (σ:=FS) (fun s=>[(10,.int .i64 (bT s.lv N.snk.toNat)),(12,.iface 139 (.agg #[])),(13,.pointer (some ⟨p13,0,none⟩)),(8,.pointer (some ⟨p8,0,none⟩)),(4,.pointer (some ⟨p4,0,none⟩)),(2,.int .i64 least)])
  (fun s=>[blk p13 69 [.slice s.A s.f.length s.c,.int .i64 s.p,.int .i64 s.k,.int .i64 0],.own (.slice s.A s.f.length s.c) 2 1 s.f.length (aw s.f),blk p8 69 [.slice none 0 0,.int .i64 0,.int .i64 0,.int .i64 0],blk p4 50 (bJ N A c),.seg b o (arcs N.arcs)])
  (fun s=>aT N s.f∧dx N (aK (N.arcs.zip s.f)) least s.lv∧s.p≤s.k∧ex (N.arcs.zip f) N.snk+s.k≤ex (N.arcs.zip s.f) N.snk∧∀ p k f',Dn N least s.f p k f'→Dn N least f (s.p+p) (s.k+k) f')
  (fun s=>(4611686018427387903-ex (N.arcs.zip s.f) N.snk).toNat) ⟨f,A0,c0,0,0,lv⟩ [0,1,2,3,4] ⟨rfl,rfl,rfl,rfl,rfl,rfl,trivial⟩ (by decide) rfl ⟨hf,hlv,Nat.le_refl _,by simp,fun p k f' h=>by simpa using h⟩ ?_
 rintro⟨fc,Ac,cc,p,k,lvc⟩ ⟨hfc,hlvc,hpk,hval,hX⟩
 simp only at hfc hlvc hpk hval hX ⊢
 have hvc:=dC hR hfc.toRanged N.snk
 have hfcl:=hfc.len
 refine ae (ae (aa (af [] rfl ?_)))
 refine aC rfl (fun hge=>aq ?_) (fun hlt=>aO ?_)
 ·refine au ?_
  refine bG (bp 1 rfl) fun ⟨_,_,hAc,hlAc⟩=>?_
  obtain⟨gc,hAc⟩:=bQ hAc hlAc
  refine ae (aa (ah [] rfl ?_))
  refine ab [] (v:=bi N A c) (ad 3 rfl rfl rfl rfl) rfl ?_
  refine ah [] rfl ?_
  refine ab [] (ad (v:=.slice Ac fc.length cc) 0 rfl rfl rfl rfl) rfl ?_
  refine ah [] rfl ?_
  refine np [] (qz N hN hR A c b o hA fc hfc Ac cc gc 0 (fun h=>hAc (by simpa [aw] using h)) least hle) rfl rfl rfl rfl (by kernel_rfl) rfl (by kernel_rfl) ⟨⟨4,_,by simp,rfl,ak _ _ _,ap⟩,⟨1,_,by simp,rfl,aS hAc,aZ hAc⟩,trivial⟩ (fun _=>rfl) ?_
  rintro v H' ⟨f1,ws,g1,hb,rfl,rfl⟩
  obtain⟨hf1,hv1,hw1⟩:=hb.keeps hR hle hfc hlvc
  have hwpos:=List.length_pos_iff.2 (hw1 hge)
  have hf1l:=hf1.len
  have hlen:fc.length=f1.length:=by omega
  refine⟨rfl,?_⟩
  rw[hlen]
  refine af [] rfl ?_
  have hvc1:=dC hR hf1.toRanged N.snk
  have hlw:(ws.length:Int)≤least*ws.length:=by
   have:=Int.mul_le_mul_of_nonneg_right hle (show (0:Int)≤ws.length by omega)
   omega
  refine ae (aa (ah [] rfl ?_))
  refine ab [] (ad (v:=.int .i64 p) 1 rfl rfl rfl rfl) rfl ?_
  refine ah [] rfl ?_
  refine av 51 (v':=.int .i64 ((p+1:Nat):Int)) rfl (congrArg (Value.int .i64) (bK (by omega))) ?_
  refine ab [] (ad (v:=.int .i64 k) 1 rfl rfl rfl rfl) rfl ?_
  refine ah [] rfl ?_
  refine av 55 (v':=.int .i64 ((k+ws.length:Nat):Int)) rfl (congrArg (Value.int .i64) ((bK (by omega)).trans (by omega))) ?_
  refine ab [] (ad (v:=.int .i64 0) 1 rfl rfl rfl rfl) rfl ?_
  refine ah [] rfl ?_
  refine av 59 (v':=.int .i64 0) rfl (congrArg (Value.int .i64) (bK (by omega))) ?_
  refine ab [] (bg rfl rfl rfl rfl rfl rfl) rfl ?_
  refine aD 1 rfl rfl rfl rfl rfl [] rfl ?_
  refine aj ?_
  refine aa ?_
  refine ab [] (v:=bi N A c) (ad 4 rfl rfl rfl rfl) rfl ?_
  refine ah [] rfl ?_
  refine ax [] (kG N hN hR A c b o hA f1 (some ⟨g1,0,none⟩) f1.length g1 0 (fun _=>rfl) (aT.inB hR hf1.toRanged) (by omega) least) rfl rfl rfl rfl (by kernel_rfl) ⟨⟨5,_,by simp,rfl,ak _ _ _,ap⟩,⟨0,_,by simp,rfl,cp,aZ (fun _=>rfl)⟩,trivial⟩ (fun _=>rfl) ?_
  rintro v H' (⟨_,_,lv1,hlv1,rfl,rfl⟩|⟨hW,_,_⟩|⟨_,hlt,_,_⟩)
  case inr.inl=>exact absurd hf1 hW
  case inr.inr=>omega
  refine⟨rfl,?_⟩
  refine af [] rfl ?_
  refine⟨⟨f1,some ⟨g1,0,none⟩,f1.length,p+1,k+ws.length,lv1⟩,[1,0,3,4,5],⟨rfl,rfl,rfl,rfl,rfl,rfl,trivial⟩,by decide,rfl,⟨hf1,hlv1,by simp only;omega,by simp only;omega,fun p' k' f' h=>?_⟩,by simp only;omega⟩
  have:=hX _ _ _ (.step hlvc hge hb h)
  simp only
  rw[show p+1+p'=p+(p'+1) by omega,show k+ws.length+k'=k+(ws.length+k') by omega]
  exact this
 ·have hdn:=hX _ _ _ (.stop hlvc (by omega))
  rw[Nat.add_zero,Nat.add_zero] at hdn
  refine ae (aa ?_)
  refine ab [] (v:=kD Ac fc.length cc p k 0) (ad 0 rfl rfl rfl rfl) rfl ?_
  refine ah [] rfl ?_
  refine aD 2 rfl rfl rfl rfl rfl [] rfl ?_
  refine af [] rfl ?_
  refine aB ?_
  exact⟨[_,_],[1],_,⟨⟨p8,2,_,_,rfl,rfl,rfl⟩,rfl,trivial⟩,by decide,rfl,fc,p,k,Ac,cc,hdn,by omega,rfl,rfl⟩
theorem wU (N:bt) (hN:N.Fits) (hR:N.Right) (A:Option Addr) (c b o:Nat) (hA:N.arcs≠[]→A=some ⟨b,o,none⟩):
 Fn 22 [bi N A c,.int .u8 112] [] [.seg b o (arcs N.arcs)] fun v H'=>∃ (f':List Int) (p k:Nat) (A':Option Addr) (c':Nat),Dn N 1 (List.replicate N.arcs.length 0) p k f'∧(k:Int)≤9223372036854775806∧
  v=.tuple #[kD A' f'.length c' p k 0,.int .i64 0]∧H'=[.own (.slice A' f'.length c') 2 1 f'.length (aw f')]:=by
 have hl2:=hR.len
 refine em Tryz.func22 rfl rfl fun w0=>?_
 refine ae (aa ?_)
 refine a6 (cs:=bJ N A c) rfl rfl rfl (fun _=>rfl) fun p2=>?_
 refine aQ rfl rfl rfl (fun _=>rfl) fun p4=>?_
 refine af [] rfl ?_
 refine ae ?_
 refine bq 9 [(0,true),(1,true),(2,true),(3,true),(5,true),(4,false),(6,false),(7,true),(8,true)] [1,2] (by kernel_rfl) (by decide) rfl ?_
 refine ai [] rfl (ad (v:=bi N A c) 0 rfl rfl rfl rfl) rfl ?_
 refine aJ [] rfl ?_
 (first|refine ai [] rfl (ad 0 rfl rfl rfl rfl) rfl ?_|refine ai [] rfl (ad 1 rfl rfl rfl rfl) rfl ?_|refine ai [] rfl (ad 2 rfl rfl rfl rfl) rfl ?_|refine ai [] rfl (ad 3 rfl rfl rfl rfl) rfl ?_|refine ai [] rfl (ad 4 rfl rfl rfl rfl) rfl ?_|refine ai [] rfl (ad 5 rfl rfl rfl rfl) rfl ?_)
 refine aJ [] rfl ?_
 refine bc rfl ?_
 refine cv (n:=N.arcs.length) (c:=N.arcs.length) rfl rfl rfl rfl rfl rfl (by omega) (by omega) (by omega) (fun _=>rfl) fun g=>?_
 refine aj ⟨⟨[2,3],by decide,rfl⟩,?_⟩
 rw[show made [Value.int .i64 0] (N.arcs.length*1)=aw (List.replicate N.arcs.length 0) by rw[ce,Nat.mul_one];simp[aw]]
 refine bc rfl ?_
 refine ax [] (rI N hN hR A c b o hA (List.replicate N.arcs.length 0) (fT N hR) (some ⟨g,0,none⟩) N.arcs.length g 0 (fun _=>rfl) 1 (by decide)) rfl rfl rfl (by rw[List.length_replicate];rfl) (by kernel_rfl) ⟨⟨3,_,by simp,rfl,ak _ _ _,ap⟩,⟨0,_,by simp,rfl,cp,aZ (fun _=>rfl)⟩,trivial⟩ (fun _=>rfl) ?_
 rintro v H' ⟨f',p,k,A',c',hd,hk,rfl,rfl⟩
 refine⟨rfl,aj ⟨⟨[3,4],by decide,rfl⟩,?_⟩⟩
 refine cA [] rfl ?_
 refine aD 2 rfl rfl rfl rfl rfl [] rfl ?_
 refine af [] rfl ?_
 refine aB ?_
 exact⟨[_,_],[0],_,⟨⟨p4,2,_,_,rfl,rfl,rfl⟩,rfl,trivial⟩,by decide,rfl,f',p,k,A',c',hd,hk,rfl,rfl⟩
end Go.Proofs.YtpbmihpjgjbndaaGreat
