/- tree.Block, step by step. -/
import Derived.Test.YtpbmihpjgjbndaaGreatDoorQX30
import Derived.Test.YtpbmihpjgjbndaaGreatDoorQX22
import Derived.Test.YtpbmihpjgjbndaaGreatDoorQX36
import Derived.Test.YtpbmihpjgjbndaaGreatDoorLeadN
set_option linter.unusedVariables false
set_option linter.unusedSimpArgs false
namespace Go.Proofs.YtpbmihpjgjbndaaGreatDoor
open Go.RowKit
def w9 (N:a8) (f:List Int) (least:Int) (m:Nat) (v:Value) (H':Heap):Prop:=
 (aI N f∧1≤least∧∃ (f':List Int) (ws:List (List Nat×Int)) (k:Nat) (Ao:Option Addr) (co:Nat),kA N least f ws f'∧2*N.arcs.length≤k∧k≤fv N.nodes.toNat N.arcs.length∧ws.length≤N.arcs.length∧
  v=.tuple #[.slice Ao m co,.int .i64 (ws.length:Int),.int .i64 (k:Int),.int .i64 0]∧H'=[.own (.slice Ao m co) 2 1 m (ao f')])∨
 (¬ aI N f∧v=.tuple #[.slice none 0 0,.int .i64 0,.int .i64 0,.int .i64 (eL N f)]∧H'=[])∨(aI N f∧least<1∧v=.tuple #[.slice none 0 0,.int .i64 0,.int .i64 0,.int .i64 3]∧H'=[])
set_option maxHeartbeats 2000000 in
theorem sV (N:a8) (hN:N.Fits) (hR:N.Right) (A:Option Addr) (c b o:Nat) (hA:N.arcs≠[]→A=some ⟨b,o,none⟩) (f:List Int) (F:Option Addr) (cf bf of:Nat) (hF:f≠[]→F=some ⟨bf,of,none⟩) (hf:∀ x∈f,bT x) (hfl:f.length*8≤140737488351232) (least:Int) (hlb:bT least):
 Fn 245 [br N A c,.slice F f.length cf,.int .i64 least] [] [.seg b o (arcs N.arcs),.seg bf of (ao f)] (w9 N f least f.length):=by
 have hnn:=hR.nodes
 have hl2:=hR.len
 obtain⟨n,hn⟩:∃ n:Nat,N.nodes=n:=⟨N.nodes.toNat,by omega⟩
 refine aS Tryz.func245 rfl rfl fun w0=>?_
 refine ad (aa ?_)
 refine bw (cs:=bP N A c) rfl rfl rfl (fun _=>rfl) fun p=>?_
 refine ae [] rfl ?_
 refine ad (aa ?_)
 refine ab [] (v:=br N A c) (af 0 rfl rfl rfl rfl) rfl ?_
 refine ah [] rfl ?_
 refine av [] (qv N hN hR A c b o hA f F cf bf of hF hf hfl least) rfl rfl rfl rfl (by kernel_rfl) ⟨⟨1,_,by simp,rfl,aq _ _ _,ay⟩,⟨2,_,by simp,rfl,aq _ _ _,ay⟩,trivial⟩ (fun _=>rfl) ?_
 rintro v H' (⟨hW,hle,lv,B,cb,hlv,rfl,rfl⟩|⟨hW,rfl,rfl⟩|⟨hW,hle,rfl,rfl⟩)
 case inr.inl=>
  refine⟨rfl,?_⟩
  refine ae [] rfl ?_
  refine ad (ad (aa (ae [] rfl ?_)))
  refine aD rfl (fun h=>?_) (fun h=>absurd (cK.1 (Classical.not_not.1 h)) hW)
  refine ad (aa (ae [] rfl ?_))
  refine aE [] (by decide) rfl (aB ⟨_,rfl,.inr (.inl ⟨hW,rfl,rfl⟩)⟩)
 case inr.inr=>
  refine⟨rfl,?_⟩
  refine ae [] rfl ?_
  refine ad (ad (aa (ae [] rfl ?_)))
  refine aD rfl (fun h=>?_) (fun h=>absurd h (by decide))
  refine ad (aa (ae [] rfl ?_))
  refine aE [] (by decide) rfl (aB ⟨_,rfl,.inr (.inr ⟨hW,hle,rfl,rfl⟩)⟩)
 refine⟨rfl,?_⟩
 refine ae [] rfl ?_
 refine ad (ad (aa (ae [] rfl ?_)))
 refine aD rfl (fun h=>absurd rfl h) (fun _=>aw ?_)
 refine ad (aa ?_)
 refine ab [] (v:=br N A c) (af 1 rfl rfl rfl rfl) rfl ?_
 refine ah [] rfl ?_
 refine av [] (kd N hN hR A c b o hA f F cf bf of hF hf hfl) rfl rfl rfl rfl (by kernel_rfl) ⟨⟨2,_,by simp,rfl,aq _ _ _,ay⟩,⟨3,_,by simp,rfl,aq _ _ _,ay⟩,trivial⟩ (fun _=>rfl) ?_
 rintro v H' (⟨_,A1,c1,rfl,rfl⟩|⟨h,_,_⟩)
 case inr=>exact absurd hW h
 refine⟨rfl,?_⟩
 refine ae [] rfl ?_
 have hfN:=hW.len
 obtain⟨ls,hls⟩:∃ ls,ls=bG N (aM (N.arcs.zip f)) least lv (2*N.arcs.length):=⟨_,rfl⟩
 rw[← hls]
 have hlsm:∀ r∈ls,r<2*N.arcs.length:=fun r hr=>(dw.1 (hls▸hr)).1
 have hlsh:ls.length≤N.arcs.length:=hls▸rt N _ least lv _
 have hG:=fD hlv
 rw[← hls] at hG
 refine bL (be 1 rfl) fun ⟨_,_,hB,hlB⟩=>?_
 obtain⟨gB,hB⟩:=ci hB hlB
 refine bL (be 0 rfl) fun ⟨_,_,hA1,hlA1⟩=>?_
 obtain⟨gr,hA1⟩:=ci hA1 hlA1
 have hB':ls≠[]→B=some ⟨gB,0,none⟩:=fun h=>hB (by intro h0;apply h;have:=dF ls;unfold bJ at this;rw[h0] at this;exact List.length_eq_zero_iff.1 this.symm)
 obtain⟨rm0,hrm0⟩:∃ x,x=aM (N.arcs.zip f):=⟨_,rfl⟩
 have hrl0:rm0.length=2*N.arcs.length:=by rw[hrm0];exact fN hW.len
 have hA1':rm0≠[]→A1=some ⟨gr,0,none⟩:=fun h=>hA1 (by rw[← hrm0];intro h0;exact h (List.length_eq_zero_iff.1 (by rw[← bz,h0];rfl)))
 rw[← hrm0]
 refine ad ?_
 refine bn 7 [(0,true),(1,true),(3,true),(4,true),(2,false),(5,false),(6,true)] [2] (by kernel_rfl) (by decide) rfl ?_
 (repeat' (first
  |refine a7 (gs:=[999]) rfl rfl ?_
  |refine aj [999] rfl (af (v:=br N A c) 0 rfl rfl rfl rfl) rfl ?_))
 refine a6 rfl ?_
 have hA1x:ao rm0≠[]→A1=some ⟨gr,0,none⟩:=by rw[hrm0];exact hA1
 have TC:=jg A1 c1 gr 0 rm0 hA1' (by omega)
 rw[hrl0] at TC
 refine av [] TC rfl rfl rfl rfl (by kernel_rfl) ⟨⟨0,_,by simp,rfl,aT hA1x,aU hA1x⟩,trivial⟩ (fun _=>rfl) ?_
 rintro _ H' ⟨Ac,cc,rfl,rfl⟩
 refine⟨rfl,ai ⟨⟨[3],by decide,rfl⟩,?_⟩⟩
 refine a6 rfl ?_
 refine av [] (yb N hR A c b o hA Ac cc ls hlsm (by omega) B cb gB 0 hB' least n hn) rfl rfl rfl rfl (by kernel_rfl) ⟨⟨4,_,by simp,rfl,aq _ _ _,ay⟩,⟨2,_,by simp,rfl,aT hB,aU hB⟩,trivial⟩ (fun _=>rfl) ?_
 rintro _ H' ⟨pe,gl,gu,pt,ps,gn,go,co,cap,rows,rfl,hrows,hL,rfl⟩
 refine⟨cU rfl (cL _ _),?_⟩
 refine bZ aK.swap ?_
 refine ai ⟨⟨[10],by decide,rfl⟩,?_⟩
 refine a7 (gs:=[999]) rfl rfl ?_
 refine bu ?_
 refine ai ?_
 refine bL (be 7 rfl) fun ⟨_,_,hAc,hlAc⟩=>?_
 obtain⟨gc,hAc⟩:=ci hAc hlAc
 obtain⟨A0,hA0⟩:∃ A0:Heap,A0=gW pt ps go gn co cap (n+1) ⟨fun _=>gS 4611686018427387904,fun _=>none,0⟩++[blk pe 323 (pG N A c Ac cc least n gl gu (.pointer (some ⟨pt,0,none⟩)) ls.length 0),.own (.slice (some ⟨gl,0,none⟩) (n+1) (n+1)) 23 1 (n+1) (rows.map cH),.own (.slice (some ⟨gu,0,none⟩) (n+1) (n+1)) 23 1 (n+1) ((List.replicate (n+1) dh).map cH)]++
  [.own (.slice Ac (2*N.arcs.length) cc) 2 1 (2*N.arcs.length) (ao rm0),.own (.slice A1 (2*N.arcs.length) c1) 2 1 (2*N.arcs.length) (ao rm0),.own (.slice B ls.length cb) 3 1 ls.length (bJ ls),blk p 27 (bP N A c),.seg b o (arcs N.arcs),.seg bf of (ao f)]:=⟨_,rfl⟩
 refine bx (K:=A0++(rows++List.replicate (n+1) dh).map (bF 3)) (by rw[hA0];exact aK.refl) ?_
 have hA0l:A0.length=13:=by rw[hA0];rfl
 have hgvA:∀ w,cz w0 [] w (A0++(rows++List.replicate (n+1) dh).map (bF 3))→
  ∀ v:Nat,∃ gv:Nat,∀ row,rows[v]?=some row→row.l.length≤row.c∧(ao row.l≠[]→row.A=some ⟨gv,0,none⟩):=by
  intro w hw v
  cases hv:rows[v]? with
  |none=>exact⟨0,fun row h=>by cases h⟩
  |some row=>
   obtain⟨_,h2,h3,h4⟩:=be (X:=⟨w0,[],⟨0,[]⟩⟩) (13+v) (show _=some (bF 3 row) by
    rw[List.getElem?_append_right (by omega),hA0l,Nat.add_sub_cancel_left,List.getElem?_map,List.getElem?_append_left (List.getElem?_eq_some_iff.1 hv).1,hv];rfl) w hw
   obtain⟨gv,hgv⟩:=ci h3 h4
   exact⟨gv,fun row' h=>by simp only[Option.some.injEq] at h;subst h;exact⟨h2,hgv⟩⟩
 refine bL hgvA fun hrowA=>?_
 obtain⟨gv,hgv⟩:∃ gv:Nat→Nat,∀ (v:Nat) (row:ep),rows[v]?=some row→row.l.length≤row.c∧(ao row.l≠[]→row.A=some ⟨gv v,0,none⟩):=⟨fun v=>Classical.choose (hrowA v),fun v=>Classical.choose_spec (hrowA v)⟩
 clear hrowA hgvA
 obtain⟨P,hPd⟩:∃ P:EP,P={ N:=N,least:=least,n:=n,A:=A,c:=c,b:=b,o:=o,gr:=gc,Ar:=Ac,cr:=cc,gl:=gl,gu:=gu,pe:=pe,pt:=pt,ps:=ps,go:=go,gn:=gn,co:=co,cap:=cap,rowsL:=rows }:=⟨_,rfl⟩
 obtain⟨s0,hs0⟩:∃ s:ES,s={ vals:=rows.map cH,un:=List.replicate (n+1) dh,fs:=⟨fun _=>gS 4611686018427387904,fun _=>none,0⟩,rm:=rm0,k:=ls.length,w:=0 }:=⟨_,rfl⟩
 refine bx (K:=d6 P s0++[P.sg,.own (.slice A1 (2*N.arcs.length) c1) 2 1 (2*N.arcs.length) (ao rm0),.seg bf of (ao f)]) (by
  rw[hA0,hPd,hs0]
  exact aK.mid [0,1,2,3,4,7,5,6] [11,8,12] rfl rfl (by decide)) ?_
 clear hA0 hA0l
 have hP:iw P (dz N ls) (bY lv) gv:=by
  rw[hPd]
  exact⟨hR,hn,hG,hrows,hL,fun v row h=>(hgv v row h).2,fun v=>Nat.le_trans (ge N ls v) (by omega),hA,fun h=>hAc (by intro h0;rw[h0] at hlAc;simp at hlAc;exact h (List.length_eq_zero_iff.1 (show N.arcs.length=0 by omega))),hlb⟩
 have hPN:P.N=N:=by rw[hPd]
 have hPl:P.least=least:=by rw[hPd]
 have hPn:P.n=n:=by rw[hPd]
 have hPr:P.rowsL=rows:=by rw[hPd]
 have hPp:P.pe=pe:=by rw[hPd]
 have hI0:gI P (dz N ls) gv rm0 rm0 (List.replicate (n+1) 0) (fun _=>none) (fun _=>4611686018427387904) s0:=by
  refine⟨⟨_,by rw[hs0,hPn];exact eD.new (by decide)⟩,⟨by rw[hPn];simp,fun _ _ _ h=>(by cases h),fun _ _ _=>rfl,by rw[hs0,hPN];exact hrl0,fun _ _ _ _=>by rw[hs0],fun _ _=>by rw[hs0],fun r=>by rw[hrm0];exact dW hR hW.toRanged r⟩,?_,?_⟩
  ·rw[hs0,hPr]
   refine⟨by simp,fun v row q hr hq=>?_⟩
   rw[List.getElem?_replicate] at hq
   split at hq
   ·simp only[Option.some.injEq] at hq
    subst hq
    have h1:=hgv v row hr
    refine⟨row.A,row.c,by rw[List.getElem?_map,hr];rfl,h1.1,fun hp=>h1.2 (fun h0=>?_)⟩
    have:row.l.length=0:=by rw[← bz,h0];rfl
    omega
   ·cases hq
  ·rw[hs0,hPn]
   refine⟨by simp,fun w row hr=>?_⟩
   rw[List.getElem?_replicate] at hr
   split at hr
   ·simp only[Option.some.injEq] at hr
    subst hr
    exact⟨[],rfl,List.nodup_nil,fun v=>by simp⟩
   ·cases hr
 have hPI0:PI P.N (dz N ls) P.least rm0 (List.replicate (n+1) 0) []:=by
  have:=PI.start (N:=N) (L:=dz N ls) (least:=least) (rm:=rm0)
  rw[hn,Int.toNat_natCast] at this
  rw[hPN,hPl];exact this
 have hle':1≤P.least:=by rw[hPl];exact hle
 rw[← hPp]
 refine ad (aa ?_)
 refine ak (gs:=[999]) rfl ?_
 refine ap [] (x4 hP hle' s0 hI0 hPI0 (fun _ _ _ h=>(by cases h)) (f:=f) (by rw[hPN];exact hW) (by rw[hPN];exact hrm0)) rfl rfl rfl rfl (by kernel_rfl) aK.refl ⟨⟨0,_,by simp,rfl,aq _ _ _,ay⟩,trivial⟩ (fun _=>rfl) ?_
 rintro _ H' ⟨t,rfl,hTR,hIt,hft,hte,hwt,hct⟩
 refine⟨cU rfl (cL _ _),?_⟩
 refine ai ?_
 refine ad (aa ?_)
 refine ak (gs:=[999]) rfl ?_
 refine ap [] (vP hP t.s hIt) rfl rfl rfl rfl (by kernel_rfl) aK.refl ⟨⟨0,_,by simp,rfl,aq _ _ _,ay⟩,trivial⟩ (fun _=>rfl) ?_
 rintro _ H' ⟨par3,val3,s3,rfl,hta3,hnone,hw3,hc3⟩
 refine⟨cU rfl (cL _ _),?_⟩
 refine ai ?_
 refine bx (K:=P.fo s3.fs++[P.pc s3.k s3.w,P.rc s3.rm,.own (.slice A1 (2*N.arcs.length) c1) 2 1 (2*N.arcs.length) (ao rm0),.seg bf of (ao f)]) (by
  refine aK.trans (aK.swap (A:=P.fo s3.fs++[P.pc s3.k s3.w,P.rc s3.rm,P.lc s3.vals,P.uc s3.un]) (R:=P.rows s3.un) (B:=[P.sg,.own (.slice A1 (2*N.arcs.length) c1) 2 1 (2*N.arcs.length) (ao rm0),.seg bf of (ao f)])) ?_
  refine aK.trans (aK.re [0,1,2,3,4,5,9,10] rfl (by decide)) (aK.sub (List.sublist_append_left _ _))) ?_
 refine ad (aa ?_)
 refine ak (gs:=[999]) rfl ?_
 refine av [] (jg F cf bf of f hF (by omega)) rfl rfl rfl rfl (by kernel_rfl) ⟨⟨7,_,by simp,rfl,aq _ _ _,ay⟩,trivial⟩ (fun _=>rfl) ?_
 rintro _ H' ⟨Ao,co2,rfl,rfl⟩
 refine⟨rfl,?_⟩
 refine ae [] rfl ?_
 refine ad (ad (aa (ae [] rfl ?_)))
 rw[hPN,hPl] at hTR
 have hcl:(bG N (aM (N.arcs.zip f)) least lv (2*N.arcs.length)).length≤_:=gG N _ least lv _
 obtain⟨hcnt,hsame,_⟩:=hTR.count hR hG hle (ls:=ls) (fun v r=>ey) hW hrm0
 have hcnt2:ks ls least rm0≤ls.length:=List.length_filter_le _ _
 rw[hPN] at hft hte
 have hflip:∀ r∈ls,bj r∉ls:=by
  intro r hr hfr
  rw[hls] at hr hfr
  have h1:=(dw.1 hr).2.2.2
  have h2:=(dw.1 hfr).2.2.2
  rw[fQ,eI] at h2
  omega
 have hin:∀ r∈ls,s3.rm.getD r 0=(aM (N.arcs.zip t.f)).getD r 0:=by
  intro r hr
  rw[← hte]
  refine hta3.lead (cW N r) r (ey.2 ⟨hr,rfl⟩) fun q hq _=>absurd (hnone _ ?_) hq
  have:=iR hR (hlsm r hr)
  rw[hPn];omega
 have hout:∀ r,r∉ls→s3.rm.getD r 0=(aM (N.arcs.zip f)).getD r 0:=by
  intro r hr
  rw[← hrm0]
  exact hta3.rest r fun v hv=>hr (ey.1 hv).1
 have hsame':∀ r,r∉ls→bj r∉ls→(aM (N.arcs.zip t.f)).getD r 0=(aM (N.arcs.zip f)).getD r 0:=by
  intro r h1 h2
  rw[← hte,← hrm0]
  exact hsame r h1 h2
 have hrl3:s3.rm.length=2*N.arcs.length:=by have:=hta3.rml;rw[hPN] at this;exact this
 have htfl:=hft.len
 have hPrc:P.rc s3.rm=.own (.slice P.Ar (2*N.arcs.length) P.cr) 2 1 (2*N.arcs.length) (ao s3.rm):=by
  show aO.own (.slice P.Ar (2*P.N.arcs.length) P.cr) _ _ _ _=_
  rw[hPN]
 have hA1y:0<N.arcs.length→A1=some ⟨gr,0,none⟩:=fun h=>hA1' (by intro h0;rw[h0] at hrl0;simp at hrl0;omega)
 obtain⟨m,hm⟩:∃ m,m=N.arcs.length:=⟨_,rfl⟩
 have hfm:f.length=m:=by omega
 rw[hfm]
 refine bx (K:=P.fo s3.fs++[P.pc s3.k s3.w,P.rc s3.rm,.own (.slice A1 (2*N.arcs.length) c1) 2 1 (2*N.arcs.length) (ao rm0),.own (.slice Ao m co2) 2 1 m (ao (iD f t.f ls m 0))]) (by
  rw[← hfm,ry]
  exact aK.re (A:=[.own (.slice Ao f.length co2) 2 1 f.length (ao f)]++(P.fo s3.fs++[P.pc s3.k s3.w,P.rc s3.rm,.own (.slice A1 (2*N.arcs.length) c1) 2 1 (2*N.arcs.length) (ao rm0),.seg bf of (ao f)])) (R:=[]) [1,2,3,4,5,6,7,0] rfl (by decide)) ?_
 refine au ?_
 refine cO (σ:=Nat) (fun k=>[(48,.int .i64 (k:Int)),(47,.int .i64 ((2*N.arcs.length:Nat):Int)),(46,.slice A1 (2*N.arcs.length) c1),(15,.slice Ao m co2),(14,.pointer (some ⟨P.pe,0,none⟩)),(12,.slice A1 (2*N.arcs.length) c1)])
  (fun k=>P.fo s3.fs++[P.pc (s3.k+k) s3.w,P.rc s3.rm,.own (.slice A1 (2*N.arcs.length) c1) 2 1 (2*N.arcs.length) (ao rm0),.own (.slice Ao m co2) 2 1 m (ao (iD f t.f ls m k))])
  (fun k=>k≤2*N.arcs.length) (fun k=>2*N.arcs.length-k) 0 ⟨rfl,rfl,rfl,rfl,rfl,rfl,trivial⟩ aK.refl (Nat.zero_le _) ?_
 intro k hk
 refine ad (aa (ae [] rfl ?_))
 refine ad ?_
 refine aD rfl (fun hlt=>aw ?_) (fun hge=>aX ?_)
 ·have hk2:k<2*N.arcs.length:=by omega
  have hkm:k/2<m:=by omega
  obtain rfl:=hA1y (by omega)
  have hAr:=hP.room (r:=k) (by rw[hPN];exact hk2)
  have hr0:(ao rm0)[k]?=some (.int .i64 (rm0.getD k 0)):=b9 (by rw[List.getD_eq_getElem?_getD,List.getElem?_eq_getElem (by omega)];rfl)
  have hr3:(ao s3.rm)[k]?=some (.int .i64 (s3.rm.getD k 0)):=b9 (by rw[List.getD_eq_getElem?_getD,List.getElem?_eq_getElem (by omega)];rfl)
  have b0:=dW hR hW.toRanged k
  have b1:=dW hR hft.toRanged k
  rw[← hrm0] at b0
  have b3:0≤s3.rm.getD k 0∧s3.rm.getD k 0≤4611686018427387903:=by
   by_cases e:k∈ls
   ·rw[hin k e];exact b1
   ·rw[hout k e,← hrm0];exact b0
  obtain⟨st0,st1⟩:=tg hW.len htfl hin hout hsame' hflip hk2
  rw[← hrm0] at st0 st1
  have o0:=su hR hW.toRanged hft.toRanged (ls:=ls) (k:=k) (i:=k/2) (by omega)
  have o1:=su hR hW.toRanged hft.toRanged (ls:=ls) (k:=k+1) (i:=k/2) (by omega)
  refine bL (be 7 rfl) fun ⟨_,_,hAo,_⟩=>?_
  obtain⟨go2,rfl⟩:=hAo (by omega)
  refine ad (au ?_)
  refine ad (aa (ae [] rfl ?_))
  refine ad (aa ?_)
  refine ak (gs:=[999]) rfl ?_
  refine bZ (aK.re (A:=P.fo s3.fs++[P.pc (s3.k+k) s3.w,P.rc s3.rm,.own (.slice (some ⟨gr,0,none⟩) (2*N.arcs.length) c1) 2 1 (2*N.arcs.length) (ao rm0),.own (.slice (some ⟨go2,0,none⟩) m co2) 2 1 m (ao (iD f t.f ls m k))]) (R:=[]) [4,0,1,2,3,5,6,7] rfl (by decide)) ?_
  refine ap [999] (ii P (s3.k+k) s3.w) rfl rfl rfl rfl (by kernel_rfl) aK.refl trivial (fun _=>rfl) ?_
  rintro v0 H' rfl
  refine⟨rfl,?_⟩
  refine bZ (aK.re (A:=[P.pc (s3.k+k+1) s3.w]++(P.fo s3.fs++[P.rc s3.rm,.own (.slice (some ⟨gr,0,none⟩) (2*N.arcs.length) c1) 2 1 (2*N.arcs.length) (ao rm0),.own (.slice (some ⟨go2,0,none⟩) m co2) 2 1 m (ao (iD f t.f ls m k))])) (R:=[]) [1,2,3,4,0,5,6,7] rfl (by decide)) ?_
  refine ai ?_
  refine ad ?_
  refine bn 13 [(0,true),(1,true),(2,true),(3,true),(4,true),(5,true),(6,true),(7,true),(8,true),(9,true),(10,true),(11,true),(12,true)] [4,5,6] (by kernel_rfl) (by decide) rfl ?_
  (repeat' (first
   |refine a7 (gs:=[999]) rfl rfl ?_
   |refine aj [999] rfl (af 0 rfl rfl rfl rfl) rfl ?_
   |refine aj [999] rfl (aJ rfl rfl rfl rfl rfl hk2) rfl ?_
   |refine aj [999] rfl (aF 2 rfl rfl rfl hr0) rfl ?_
   |refine aj [999] rfl (aJ (b:=P.gr) (n:=2*P.N.arcs.length) (c:=P.cr) rfl (congrArg (fun A=>some (Value.slice A (2*P.N.arcs.length) P.cr)) hAr) rfl rfl rfl (by rw[hPN];exact hk2)) rfl ?_
   |refine aj [999] rfl (aF (g:=P.gr) (n:=2*P.N.arcs.length) (cap:=P.cr) 1 rfl rfl (congrArg (fun A=>some (aO.own (.slice A (2*P.N.arcs.length) P.cr) 2 1 (2*P.N.arcs.length) (ao s3.rm))) hAr) hr3) rfl ?_))
  refine bu ?_
  refine ai ?_
  refine aP 17 (v':=.int .i64 (rm0.getD k 0-s3.rm.getD k 0)) rfl (congrArg (Value.int .i64) (b8 (by omega))) ?_
  refine ad (aa (ae [] rfl ?_))
  have hand:IntKind.i64.wrap ((BitVec.ofInt IntKind.i64.bits (k:Int)&&& BitVec.ofInt IntKind.i64.bits 1).toNat:Int)=(k:Int)%2:=sv k
  have hq:∀ x:Int,x=((k:Int)).tdiv 2→IntKind.i64.wrap x=((k/2:Nat):Int):=by
   intro x hx
   rw[hx,Int.tdiv_eq_ediv_of_nonneg (by omega),b8 (by omega)];omega
  have hget:=iW (f:=f) (f':=t.f) (ls:=ls) (k:=k) hkm
  have hgi:(ao (iD f t.f ls m k))[k/2]?=some (.int .i64 (f7 f t.f ls k (k/2))):=b9 hget
  refine aD rfl (fun heq=>?_) (fun hne=>?_)
  ·rw[hand] at heq
   have hst:=st0 (by omega)
   refine aa ?_
   refine ak (gs:=[999]) rfl ?_
   refine ak (gs:=[999]) rfl ?_
   refine ak (gs:=[999]) rfl ?_
   refine ax 70 (v':=.int .i64 ((k/2:Nat):Int)) rfl (congrArg (Value.int .i64) (hq _ rfl)) ?_
   refine ab [] (aJ rfl rfl rfl rfl rfl hkm) rfl ?_
   refine ab [] (aF 7 rfl rfl rfl hgi) rfl ?_
   refine ak (gs:=[999]) rfl ?_
   refine ak (gs:=[999]) rfl ?_
   refine ax 74 (v':=.int .i64 (f7 f t.f ls (k+1) (k/2))) rfl (congrArg (Value.int .i64) ((b8 (by omega)).trans hst)) ?_
   refine ab [] (aJ rfl rfl rfl rfl rfl hkm) rfl ?_
   refine aQ 7 rfl rfl rfl rfl (dm rfl rfl rfl (by rw[bz,dp];exact hkm)) [] rfl ?_
   rw[show (ao (iD f t.f ls m k)).set (k/2) (.int .i64 (f7 f t.f ls (k+1) (k/2)))=ao ((iD f t.f ls m k).set (k/2) (f7 f t.f ls (k+1) (k/2))) from by simp[ao],pS (by omega) rfl]
   refine ai ?_
   refine aa (ae [] rfl ?_)
   refine⟨k+1,⟨?_,rfl,rfl,rfl,rfl,rfl,trivial⟩,aK.refl,hk2,by show 2*N.arcs.length-(k+1)<2*N.arcs.length-k;omega⟩
   show some (Value.int .i64 (IntKind.i64.wrap ((k:Int)+1)))=_
   rw[b8 (by omega)];rfl
  ·rw[hand] at hne
   have hst:=st1 (by omega)
   refine aa ?_
   refine ak (gs:=[999]) rfl ?_
   refine ak (gs:=[999]) rfl ?_
   refine ak (gs:=[999]) rfl ?_
   refine ax 78 (v':=.int .i64 ((k/2:Nat):Int)) rfl (congrArg (Value.int .i64) (hq _ rfl)) ?_
   refine ab [] (aJ rfl rfl rfl rfl rfl hkm) rfl ?_
   refine ab [] (aF 7 rfl rfl rfl hgi) rfl ?_
   refine ak (gs:=[999]) rfl ?_
   refine ak (gs:=[999]) rfl ?_
   refine ax 82 (v':=.int .i64 (f7 f t.f ls (k+1) (k/2))) rfl (congrArg (Value.int .i64) ((b8 (by omega)).trans hst)) ?_
   refine ab [] (aJ rfl rfl rfl rfl rfl hkm) rfl ?_
   refine aQ 7 rfl rfl rfl rfl (dm rfl rfl rfl (by rw[bz,dp];exact hkm)) [] rfl ?_
   rw[show (ao (iD f t.f ls m k)).set (k/2) (.int .i64 (f7 f t.f ls (k+1) (k/2)))=ao ((iD f t.f ls m k).set (k/2) (f7 f t.f ls (k+1) (k/2))) from by simp[ao],pS (by omega) rfl]
   refine ai ?_
   refine aa (ae [] rfl ?_)
   refine⟨k+1,⟨?_,rfl,rfl,rfl,rfl,rfl,trivial⟩,aK.refl,hk2,by show 2*N.arcs.length-(k+1)<2*N.arcs.length-k;omega⟩
   show some (Value.int .i64 (IntKind.i64.wrap ((k:Int)+1)))=_
   rw[b8 (by omega)];rfl
 ·obtain rfl:k=2*N.arcs.length:=by omega
  have hoe:iD f t.f ls m (2*N.arcs.length)=t.f:=by
   have:=u0 (f:=f) (f':=t.f) (ls:=ls) (by omega)
   rw[hfm,hm] at this
   rw[hm];exact this
  rw[hoe]
  refine ad ?_
  refine bn 19 [(0,true),(1,true),(2,true),(3,true),(4,true),(5,true),(6,true),(7,true),(8,true),(9,true),(10,true),(11,true),(12,true),(13,false),(14,true),(15,true),(16,true),(17,true),(18,true)] [4] (by kernel_rfl) (by decide) rfl ?_
  (repeat' (first
   |refine a7 (gs:=[999]) rfl rfl ?_
   |refine aj [999] rfl (af 0 rfl rfl rfl rfl) rfl ?_))
  refine a6 rfl ?_
  have hwl:cG (s3.w:Int)=(t.ws.length:Int):=by
   have:s0.w=0:=by rw[hs0]
   exact (b8 (by omega)).trans (by omega)
  obtain⟨K,hK⟩:∃ K,K=s3.k+2*N.arcs.length+s3.fs.k:=⟨_,rfl⟩
  have hKB:K≤fv n N.arcs.length:=by
   have e1:s3.cost=s3.k+s3.fs.k:=rfl
   have e2:s0.cost=ls.length:=by rw[hs0];rfl
   rw[hPn] at hct hc3
   have e3:bR (dz N ls) n (List.replicate (n+1) 0)≤ls.length:=uz N ls n
   have e4:cT n*bR (dz N ls) n (List.replicate (n+1) 0)≤cT n*N.arcs.length:=Nat.mul_le_mul_left _ (by omega)
   have e5:cX n*fx t.par n≤cX n*(n+1):=Nat.mul_le_mul_left _ (mP _ _)
   unfold fv
   rw[Nat.add_mul]
   omega
  have hKs:K<9000000000000000000:=by
   have h1:n≤500:=by omega
   have h2:cI (n+1)≤3000000:=by
    unfold cI
    have:(n+1)*(n+1)≤501*501:=Nat.mul_le_mul (by omega) (by omega)
    first|omega|(rw[Nat.mul_assoc];omega)|grind
   have h3:(cT n+3)*N.arcs.length≤46000000*2000:=Nat.mul_le_mul (by unfold cT;omega) hl2
   have h4:cX n*(n+1)≤16000000*501:=Nat.mul_le_mul (by unfold cX;omega) (by omega)
   have h5:(2*cI (n+1)+11*(n+1)+1)*(n+1)≤7000000*501:=Nat.mul_le_mul (by omega) (by omega)
   unfold fv at hKB
   omega
  refine ap [] (uv s3.fs) rfl rfl rfl rfl (by kernel_rfl) aK.refl trivial (fun _=>rfl) ?_
  rintro _ H' ⟨rfl,rfl⟩
  refine⟨rfl,ai ⟨⟨[4],by decide,rfl⟩,?_⟩⟩
  refine a7 (gs:=[999]) rfl rfl ?_
  refine bX 99 (v':=.int .i64 (K:Int)) rfl (congrArg (Value.int .i64) ?_) ?_
  ·show cG (cG ((s3.k+2*N.arcs.length:Nat):Int)+cG (s3.fs.k:Int))=K
   have h1:cG (s3.fs.k:Int)=(s3.fs.k:Int):=b8 (by omega)
   have h2:cG ((s3.k+2*N.arcs.length:Nat):Int)=((s3.k+2*N.arcs.length:Nat):Int):=b8 (by omega)
   rw[h1,h2]
   exact (b8 (by omega)).trans (by omega)
  refine bX 89 (v':=.int .i64 (t.ws.length:Int)) rfl (congrArg (Value.int .i64) hwl) ?_
  (repeat' (refine a7 (gs:=[999]) rfl rfl ?_))
  refine bu ?_
  refine ai ?_
  have hBl:=hTR.bl hR hG hle hW hrm0 (pos:=List.replicate (n+1) 0) (W:=[]) (by rw[hPN,hPl] at hPI0;exact hPI0)
  have hnt:N.nodes.toNat=n:=by omega
  refine aE [7] (by decide) rfl (aB ⟨_,rfl,.inl ⟨hW,hle,t.f,t.ws,K,Ao,co2,⟨lv,hlv,hft,?_⟩,by omega,by rw[hnt];exact hKB,by omega,rfl,rfl⟩⟩)
  rw[hnt,← hls,← hrm0,← hte]
  exact hBl
end Go.Proofs.YtpbmihpjgjbndaaGreatDoor
