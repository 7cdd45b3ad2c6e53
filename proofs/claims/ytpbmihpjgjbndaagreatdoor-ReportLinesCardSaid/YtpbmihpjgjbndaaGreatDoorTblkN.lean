/- tree.Block, step by step. -/
import Derived.Test.YtpbmihpjgjbndaaGreatDoorQX30
import Derived.Test.YtpbmihpjgjbndaaGreatDoorQX23
import Derived.Test.YtpbmihpjgjbndaaGreatDoorQX37
import Derived.Test.YtpbmihpjgjbndaaGreatDoorLeadN
set_option linter.unusedVariables false
set_option linter.unusedSimpArgs false
namespace Go.Proofs.YtpbmihpjgjbndaaGreatDoor
open Go.RowKit
def xN (N:a8) (f:List Int) (least:Int) (m:Nat) (v:Value) (H':Heap):Prop:=
 (aH N f∧1≤least∧∃ (f':List Int) (ws:List (List Nat×Int)) (k:Nat) (Ao:Option Addr) (co:Nat),kI N least f ws f'∧2*N.arcs.length≤k∧k≤fw N.nodes.toNat N.arcs.length∧ws.length≤N.arcs.length∧
  v=.tuple #[.slice Ao m co,.int .i64 (ws.length:Int),.int .i64 (k:Int),.int .i64 0]∧H'=[.own (.slice Ao m co) 2 1 m (ap f')])∨
 (¬ aH N f∧v=.tuple #[.slice none 0 0,.int .i64 0,.int .i64 0,.int .i64 (eO N f)]∧H'=[])∨(aH N f∧least<1∧v=.tuple #[.slice none 0 0,.int .i64 0,.int .i64 0,.int .i64 3]∧H'=[])
set_option maxHeartbeats 2000000 in
theorem uN (N:a8) (hN:N.Fits) (hR:N.Right) (A:Option Addr) (c b o:Nat) (hA:N.arcs≠[]→A=some ⟨b,o,none⟩) (f:List Int) (F:Option Addr) (cf bf of:Nat) (hF:f≠[]→F=some ⟨bf,of,none⟩) (hf:∀ x∈f,bN x) (hfl:f.length*8≤140737488351232) (least:Int) (hlb:bN least):
 Fn 245 [bu N A c,.slice F f.length cf,.int .i64 least] [] [.seg b o (arcs N.arcs),.seg bf of (ap f)] (xN N f least f.length):=by
 have hnn:=hR.nodes
 have hl2:=hR.len
 obtain⟨n,hn⟩:∃ n:Nat,N.nodes=n:=⟨N.nodes.toNat,by omega⟩
 refine aS Tryz.func245 rfl rfl fun w0=>?_
 refine ad (aa ?_)
 refine bw (cs:=bG N A c) rfl rfl rfl (fun _=>rfl) fun p=>?_
 refine ae [] rfl ?_
 refine ad (aa ?_)
 refine ab [] (v:=bu N A c) (af 0 rfl rfl rfl rfl) rfl ?_
 refine ah [] rfl ?_
 refine ax [] (pY N hN hR A c b o hA f F cf bf of hF hf hfl least) rfl rfl rfl rfl (by kernel_rfl) ⟨⟨1,_,by simp,rfl,aq _ _ _,ay⟩,⟨2,_,by simp,rfl,aq _ _ _,ay⟩,trivial⟩ (fun _=>rfl) ?_
 rintro v H' (⟨hW,hle,lv,B,cb,hlv,rfl,rfl⟩|⟨hW,rfl,rfl⟩|⟨hW,hle,rfl,rfl⟩)
 case inr.inl=>
  refine⟨rfl,?_⟩
  refine ae [] rfl ?_
  refine ad (ad (aa (ae [] rfl ?_)))
  refine aC rfl (fun h=>?_) (fun h=>absurd (cK.1 (Classical.not_not.1 h)) hW)
  refine ad (aa (ae [] rfl ?_))
  refine aE [] (by decide) rfl (aB ⟨_,rfl,.inr (.inl ⟨hW,rfl,rfl⟩)⟩)
 case inr.inr=>
  refine⟨rfl,?_⟩
  refine ae [] rfl ?_
  refine ad (ad (aa (ae [] rfl ?_)))
  refine aC rfl (fun h=>?_) (fun h=>absurd h (by decide))
  refine ad (aa (ae [] rfl ?_))
  refine aE [] (by decide) rfl (aB ⟨_,rfl,.inr (.inr ⟨hW,hle,rfl,rfl⟩)⟩)
 refine⟨rfl,?_⟩
 refine ae [] rfl ?_
 refine ad (ad (aa (ae [] rfl ?_)))
 refine aC rfl (fun h=>absurd rfl h) (fun _=>av ?_)
 refine ad (aa ?_)
 refine ab [] (v:=bu N A c) (af 1 rfl rfl rfl rfl) rfl ?_
 refine ah [] rfl ?_
 refine ax [] (kq N hN hR A c b o hA f F cf bf of hF hf hfl) rfl rfl rfl rfl (by kernel_rfl) ⟨⟨2,_,by simp,rfl,aq _ _ _,ay⟩,⟨3,_,by simp,rfl,aq _ _ _,ay⟩,trivial⟩ (fun _=>rfl) ?_
 rintro v H' (⟨_,A1,c1,rfl,rfl⟩|⟨h,_,_⟩)
 case inr=>exact absurd hW h
 refine⟨rfl,?_⟩
 refine ae [] rfl ?_
 have hfN:=hW.len
 obtain⟨ls,hls⟩:∃ ls,ls=bJ N (aM (N.arcs.zip f)) least lv (2*N.arcs.length):=⟨_,rfl⟩
 rw[← hls]
 have hlsm:∀ r∈ls,r<2*N.arcs.length:=fun r hr=>(dw.1 (hls▸hr)).1
 have hlsh:ls.length≤N.arcs.length:=hls▸rM N _ least lv _
 have hG:=fE hlv
 rw[← hls] at hG
 refine bO (bh 1 rfl) fun ⟨_,_,hB,hlB⟩=>?_
 obtain⟨gB,hB⟩:=cB hB hlB
 refine bO (bh 0 rfl) fun ⟨_,_,hA1,hlA1⟩=>?_
 obtain⟨gr,hA1⟩:=cB hA1 hlA1
 have hB':ls≠[]→B=some ⟨gB,0,none⟩:=fun h=>hB (by intro h0;apply h;have:=dF ls;unfold bL at this;rw[h0] at this;exact List.length_eq_zero_iff.1 this.symm)
 obtain⟨rm0,hrm0⟩:∃ x,x=aM (N.arcs.zip f):=⟨_,rfl⟩
 have hrl0:rm0.length=2*N.arcs.length:=by rw[hrm0];exact fM hW.len
 have hA1':rm0≠[]→A1=some ⟨gr,0,none⟩:=fun h=>hA1 (by rw[← hrm0];intro h0;exact h (List.length_eq_zero_iff.1 (by rw[← bB,h0];rfl)))
 rw[← hrm0]
 refine ad ?_
 refine bp 7 [(0,true),(1,true),(3,true),(4,true),(2,false),(5,false),(6,true)] [2] (by kernel_rfl) (by decide) rfl ?_
 (repeat' (first
  |refine aZ (gs:=[999]) rfl rfl ?_
  |refine aj [999] rfl (af (v:=bu N A c) 0 rfl rfl rfl rfl) rfl ?_))
 refine a6 rfl ?_
 have hA1x:ap rm0≠[]→A1=some ⟨gr,0,none⟩:=by rw[hrm0];exact hA1
 have TC:=jl A1 c1 gr 0 rm0 hA1' (by omega)
 rw[hrl0] at TC
 refine ax [] TC rfl rfl rfl rfl (by kernel_rfl) ⟨⟨0,_,by simp,rfl,aY hA1x,a7 hA1x⟩,trivial⟩ (fun _=>rfl) ?_
 rintro _ H' ⟨Ac,cc,rfl,rfl⟩
 refine⟨rfl,ai ⟨⟨[3],by decide,rfl⟩,?_⟩⟩
 refine a6 rfl ?_
 refine ax [] (yu N hR A c b o hA Ac cc ls hlsm (by omega) B cb gB 0 hB' least n hn) rfl rfl rfl rfl (by kernel_rfl) ⟨⟨4,_,by simp,rfl,aq _ _ _,ay⟩,⟨2,_,by simp,rfl,aY hB,a7 hB⟩,trivial⟩ (fun _=>rfl) ?_
 rintro _ H' ⟨pe,gl,gu,pt,ps,gn,go,co,cap,rows,rfl,hrows,hL,rfl⟩
 refine⟨cR rfl (cJ _ _),?_⟩
 refine bY aK.swap ?_
 refine ai ⟨⟨[10],by decide,rfl⟩,?_⟩
 refine aZ (gs:=[999]) rfl rfl ?_
 refine bv ?_
 refine ai ?_
 refine bO (bh 7 rfl) fun ⟨_,_,hAc,hlAc⟩=>?_
 obtain⟨gc,hAc⟩:=cB hAc hlAc
 obtain⟨A0,hA0⟩:∃ A0:Heap,A0=hO pt ps go gn co cap (n+1) ⟨fun _=>gZ 4611686018427387904,fun _=>none,0⟩++[blk pe 323 (pX N A c Ac cc least n gl gu (.pointer (some ⟨pt,0,none⟩)) ls.length 0),.own (.slice (some ⟨gl,0,none⟩) (n+1) (n+1)) 23 1 (n+1) (rows.map cH),.own (.slice (some ⟨gu,0,none⟩) (n+1) (n+1)) 23 1 (n+1) ((List.replicate (n+1) dg).map cH)]++
  [.own (.slice Ac (2*N.arcs.length) cc) 2 1 (2*N.arcs.length) (ap rm0),.own (.slice A1 (2*N.arcs.length) c1) 2 1 (2*N.arcs.length) (ap rm0),.own (.slice B ls.length cb) 3 1 ls.length (bL ls),blk p 27 (bG N A c),.seg b o (arcs N.arcs),.seg bf of (ap f)]:=⟨_,rfl⟩
 refine bA (K:=A0++(rows++List.replicate (n+1) dg).map (bH 3)) (by rw[hA0];exact aK.refl) ?_
 have hA0l:A0.length=13:=by rw[hA0];rfl
 have hgvA:∀ w,cm w0 [] w (A0++(rows++List.replicate (n+1) dg).map (bH 3))→
  ∀ v:Nat,∃ gv:Nat,∀ row,rows[v]?=some row→row.l.length≤row.c∧(ap row.l≠[]→row.A=some ⟨gv,0,none⟩):=by
  intro w hw v
  cases hv:rows[v]? with
  |none=>exact⟨0,fun row h=>by cases h⟩
  |some row=>
   obtain⟨_,h2,h3,h4⟩:=bh (X:=⟨w0,[],⟨0,[]⟩⟩) (13+v) (show _=some (bH 3 row) by
    rw[List.getElem?_append_right (by omega),hA0l,Nat.add_sub_cancel_left,List.getElem?_map,List.getElem?_append_left (List.getElem?_eq_some_iff.1 hv).1,hv];rfl) w hw
   obtain⟨gv,hgv⟩:=cB h3 h4
   exact⟨gv,fun row' h=>by simp only[Option.some.injEq] at h;subst h;exact⟨h2,hgv⟩⟩
 refine bO hgvA fun hrowA=>?_
 obtain⟨gv,hgv⟩:∃ gv:Nat→Nat,∀ (v:Nat) (row:eu),rows[v]?=some row→row.l.length≤row.c∧(ap row.l≠[]→row.A=some ⟨gv v,0,none⟩):=⟨fun v=>Classical.choose (hrowA v),fun v=>Classical.choose_spec (hrowA v)⟩
 clear hrowA hgvA
 obtain⟨P,hPd⟩:∃ P:EP,P={ N:=N,least:=least,n:=n,A:=A,c:=c,b:=b,o:=o,gr:=gc,Ar:=Ac,cr:=cc,gl:=gl,gu:=gu,pe:=pe,pt:=pt,ps:=ps,go:=go,gn:=gn,co:=co,cap:=cap,rowsL:=rows }:=⟨_,rfl⟩
 obtain⟨s0,hs0⟩:∃ s:ES,s={ vals:=rows.map cH,un:=List.replicate (n+1) dg,fs:=⟨fun _=>gZ 4611686018427387904,fun _=>none,0⟩,rm:=rm0,k:=ls.length,w:=0 }:=⟨_,rfl⟩
 refine bA (K:=eb P s0++[P.sg,.own (.slice A1 (2*N.arcs.length) c1) 2 1 (2*N.arcs.length) (ap rm0),.seg bf of (ap f)]) (by
  rw[hA0,hPd,hs0]
  exact aK.mid [0,1,2,3,4,7,5,6] [11,8,12] rfl rfl (by decide)) ?_
 clear hA0 hA0l
 have hP:iB P (dz N ls) (bZ lv) gv:=by
  rw[hPd]
  exact⟨hR,hn,hG,hrows,hL,fun v row h=>(hgv v row h).2,fun v=>Nat.le_trans (gg N ls v) (by omega),hA,fun h=>hAc (by intro h0;rw[h0] at hlAc;simp at hlAc;exact h (List.length_eq_zero_iff.1 (show N.arcs.length=0 by omega))),hlb⟩
 have hPN:P.N=N:=by rw[hPd]
 have hPl:P.least=least:=by rw[hPd]
 have hPn:P.n=n:=by rw[hPd]
 have hPr:P.rowsL=rows:=by rw[hPd]
 have hPp:P.pe=pe:=by rw[hPd]
 have hI0:gO P (dz N ls) gv rm0 rm0 (List.replicate (n+1) 0) (fun _=>none) (fun _=>4611686018427387904) s0:=by
  refine⟨⟨_,by rw[hs0,hPn];exact eC.new (by decide)⟩,⟨by rw[hPn];simp,fun _ _ _ h=>(by cases h),fun _ _ _=>rfl,by rw[hs0,hPN];exact hrl0,fun _ _ _ _=>by rw[hs0],fun _ _=>by rw[hs0],fun r=>by rw[hrm0];exact dX hR hW.toRanged r⟩,?_,?_⟩
  ·rw[hs0,hPr]
   refine⟨by simp,fun v row q hr hq=>?_⟩
   rw[List.getElem?_replicate] at hq
   split at hq
   ·simp only[Option.some.injEq] at hq
    subst hq
    have h1:=hgv v row hr
    refine⟨row.A,row.c,by rw[List.getElem?_map,hr];rfl,h1.1,fun hp=>h1.2 (fun h0=>?_)⟩
    have:row.l.length=0:=by rw[← bB,h0];rfl
    omega
   ·cases hq
  ·rw[hs0,hPn]
   refine⟨by simp,fun w row hr=>?_⟩
   rw[List.getElem?_replicate] at hr
   split at hr
   ·simp only[Option.some.injEq] at hr
    subst hr
    exact⟨[],rfl,List.nodup_nil,fun v=>by simp⟩
   ·cases hr
 have hPI0:PI P.N (dz N ls) P.least rm0 (List.replicate (n+1) 0) []:=by
  have:=PI.start (N:=N) (L:=dz N ls) (least:=least) (rm:=rm0)
  rw[hn,Int.toNat_natCast] at this
  rw[hPN,hPl];exact this
 have hle':1≤P.least:=by rw[hPl];exact hle
 rw[← hPp]
 refine ad (aa ?_)
 refine ak (gs:=[999]) rfl ?_
 refine ao [] (yZ hP hle' s0 hI0 hPI0 (fun _ _ _ h=>(by cases h)) (f:=f) (by rw[hPN];exact hW) (by rw[hPN];exact hrm0)) rfl rfl rfl rfl (by kernel_rfl) aK.refl ⟨⟨0,_,by simp,rfl,aq _ _ _,ay⟩,trivial⟩ (fun _=>rfl) ?_
 rintro _ H' ⟨t,rfl,hTR,hIt,hft,hte,hwt,hct⟩
 refine⟨cR rfl (cJ _ _),?_⟩
 refine ai ?_
 refine ad (aa ?_)
 refine ak (gs:=[999]) rfl ?_
 refine ao [] (wD hP t.s hIt) rfl rfl rfl rfl (by kernel_rfl) aK.refl ⟨⟨0,_,by simp,rfl,aq _ _ _,ay⟩,trivial⟩ (fun _=>rfl) ?_
 rintro _ H' ⟨par3,val3,s3,rfl,hta3,hnone,hw3,hc3⟩
 refine⟨cR rfl (cJ _ _),?_⟩
 refine ai ?_
 refine bA (K:=P.fo s3.fs++[P.pc s3.k s3.w,P.rc s3.rm,.own (.slice A1 (2*N.arcs.length) c1) 2 1 (2*N.arcs.length) (ap rm0),.seg bf of (ap f)]) (by
  refine aK.trans (aK.swap (A:=P.fo s3.fs++[P.pc s3.k s3.w,P.rc s3.rm,P.lc s3.vals,P.uc s3.un]) (R:=P.rows s3.un) (B:=[P.sg,.own (.slice A1 (2*N.arcs.length) c1) 2 1 (2*N.arcs.length) (ap rm0),.seg bf of (ap f)])) ?_
  refine aK.trans (aK.re [0,1,2,3,4,5,9,10] rfl (by decide)) (aK.sub (List.sublist_append_left _ _))) ?_
 refine ad (aa ?_)
 refine ak (gs:=[999]) rfl ?_
 refine ax [] (jl F cf bf of f hF (by omega)) rfl rfl rfl rfl (by kernel_rfl) ⟨⟨7,_,by simp,rfl,aq _ _ _,ay⟩,trivial⟩ (fun _=>rfl) ?_
 rintro _ H' ⟨Ao,co2,rfl,rfl⟩
 refine⟨rfl,?_⟩
 refine ae [] rfl ?_
 refine ad (ad (aa (ae [] rfl ?_)))
 rw[hPN,hPl] at hTR
 have hcl:(bJ N (aM (N.arcs.zip f)) least lv (2*N.arcs.length)).length≤_:=gQ N _ least lv _
 obtain⟨hcnt,hsame,_⟩:=hTR.count hR hG hle (ls:=ls) (fun v r=>eI) hW hrm0
 have hcnt2:kD ls least rm0≤ls.length:=List.length_filter_le _ _
 rw[hPN] at hft hte
 have hflip:∀ r∈ls,bi r∉ls:=by
  intro r hr hfr
  rw[hls] at hr hfr
  have h1:=(dw.1 hr).2.2.2
  have h2:=(dw.1 hfr).2.2.2
  rw[f0,eJ] at h2
  omega
 have hin:∀ r∈ls,s3.rm.getD r 0=(aM (N.arcs.zip t.f)).getD r 0:=by
  intro r hr
  rw[← hte]
  refine hta3.lead (cU N r) r (eI.2 ⟨hr,rfl⟩) fun q hq _=>absurd (hnone _ ?_) hq
  have:=i7 hR (hlsm r hr)
  rw[hPn];omega
 have hout:∀ r,r∉ls→s3.rm.getD r 0=(aM (N.arcs.zip f)).getD r 0:=by
  intro r hr
  rw[← hrm0]
  exact hta3.rest r fun v hv=>hr (eI.1 hv).1
 have hsame':∀ r,r∉ls→bi r∉ls→(aM (N.arcs.zip t.f)).getD r 0=(aM (N.arcs.zip f)).getD r 0:=by
  intro r h1 h2
  rw[← hte,← hrm0]
  exact hsame r h1 h2
 have hrl3:s3.rm.length=2*N.arcs.length:=by have:=hta3.rml;rw[hPN] at this;exact this
 have htfl:=hft.len
 have hPrc:P.rc s3.rm=.own (.slice P.Ar (2*N.arcs.length) P.cr) 2 1 (2*N.arcs.length) (ap s3.rm):=by
  show aO.own (.slice P.Ar (2*P.N.arcs.length) P.cr) _ _ _ _=_
  rw[hPN]
 have hA1y:0<N.arcs.length→A1=some ⟨gr,0,none⟩:=fun h=>hA1' (by intro h0;rw[h0] at hrl0;simp at hrl0;omega)
 obtain⟨m,hm⟩:∃ m,m=N.arcs.length:=⟨_,rfl⟩
 have hfm:f.length=m:=by omega
 rw[hfm]
 refine bA (K:=P.fo s3.fs++[P.pc s3.k s3.w,P.rc s3.rm,.own (.slice A1 (2*N.arcs.length) c1) 2 1 (2*N.arcs.length) (ap rm0),.own (.slice Ao m co2) 2 1 m (ap (iH f t.f ls m 0))]) (by
  rw[← hfm,rz]
  exact aK.re (A:=[.own (.slice Ao f.length co2) 2 1 f.length (ap f)]++(P.fo s3.fs++[P.pc s3.k s3.w,P.rc s3.rm,.own (.slice A1 (2*N.arcs.length) c1) 2 1 (2*N.arcs.length) (ap rm0),.seg bf of (ap f)])) (R:=[]) [1,2,3,4,5,6,7,0] rfl (by decide)) ?_
 refine au ?_
 refine cN (σ:=Nat) (fun k=>[(48,.int .i64 (k:Int)),(47,.int .i64 ((2*N.arcs.length:Nat):Int)),(46,.slice A1 (2*N.arcs.length) c1),(15,.slice Ao m co2),(14,.pointer (some ⟨P.pe,0,none⟩)),(12,.slice A1 (2*N.arcs.length) c1)])
  (fun k=>P.fo s3.fs++[P.pc (s3.k+k) s3.w,P.rc s3.rm,.own (.slice A1 (2*N.arcs.length) c1) 2 1 (2*N.arcs.length) (ap rm0),.own (.slice Ao m co2) 2 1 m (ap (iH f t.f ls m k))])
  (fun k=>k≤2*N.arcs.length) (fun k=>2*N.arcs.length-k) 0 ⟨rfl,rfl,rfl,rfl,rfl,rfl,trivial⟩ aK.refl (Nat.zero_le _) ?_
 intro k hk
 refine ad (aa (ae [] rfl ?_))
 refine ad ?_
 refine aC rfl (fun hlt=>av ?_) (fun hge=>aV ?_)
 ·have hk2:k<2*N.arcs.length:=by omega
  have hkm:k/2<m:=by omega
  obtain rfl:=hA1y (by omega)
  have hAr:=hP.room (r:=k) (by rw[hPN];exact hk2)
  have hr0:(ap rm0)[k]?=some (.int .i64 (rm0.getD k 0)):=b8 (by rw[List.getD_eq_getElem?_getD,List.getElem?_eq_getElem (by omega)];rfl)
  have hr3:(ap s3.rm)[k]?=some (.int .i64 (s3.rm.getD k 0)):=b8 (by rw[List.getD_eq_getElem?_getD,List.getElem?_eq_getElem (by omega)];rfl)
  have b0:=dX hR hW.toRanged k
  have b1:=dX hR hft.toRanged k
  rw[← hrm0] at b0
  have b3:0≤s3.rm.getD k 0∧s3.rm.getD k 0≤4611686018427387903:=by
   by_cases e:k∈ls
   ·rw[hin k e];exact b1
   ·rw[hout k e,← hrm0];exact b0
  obtain⟨st0,st1⟩:=ui hW.len htfl hin hout hsame' hflip hk2
  rw[← hrm0] at st0 st1
  have o0:=sW hR hW.toRanged hft.toRanged (ls:=ls) (k:=k) (i:=k/2) (by omega)
  have o1:=sW hR hW.toRanged hft.toRanged (ls:=ls) (k:=k+1) (i:=k/2) (by omega)
  refine bO (bh 7 rfl) fun ⟨_,_,hAo,_⟩=>?_
  obtain⟨go2,rfl⟩:=hAo (by omega)
  refine ad (au ?_)
  refine ad (aa (ae [] rfl ?_))
  refine ad (aa ?_)
  refine ak (gs:=[999]) rfl ?_
  refine bY (aK.re (A:=P.fo s3.fs++[P.pc (s3.k+k) s3.w,P.rc s3.rm,.own (.slice (some ⟨gr,0,none⟩) (2*N.arcs.length) c1) 2 1 (2*N.arcs.length) (ap rm0),.own (.slice (some ⟨go2,0,none⟩) m co2) 2 1 m (ap (iH f t.f ls m k))]) (R:=[]) [4,0,1,2,3,5,6,7] rfl (by decide)) ?_
  refine ao [999] (ir P (s3.k+k) s3.w) rfl rfl rfl rfl (by kernel_rfl) aK.refl trivial (fun _=>rfl) ?_
  rintro v0 H' rfl
  refine⟨rfl,?_⟩
  refine bY (aK.re (A:=[P.pc (s3.k+k+1) s3.w]++(P.fo s3.fs++[P.rc s3.rm,.own (.slice (some ⟨gr,0,none⟩) (2*N.arcs.length) c1) 2 1 (2*N.arcs.length) (ap rm0),.own (.slice (some ⟨go2,0,none⟩) m co2) 2 1 m (ap (iH f t.f ls m k))])) (R:=[]) [1,2,3,4,0,5,6,7] rfl (by decide)) ?_
  refine ai ?_
  refine ad ?_
  refine bp 13 [(0,true),(1,true),(2,true),(3,true),(4,true),(5,true),(6,true),(7,true),(8,true),(9,true),(10,true),(11,true),(12,true)] [4,5,6] (by kernel_rfl) (by decide) rfl ?_
  (repeat' (first
   |refine aZ (gs:=[999]) rfl rfl ?_
   |refine aj [999] rfl (af 0 rfl rfl rfl rfl) rfl ?_
   |refine aj [999] rfl (aJ rfl rfl rfl rfl rfl hk2) rfl ?_
   |refine aj [999] rfl (aD 2 rfl rfl rfl hr0) rfl ?_
   |refine aj [999] rfl (aJ (b:=P.gr) (n:=2*P.N.arcs.length) (c:=P.cr) rfl (congrArg (fun A=>some (Value.slice A (2*P.N.arcs.length) P.cr)) hAr) rfl rfl rfl (by rw[hPN];exact hk2)) rfl ?_
   |refine aj [999] rfl (aD (g:=P.gr) (n:=2*P.N.arcs.length) (cap:=P.cr) 1 rfl rfl (congrArg (fun A=>some (aO.own (.slice A (2*P.N.arcs.length) P.cr) 2 1 (2*P.N.arcs.length) (ap s3.rm))) hAr) hr3) rfl ?_))
  refine bv ?_
  refine ai ?_
  refine aP 17 (v':=.int .i64 (rm0.getD k 0-s3.rm.getD k 0)) rfl (congrArg (Value.int .i64) (bU (by omega))) ?_
  refine ad (aa (ae [] rfl ?_))
  have hand:IntKind.i64.wrap ((BitVec.ofInt IntKind.i64.bits (k:Int)&&& BitVec.ofInt IntKind.i64.bits 1).toNat:Int)=(k:Int)%2:=sp k
  have hq:∀ x:Int,x=((k:Int)).tdiv 2→IntKind.i64.wrap x=((k/2:Nat):Int):=by
   intro x hx
   rw[hx,Int.tdiv_eq_ediv_of_nonneg (by omega),bU (by omega)];omega
  have hget:=i5 (f:=f) (f':=t.f) (ls:=ls) (k:=k) hkm
  have hgi:(ap (iH f t.f ls m k))[k/2]?=some (.int .i64 (ga f t.f ls k (k/2))):=b8 hget
  refine aC rfl (fun heq=>?_) (fun hne=>?_)
  ·rw[hand] at heq
   have hst:=st0 (by omega)
   refine aa ?_
   refine ak (gs:=[999]) rfl ?_
   refine ak (gs:=[999]) rfl ?_
   refine ak (gs:=[999]) rfl ?_
   refine aw 70 (v':=.int .i64 ((k/2:Nat):Int)) rfl (congrArg (Value.int .i64) (hq _ rfl)) ?_
   refine ab [] (aJ rfl rfl rfl rfl rfl hkm) rfl ?_
   refine ab [] (aD 7 rfl rfl rfl hgi) rfl ?_
   refine ak (gs:=[999]) rfl ?_
   refine ak (gs:=[999]) rfl ?_
   refine aw 74 (v':=.int .i64 (ga f t.f ls (k+1) (k/2))) rfl (congrArg (Value.int .i64) ((bU (by omega)).trans hst)) ?_
   refine ab [] (aJ rfl rfl rfl rfl rfl hkm) rfl ?_
   refine aQ 7 rfl rfl rfl rfl (dk rfl rfl rfl (by rw[bB,dj];exact hkm)) [] rfl ?_
   rw[show (ap (iH f t.f ls m k)).set (k/2) (.int .i64 (ga f t.f ls (k+1) (k/2)))=ap ((iH f t.f ls m k).set (k/2) (ga f t.f ls (k+1) (k/2))) from by simp[ap],pN (by omega) rfl]
   refine ai ?_
   refine aa (ae [] rfl ?_)
   refine⟨k+1,⟨?_,rfl,rfl,rfl,rfl,rfl,trivial⟩,aK.refl,hk2,by show 2*N.arcs.length-(k+1)<2*N.arcs.length-k;omega⟩
   show some (Value.int .i64 (IntKind.i64.wrap ((k:Int)+1)))=_
   rw[bU (by omega)];rfl
  ·rw[hand] at hne
   have hst:=st1 (by omega)
   refine aa ?_
   refine ak (gs:=[999]) rfl ?_
   refine ak (gs:=[999]) rfl ?_
   refine ak (gs:=[999]) rfl ?_
   refine aw 78 (v':=.int .i64 ((k/2:Nat):Int)) rfl (congrArg (Value.int .i64) (hq _ rfl)) ?_
   refine ab [] (aJ rfl rfl rfl rfl rfl hkm) rfl ?_
   refine ab [] (aD 7 rfl rfl rfl hgi) rfl ?_
   refine ak (gs:=[999]) rfl ?_
   refine ak (gs:=[999]) rfl ?_
   refine aw 82 (v':=.int .i64 (ga f t.f ls (k+1) (k/2))) rfl (congrArg (Value.int .i64) ((bU (by omega)).trans hst)) ?_
   refine ab [] (aJ rfl rfl rfl rfl rfl hkm) rfl ?_
   refine aQ 7 rfl rfl rfl rfl (dk rfl rfl rfl (by rw[bB,dj];exact hkm)) [] rfl ?_
   rw[show (ap (iH f t.f ls m k)).set (k/2) (.int .i64 (ga f t.f ls (k+1) (k/2)))=ap ((iH f t.f ls m k).set (k/2) (ga f t.f ls (k+1) (k/2))) from by simp[ap],pN (by omega) rfl]
   refine ai ?_
   refine aa (ae [] rfl ?_)
   refine⟨k+1,⟨?_,rfl,rfl,rfl,rfl,rfl,trivial⟩,aK.refl,hk2,by show 2*N.arcs.length-(k+1)<2*N.arcs.length-k;omega⟩
   show some (Value.int .i64 (IntKind.i64.wrap ((k:Int)+1)))=_
   rw[bU (by omega)];rfl
 ·obtain rfl:k=2*N.arcs.length:=by omega
  have hoe:iH f t.f ls m (2*N.arcs.length)=t.f:=by
   have:=wd (f:=f) (f':=t.f) (ls:=ls) (by omega)
   rw[hfm,hm] at this
   rw[hm];exact this
  rw[hoe]
  refine ad ?_
  refine bp 19 [(0,true),(1,true),(2,true),(3,true),(4,true),(5,true),(6,true),(7,true),(8,true),(9,true),(10,true),(11,true),(12,true),(13,false),(14,true),(15,true),(16,true),(17,true),(18,true)] [4] (by kernel_rfl) (by decide) rfl ?_
  (repeat' (first
   |refine aZ (gs:=[999]) rfl rfl ?_
   |refine aj [999] rfl (af 0 rfl rfl rfl rfl) rfl ?_))
  refine a6 rfl ?_
  have hwl:cD (s3.w:Int)=(t.ws.length:Int):=by
   have:s0.w=0:=by rw[hs0]
   exact (bU (by omega)).trans (by omega)
  obtain⟨K,hK⟩:∃ K,K=s3.k+2*N.arcs.length+s3.fs.k:=⟨_,rfl⟩
  have hKB:K≤fw n N.arcs.length:=by
   have e1:s3.cost=s3.k+s3.fs.k:=rfl
   have e2:s0.cost=ls.length:=by rw[hs0];rfl
   rw[hPn] at hct hc3
   have e3:bT (dz N ls) n (List.replicate (n+1) 0)≤ls.length:=tG N ls n
   have e4:cS n*bT (dz N ls) n (List.replicate (n+1) 0)≤cS n*N.arcs.length:=Nat.mul_le_mul_left _ (by omega)
   have e5:cX n*fD t.par n≤cX n*(n+1):=Nat.mul_le_mul_left _ (m7 _ _)
   unfold fw
   rw[Nat.add_mul]
   omega
  have hKs:K<9000000000000000000:=by
   have h1:n≤500:=by omega
   have h2:cG (n+1)≤3000000:=by
    unfold cG
    have:(n+1)*(n+1)≤501*501:=Nat.mul_le_mul (by omega) (by omega)
    first|omega|(rw[Nat.mul_assoc];omega)|grind
   have h3:(cS n+3)*N.arcs.length≤46000000*2000:=Nat.mul_le_mul (by unfold cS;omega) hl2
   have h4:cX n*(n+1)≤16000000*501:=Nat.mul_le_mul (by unfold cX;omega) (by omega)
   have h5:(2*cG (n+1)+11*(n+1)+1)*(n+1)≤7000000*501:=Nat.mul_le_mul (by omega) (by omega)
   unfold fw at hKB
   omega
  refine ao [] (tK s3.fs) rfl rfl rfl rfl (by kernel_rfl) aK.refl trivial (fun _=>rfl) ?_
  rintro _ H' ⟨rfl,rfl⟩
  refine⟨rfl,ai ⟨⟨[4],by decide,rfl⟩,?_⟩⟩
  refine aZ (gs:=[999]) rfl rfl ?_
  refine cE 99 (v':=.int .i64 (K:Int)) rfl (congrArg (Value.int .i64) ?_) ?_
  ·show cD (cD ((s3.k+2*N.arcs.length:Nat):Int)+cD (s3.fs.k:Int))=K
   have h1:cD (s3.fs.k:Int)=(s3.fs.k:Int):=bU (by omega)
   have h2:cD ((s3.k+2*N.arcs.length:Nat):Int)=((s3.k+2*N.arcs.length:Nat):Int):=bU (by omega)
   rw[h1,h2]
   exact (bU (by omega)).trans (by omega)
  refine cE 89 (v':=.int .i64 (t.ws.length:Int)) rfl (congrArg (Value.int .i64) hwl) ?_
  (repeat' (refine aZ (gs:=[999]) rfl rfl ?_))
  refine bv ?_
  refine ai ?_
  have hBl:=hTR.bl hR hG hle hW hrm0 (pos:=List.replicate (n+1) 0) (W:=[]) (by rw[hPN,hPl] at hPI0;exact hPI0)
  have hnt:N.nodes.toNat=n:=by omega
  refine aE [7] (by decide) rfl (aB ⟨_,rfl,.inl ⟨hW,hle,t.f,t.ws,K,Ao,co2,⟨lv,hlv,hft,?_⟩,by omega,by rw[hnt];exact hKB,by omega,rfl,rfl⟩⟩)
  rw[hnt,← hls,← hrm0,← hte]
  exact hBl
end Go.Proofs.YtpbmihpjgjbndaaGreatDoor
