/- The engine and the words that all chapters share: several texts in one. -/
import Derived.Test.YtpbmihpjgjbndaaGreatDoorQX32
import Derived.Test.YtpbmihpjgjbndaaGreatDoorTblkN
import Derived.Test.YtpbmihpjgjbndaaGreatDoorQX43
/- Levels rise behind a flow that blocks; a flow that no track leads on is the greatest. -/
set_option linter.unusedVariables false
set_option linter.unusedSimpArgs false
namespace Go.Proofs.YtpbmihpjgjbndaaGreatDoor
open Go.RowKit
theorem kI.rise {N:a8} (hR:N.Right) {least:Int} (hle:1≤least) {f f':List Int} {ws:List (List Nat×Int)} (hf:aH N f) (h:kI N least f ws f') {lv lv':List Int} (hlv:dr N (aM (N.arcs.zip f)) least lv) (hlv':dr N (aM (N.arcs.zip f')) least lv') (hs:0≤bZ lv' N.snk.toNat):
 0≤bZ lv N.snk.toNat∧bZ lv N.snk.toNat<bZ lv' N.snk.toNat:=by
 obtain⟨lv0,h1,h2,h3⟩:=h
 obtain rfl:=yC h1 hlv
 have hG:=fE h1
 obtain⟨f2,k1,k2,_,k4,_,k6⟩:=h3.keeps hR hG hle f hf rfl PI.start
 have hfl:=hf.len
 have key:∀ (k v:Nat),bZ lv' v=k→0≤bZ lv0 v∧bZ lv0 v≤k∧(bZ lv0 v=k→LP N (dz N (bJ N (aM (N.arcs.zip f)) least lv0 (2*N.arcs.length))) least (aM (N.arcs.zip f')) v):=by
  intro k
  induction k with
  |zero=>
   intro v hv
   have:=hlv'.zero v (by simpa using hv)
   subst this
   rw[h1.src]
   exact⟨Int.le_refl _,Int.le_refl _,fun _=>.src⟩
  |succ k ih=>
   intro v hv
   obtain⟨r,hr,hl,hto,hfr⟩:=hlv'.back v (by omega)
   obtain⟨i1,i2,i3⟩:=ih (cU N r) (by omega)
   by_cases hb:least≤(aM (N.arcs.zip f)).getD r 0
   ·have hst:=h1.step r hr hb i1
    rw[hto] at hst
    refine⟨hst.1,by omega,fun he=>?_⟩
    have e1:bZ lv0 (cU N r)=k:=by omega
    have hp:=i3 e1
    have hrl:r∈bJ N (aM (N.arcs.zip f)) least lv0 (2*N.arcs.length):=dw.2 ⟨hr,hb,by omega,by rw[hto];omega⟩
    have:=LP.step (r:=r) hp (eI.2 ⟨hrl,rfl⟩) hl
    rwa [hto] at this
   ·have hup:=k6 r hr (by omega)
    have hld:=(dw.1 (eI.1 hup).1)
    have e1:=hld.2.2.2
    have e2:=hld.2.2.1
    rw[f0,eJ,hto] at e1
    rw[eJ,hto] at e2
    have:=h1.rng v
    exact⟨by omega,by omega,fun he=>by omega⟩
 obtain⟨d,hd⟩:∃ d:Nat,bZ lv' N.snk.toNat=d:=⟨(bZ lv' N.snk.toNat).toNat,by omega⟩
 obtain⟨j1,j2,j3⟩:=key d _ hd
 refine⟨j1,?_⟩
 rcases Int.lt_or_eq_of_le j2 with h|h
 ·omega
 ·exact absurd rfl (k4 _ (j3 h))
end Go.Proofs.YtpbmihpjgjbndaaGreatDoor
/- Phases by trees. -/
set_option linter.unusedVariables false
set_option linter.unusedSimpArgs false
namespace Go.Proofs.YtpbmihpjgjbndaaGreatDoor
open Go.RowKit
theorem ri (N:a8) (hN:N.Fits) (hR:N.Right) (A:Option Addr) (c b o:Nat) (hA:N.arcs≠[]→A=some ⟨b,o,none⟩) (f:List Int) (hf:aH N f) (F:Option Addr) (cf bf of:Nat) (hF:f≠[]→F=some ⟨bf,of,none⟩) (least:Int) (hle:1≤least) (hlb:bN least):
 Fn 244 [.agg #[],bu N A c,.slice F f.length cf,.int .i64 least] [] [.seg b o (arcs N.arcs),.seg bf of (ap f)] fun v H'=>∃ (f':List Int) (ws:List (List Nat×Int)) (Ao:Option Addr) (co k:Nat),kI N least f ws f'∧2*N.arcs.length≤k∧k≤fw N.nodes.toNat N.arcs.length∧
  v=.tuple #[.slice Ao f.length co,.int .i64 (ws.length:Int),.int .i64 (k:Int)]∧H'=[.own (.slice Ao f.length co) 2 1 f.length (ap f')]:=by
 have hl:=hf.len
 have hl2:=hR.len
 refine aS Tryz.func244 rfl rfl fun w0=>?_
 refine ad (aa ?_)
 refine bw (cs:=[]) rfl rfl rfl (fun _=>rfl) fun p0=>?_
 refine bw (cs:=bG N A c) rfl rfl rfl (fun _=>rfl) fun p=>?_
 refine ae [] rfl ?_
 refine ad (aa ?_)
 refine ab [] (v:=bu N A c) (af 0 rfl rfl rfl rfl) rfl ?_
 refine ah [] rfl ?_
 refine ax [] (uN N hN hR A c b o hA f F cf bf of hF (aH.inB hR hf.toRanged) (by omega) least hlb) rfl rfl rfl rfl (by kernel_rfl) ⟨⟨2,_,by simp,rfl,aq _ _ _,ay⟩,⟨3,_,by simp,rfl,aq _ _ _,ay⟩,trivial⟩ (fun _=>rfl) ?_
 rintro v H' (⟨_,_,f',ws,k,Ao,co,hb,hk1,hk2,_,rfl,rfl⟩|⟨hW,_,_⟩|⟨_,hlt,_,_⟩)
 case inr.inl=>exact absurd hf hW
 case inr.inr=>omega
 refine⟨rfl,?_⟩
 refine ae [] rfl ?_
 refine ad (aa (ae [] rfl ?_))
 exact aE [0] (by decide) rfl (aB ⟨_,rfl,f',ws,Ao,co,k,hb,hk1,hk2,rfl,rfl⟩)
theorem rL:Fn 81 [.int .u8 116] [] [] fun v H'=>v=.iface 190 (.agg #[])∧H'=[]:=by
 refine aS Tryz.func81 rfl rfl fun w0=>?_
 refine ad (aa (ae [] rfl ?_))
 refine ad (ad (aa (ae [] rfl ?_)))
 refine au (ad (aa (ae [] rfl ?_)))
 refine aC rfl (fun h=>absurd h (by decide)) (fun _=>?_)
 refine ad (aa (ae [] rfl ?_))
 refine aC rfl (fun _=>?_) (fun h=>absurd rfl h)
 refine ad (aa (ah [] rfl ?_))
 refine ab [] (cj rfl rfl rfl rfl rfl rfl) rfl ?_
 refine ae [] rfl ?_
 exact aB ⟨_,rfl,rfl,rfl⟩
theorem qa {n m:Nat} (h1:n≤500) (hl2:m≤2000):fw n m≤200000000000:=by
 have h2:cG (n+1)≤3000000:=by
  unfold cG
  have:(n+1)*(n+1)≤501*501:=Nat.mul_le_mul (by omega) (by omega)
  omega
 have h3:(cS n+3)*m≤46000000*2000:=Nat.mul_le_mul (by unfold cS;omega) hl2
 have h4:cX n*(n+1)≤16000000*501:=Nat.mul_le_mul (by unfold cX;omega) (by omega)
 have h5:(2*cG (n+1)+11*(n+1)+1)*(n+1)≤7000000*501:=Nat.mul_le_mul (by omega) (by omega)
 unfold fw
 omega
structure FT where
 f:List Int
 A:Option Addr
 c:Nat
 p:Nat
 k:Nat
 s:Nat
 lv:List Int
set_option maxHeartbeats 1000000 in
theorem wS (N:a8) (hN:N.Fits) (hR:N.Right) (A:Option Addr) (c b o:Nat) (hA:N.arcs≠[]→A=some ⟨b,o,none⟩) (f:List Int) (hf:aH N f) (F:Option Addr) (cf bf of:Nat) (hF:f≠[]→F=some ⟨bf,of,none⟩) (least:Int) (hle:1≤least) (hlb:bN least):
 Fn 47 [bu N A c,.slice F f.length cf,.int .i64 least,.int .u8 116] [] [.seg b o (arcs N.arcs),.seg bf of (ap f)] fun v H'=>∃ (f':List Int) (p k s:Nat) (A':Option Addr) (c':Nat),Dn N least f p k f'∧(k:Int)≤9223372036854775806∧(p:Int)+1≤N.nodes∧2*N.arcs.length*p≤s∧s≤fw N.nodes.toNat N.arcs.length*p∧
  v=.tuple #[rk A' f'.length c' p k s,.int .i64 0]∧H'=[.own (.slice A' f'.length c') 2 1 f'.length (ap f')]:=by
 have hl:=hf.len
 have hl2:=hR.len
 refine kV Tryz.func47 rfl rfl fun w0=>?_
 refine ad (aa ?_)
 refine bw (cs:=bG N A c) rfl rfl rfl (fun _=>rfl) fun p4=>?_
 refine ci rfl rfl rfl (fun _=>rfl) fun p8=>?_
 refine ae [] rfl ?_
 refine ad (aa ?_)
 refine ab [] (v:=bu N A c) (af 1 rfl rfl rfl rfl) rfl ?_
 refine ah [] rfl ?_
 refine ax [] (l7 N hN hR A c b o hA f F cf bf of hF (aH.inB hR hf.toRanged) (by omega) least) rfl rfl rfl rfl (by kernel_rfl) ⟨⟨2,_,by simp,rfl,aq _ _ _,ay⟩,⟨3,_,by simp,rfl,aq _ _ _,ay⟩,trivial⟩ (fun _=>rfl) ?_
 rintro v H' (⟨_,_,lv,hlv,rfl,rfl⟩|⟨hW,_,_⟩|⟨_,hlt,_,_⟩)
 case inr.inl=>exact absurd hf hW
 case inr.inr=>omega
 refine⟨rfl,?_⟩
 refine ae [] rfl ?_
 refine ad (ad (aa (ae [] rfl ?_)))
 refine aC rfl (fun h=>absurd rfl h) (fun _=>av ?_)
 refine ad (aa (ah [] rfl ?_))
 refine ax [] (rL) rfl rfl rfl rfl (by kernel_rfl) trivial (fun _=>rfl) ?_
 rintro v H' ⟨rfl,rfl⟩
 refine⟨rfl,?_⟩
 refine ae [] rfl ?_
 refine ad (ad (aa (ae [] rfl ?_)))
 refine bI rfl (av ?_)
 refine ad (aa (ah [] rfl ?_))
 refine ax [] (jl F cf bf of f hF (by omega)) rfl rfl rfl rfl (by kernel_rfl) ⟨⟨3,_,by simp,rfl,aq _ _ _,ay⟩,trivial⟩ (fun _=>rfl) ?_
 rintro v H' ⟨A0,c0,rfl,rfl⟩
 refine⟨rfl,?_⟩
 refine ab [] (cj rfl rfl rfl rfl rfl rfl) rfl ?_
 refine ci rfl rfl rfl (fun _=>rfl) fun p13=>?_
 refine aX 0 rfl rfl rfl rfl rfl [] rfl ?_
 refine ai ?_
 refine ad (au ?_)
 have hvb:=dm hR hf.toRanged N.snk
 have hnn:=hR.nodes
 have hsr:=hR.src
 have hsk:=hR.snk
 have hdf:=hR.diff
 have hcB:=qa (n:=N.nodes.toNat) (m:=N.arcs.length) (by omega) hl2
 have hlv0:0≤bZ lv N.snk.toNat→((0:Nat):Int)+1≤bZ lv N.snk.toNat:=by
  intro h
  rcases Int.lt_or_eq_of_le h with h|h
  ·omega
  ·have:=hlv.zero _ h.symm
   omega
 refine bq (σ:=FT) (fun s=>[(10,.int .i64 (bZ s.lv N.snk.toNat)),(12,.iface 190 (.agg #[])),(13,.pointer (some ⟨p13,0,none⟩)),(8,.pointer (some ⟨p8,0,none⟩)),(4,.pointer (some ⟨p4,0,none⟩)),(2,.int .i64 least)])
  (fun s=>[blk p13 31 [.slice s.A s.f.length s.c,.int .i64 (s.p:Int),.int .i64 (s.k:Int),.int .i64 (s.s:Int)],.own (.slice s.A s.f.length s.c) 2 1 s.f.length (ap s.f),blk p8 31 [.slice none 0 0,.int .i64 0,.int .i64 0,.int .i64 0],blk p4 27 (bG N A c),.seg b o (arcs N.arcs)])
  (fun s=>(s.p:Int)+1≤N.nodes∧(0≤bZ s.lv N.snk.toNat→(s.p:Int)+1≤bZ s.lv N.snk.toNat)∧2*N.arcs.length*s.p≤s.s∧s.s≤fw N.nodes.toNat N.arcs.length*s.p∧aH N s.f∧dr N (aM (N.arcs.zip s.f)) least s.lv∧s.p≤s.k∧cY (N.arcs.zip f) N.snk+s.k≤cY (N.arcs.zip s.f) N.snk∧∀ p k f',Dn N least s.f p k f'→Dn N least f (s.p+p) (s.k+k) f')
  (fun s=>(4611686018427387903-cY (N.arcs.zip s.f) N.snk).toNat) ⟨f,A0,c0,0,0,0,lv⟩ [0,1,2,3,4] ⟨rfl,rfl,rfl,rfl,rfl,rfl,trivial⟩ (by decide) rfl ⟨by show ((0:Nat):Int)+1≤_;omega,hlv0,by simp,by simp,hf,hlv,Nat.le_refl _,by simp,fun p k f' h=>by simpa using h⟩ ?_
 rintro⟨fc,Ac,cc,p,k,s,lvc⟩ ⟨hpn,hpl,hs1,hs2,hfc,hlvc,hpk,hval,hX⟩
 simp only at hpn hpl hs1 hs2 hfc hlvc hpk hval hX ⊢
 have hvc:=dm hR hfc.toRanged N.snk
 have hfcl:=hfc.len
 refine ad (ad (aa (ae [] rfl ?_)))
 refine aC rfl (fun hge=>av ?_) (fun hlt=>aV ?_)
 ·refine au ?_
  refine bO (bh 1 rfl) fun ⟨_,_,hAc,hlAc⟩=>?_
  obtain⟨gc,hAc⟩:=cB hAc hlAc
  refine ad (aa (ah [] rfl ?_))
  refine ab [] (v:=bu N A c) (af 3 rfl rfl rfl rfl) rfl ?_
  refine ah [] rfl ?_
  refine ab [] (af (v:=.slice Ac fc.length cc) 0 rfl rfl rfl rfl) rfl ?_
  refine ah [] rfl ?_
  refine oB [] (ri N hN hR A c b o hA fc hfc Ac cc gc 0 (fun h=>hAc (by simpa [ap] using h)) least hle hlb) rfl rfl rfl rfl (by kernel_rfl) rfl (by kernel_rfl) ⟨⟨4,_,by simp,rfl,aq _ _ _,ay⟩,⟨1,_,by simp,rfl,aY hAc,a7 hAc⟩,trivial⟩ (fun _=>rfl) ?_
  rintro v H' ⟨f1,ws,Ag,cg,st,hb,hst1,hst2,rfl,rfl⟩
  have hpB:fw N.nodes.toNat N.arcs.length*p≤200000000000*500:=Nat.mul_le_mul hcB (by omega)
  have hlr:=hlvc.rng N.snk.toNat
  have hpl2:=hpl hge
  refine⟨rfl,?_⟩
  refine eN (bh 0 rfl) fun ⟨_,_,hAg,hlAg⟩=>?_
  obtain⟨g1,hAg⟩:=cB hAg hlAg
  have hAg':f1≠[]→Ag=some ⟨g1,0,none⟩:=fun h=>hAg (by simpa [ap] using h)
  obtain⟨hf1,hv1,hw1⟩:=hb.keeps hR hle hfc hlvc
  have hwpos:=List.length_pos_iff.2 (hw1 hge)
  have hf1l:=hf1.len
  have hlen:fc.length=f1.length:=by omega
  rw[hlen]
  refine ae [] rfl ?_
  have hvc1:=dm hR hf1.toRanged N.snk
  have hlw:(ws.length:Int)≤least*ws.length:=by
   have:=Int.mul_le_mul_of_nonneg_right hle (show (0:Int)≤ws.length by omega)
   omega
  refine ad (aa (ah [] rfl ?_))
  refine ab [] (af (v:=.int .i64 p) 1 rfl rfl rfl rfl) rfl ?_
  refine ah [] rfl ?_
  refine aw 51 (v':=.int .i64 ((p+1:Nat):Int)) rfl (congrArg (Value.int .i64) (bU (by omega))) ?_
  refine ab [] (af (v:=.int .i64 k) 1 rfl rfl rfl rfl) rfl ?_
  refine ah [] rfl ?_
  refine aw 55 (v':=.int .i64 ((k+ws.length:Nat):Int)) rfl (congrArg (Value.int .i64) ((bU (by omega)).trans (by omega))) ?_
  refine ab [] (af (v:=.int .i64 s) 1 rfl rfl rfl rfl) rfl ?_
  refine ah [] rfl ?_
  refine aw 59 (v':=.int .i64 ((s+st:Nat):Int)) rfl (congrArg (Value.int .i64) ((bU (by omega)).trans (by omega))) ?_
  refine ab [] (cj rfl rfl rfl rfl rfl rfl) rfl ?_
  refine aX 1 rfl rfl rfl rfl rfl [] rfl ?_
  refine ai ?_
  refine aa ?_
  refine ab [] (v:=bu N A c) (af 4 rfl rfl rfl rfl) rfl ?_
  refine ah [] rfl ?_
  refine ax [] (l7 N hN hR A c b o hA f1 Ag cg g1 0 hAg' (aH.inB hR hf1.toRanged) (by omega) least) rfl rfl rfl rfl (by kernel_rfl) ⟨⟨5,_,by simp,rfl,aq _ _ _,ay⟩,⟨0,_,by simp,rfl,aY hAg,a7 hAg⟩,trivial⟩ (fun _=>rfl) ?_
  rintro v H' (⟨_,_,lv1,hlv1,rfl,rfl⟩|⟨hW,_,_⟩|⟨_,hlt,_,_⟩)
  case inr.inl=>exact absurd hf1 hW
  case inr.inr=>omega
  refine⟨rfl,?_⟩
  refine ae [] rfl ?_
  have hex:2*N.arcs.length*(p+1)=2*N.arcs.length*p+2*N.arcs.length:=by rw[Nat.mul_add,Nat.mul_one]
  have hey:fw N.nodes.toNat N.arcs.length*(p+1)=fw N.nodes.toNat N.arcs.length*p+fw N.nodes.toNat N.arcs.length:=by rw[Nat.mul_add,Nat.mul_one]
  refine⟨⟨f1,Ag,cg,p+1,k+ws.length,s+st,lv1⟩,[1,0,3,4,5],⟨rfl,rfl,rfl,rfl,rfl,rfl,trivial⟩,by decide,rfl,⟨by show ((p+1:Nat):Int)+1≤N.nodes;omega,fun h=>(by have:=(hb.rise hR hle hfc hlvc hlv1 h).2;show ((p+1:Nat):Int)+1≤bZ lv1 N.snk.toNat;omega),by show 2*N.arcs.length*(p+1)≤s+st;rw[hex];exact Nat.add_le_add hs1 hst1,by show s+st≤fw N.nodes.toNat N.arcs.length*(p+1);rw[hey];exact Nat.add_le_add hs2 hst2,hf1,hlv1,by simp only;omega,by simp only;omega,fun p' k' f' h=>?_⟩,by simp only;omega⟩
  have:=hX _ _ _ (.step hlvc hge hb h)
  simp only
  rw[show p+1+p'=p+(p'+1) by omega,show k+ws.length+k'=k+(ws.length+k') by omega]
  exact this
 ·have hdn:=hX _ _ _ (.stop hlvc (by omega))
  rw[Nat.add_zero,Nat.add_zero] at hdn
  refine ad (aa ?_)
  refine ab [] (v:=rk Ac fc.length cc p k s) (af 0 rfl rfl rfl rfl) rfl ?_
  refine ah [] rfl ?_
  refine aX 2 rfl rfl rfl rfl rfl [] rfl ?_
  refine ae [] rfl ?_
  refine aB ?_
  exact⟨[_,_],[1],_,⟨⟨p8,2,_,_,rfl,rfl,rfl⟩,rfl,trivial⟩,by decide,rfl,fc,p,k,s,Ac,cc,hdn,by omega,hpn,hs1,hs2,rfl,rfl⟩
theorem x6 (N:a8) (hN:N.Fits) (hR:N.Right) (A:Option Addr) (c b o:Nat) (hA:N.arcs≠[]→A=some ⟨b,o,none⟩):
 Fn 12 [bu N A c,.int .u8 116] [] [.seg b o (arcs N.arcs)] fun v H'=>∃ (f':List Int) (p k s:Nat) (A':Option Addr) (c':Nat),Dn N 1 (List.replicate N.arcs.length 0) p k f'∧(k:Int)≤9223372036854775806∧(p:Int)+1≤N.nodes∧2*N.arcs.length*p≤s∧s≤fw N.nodes.toNat N.arcs.length*p∧
  v=.tuple #[rk A' f'.length c' p k s,.int .i64 0]∧H'=[.own (.slice A' f'.length c') 2 1 f'.length (ap f')]:=by
 have hl2:=hR.len
 refine kV Tryz.func12 rfl rfl fun w0=>?_
 refine ad (aa ?_)
 refine bw (cs:=bG N A c) rfl rfl rfl (fun _=>rfl) fun p2=>?_
 refine ci rfl rfl rfl (fun _=>rfl) fun p4=>?_
 refine ae [] rfl ?_
 refine ad ?_
 refine bp 9 [(0,true),(1,true),(2,true),(3,true),(5,true),(4,false),(6,false),(7,true),(8,true)] [1,2] (by kernel_rfl) (by decide) rfl ?_
 refine aj [] rfl (af (v:=bu N A c) 0 rfl rfl rfl rfl) rfl ?_
 refine aF [] rfl ?_
 (first|refine aj [] rfl (af 0 rfl rfl rfl rfl) rfl ?_|refine aj [] rfl (af 1 rfl rfl rfl rfl) rfl ?_|refine aj [] rfl (af 2 rfl rfl rfl rfl) rfl ?_|refine aj [] rfl (af 3 rfl rfl rfl rfl) rfl ?_|refine aj [] rfl (af 4 rfl rfl rfl rfl) rfl ?_|refine aj [] rfl (af 5 rfl rfl rfl rfl) rfl ?_)
 refine aF [] rfl ?_
 refine a6 rfl ?_
 refine dv (n:=N.arcs.length) (c:=N.arcs.length) rfl rfl rfl rfl rfl rfl (by omega) (by omega) (by omega) (fun _=>rfl) fun g=>?_
 refine ai ⟨⟨[2,3],by decide,rfl⟩,?_⟩
 rw[show made [Value.int .i64 0] (N.arcs.length*1)=ap (List.replicate N.arcs.length 0) by rw[dn,Nat.mul_one];simp[ap]]
 refine a6 rfl ?_
 refine ax [] (wS N hN hR A c b o hA (List.replicate N.arcs.length 0) (g9 N hR) (some ⟨g,0,none⟩) N.arcs.length g 0 (fun _=>rfl) 1 (by decide) (by decide)) rfl rfl rfl (by rw[List.length_replicate];rfl) (by kernel_rfl) ⟨⟨3,_,by simp,rfl,aq _ _ _,ay⟩,⟨0,_,by simp,rfl,bX,a7 (fun _=>rfl)⟩,trivial⟩ (fun _=>rfl) ?_
 rintro v H' ⟨f',p,k,s,A',c',hd,hk,hp1,hs1,hs2,rfl,rfl⟩
 refine⟨rfl,ai ⟨⟨[3,4],by decide,rfl⟩,?_⟩⟩
 refine dW [] rfl ?_
 refine aX 2 rfl rfl rfl rfl rfl [] rfl ?_
 refine ae [] rfl ?_
 refine aB ?_
 exact⟨[_,_],[0],_,⟨⟨p4,2,_,_,rfl,rfl,rfl⟩,rfl,trivial⟩,by decide,rfl,f',p,k,s,A',c',hd,hk,hp1,hs1,hs2,rfl,rfl⟩
end Go.Proofs.YtpbmihpjgjbndaaGreatDoor
