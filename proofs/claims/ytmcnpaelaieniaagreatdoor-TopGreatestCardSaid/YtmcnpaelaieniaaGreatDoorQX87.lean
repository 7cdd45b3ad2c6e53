import Derived.Test.YtmcnpaelaieniaaGreatDoorQX105
import Derived.Test.YtmcnpaelaieniaaGreatDoorQX107
import Derived.Test.YtmcnpaelaieniaaGreatDoorQX98
/- A part of the proof; see NOTES.md. -/
set_option linter.unusedVariables false
set_option linter.unusedSimpArgs false
namespace Go.Proofs.YtmcnpaelaieniaaGreatDoor
open Go.RowKit
theorem vU(N:aU)(hN:N.Fits)(hR:N.Right)(A:OA)(c b o:Nat)(hA:N.arcs≠[]->A=some ⟨b,o,none⟩)(f:LI)(hf:aK N f)(F:OA)(cf bf of:Nat)(hF:f≠[]->F=some ⟨bf,of,none⟩)(least:Int)(hle:1<=least)(hlb:dn least):
 Fn 231 [.agg #[],bp N A c,.slice F f.length cf,.int .i64 least] [] [.seg b o (arcs N.arcs),.seg bf of (ax f)] λ v H'=>∃ (f':LI) (ws:List (LN×Int)) (Ao:OA) (co k:Nat),kh N least f ws f'/\2*N.arcs.length<=k/\k<=gO N.nodes.toNat N.arcs.length/\
  v=.tuple #[.slice Ao f.length co,.int .i64 (ws.length:Int),.int .i64 (k:Int)]/\H'=[.own (.slice Ao f.length co) 2 1 f.length (ax f')]:=by
 have hl:=hf.len;have hl2:=hR.len;refine aJ Tryz.func231 rfl rfl λ w0=>?_;refine ad (aa ?_);refine bx (cs:=[]) rfl rfl rfl (λ _=>rfl) λ p0=>?_;refine bx (cs:=bI N A c) rfl rfl rfl (λ _=>rfl) λ p=>?_;refine ae [] rfl ?_;refine ad (aa ?_);refine ab [] (v:=bp N A c) (af 0 rfl) rfl ?_;refine ah [] rfl ?_;refine ap [] (yR N hN hR A c b o hA f F cf bf of hF (aK.inB hR hf.toRanged) (by omega) least hlb) rfl (by kernel_rfl) ⟨⟨2,_,by simp,rfl,ak _ _ _,av⟩,⟨3,_,by simp,rfl,ak _ _ _,av⟩,an⟩ (λ _=>rfl) ?_;rintro v H' (⟨_,_,f',ws,k,Ao,co,hb,hk1,hk2,_,rfl,rfl⟩|⟨hW,_,_⟩|⟨_,hlt,_,_⟩)
 case inr.inl=>exact absurd hf hW
 case inr.inr=>omega
 refine⟨rfl,?_⟩;refine ae [] rfl ?_;refine ad (aa (ae [] rfl ?_));exact az [0] (by decide) rfl (ay ⟨_,rfl,f',ws,Ao,co,k,hb,hk1,hk2,rfl,rfl⟩)
theorem wn:Fn 75 [.int .u8 116] [] [] λ v H'=>v=.iface 191 (.agg #[])/\H'=[]:=by
 refine aJ Tryz.func75 rfl rfl λ w0=>?_;refine ad (aa (ae [] rfl ?_));refine ad (ad (aa (ae [] rfl ?_)));refine au (ad (aa (ae [] rfl ?_)));refine aC rfl (λ h=>absurd h (by decide)) (λ _=>?_);refine ad (aa (ae [] rfl ?_));refine aC rfl (λ _=>?_) (λ h=>absurd rfl h);refine ad (aa (ah [] rfl ?_));refine ab [] (bz rfl rfl rfl rfl rfl rfl) rfl ?_;refine ae [] rfl ?_;exact ay ⟨_,rfl,rfl,rfl⟩
theorem tO{n m:Nat}(h1:n<=500)(hl2:m<=2000):gO n m<=200000000000:=by
 have h2:dd (n+1)<=3000000:=by
  unfold dd;have:(n+1)*(n+1)<=501*501:=HX (by omega) (by omega);omega
 have h3:(dz n+3)*m<=46000000*2000:=HX (by unfold dz;omega) hl2;have h4:dH n*(n+1)<=16000000*501:=HX (by unfold dH;omega) (by omega);have h5:(2*dd (n+1)+11*(n+1)+1)*(n+1)<=7000000*501:=HX (by omega) (by omega);unfold gO;omega
structure FT where
 f:LI
 A:OA
 c:Nat
 p:Nat
 k:Nat
 s:Nat
 lv:LI
set_option maxHeartbeats 1000000 in
theorem tZ(N:aU)(hN:N.Fits)(hR:N.Right)(A:OA)(c b o:Nat)(hA:N.arcs≠[]->A=some ⟨b,o,none⟩)(f:LI)(hf:aK N f)(F:OA)(cf bf of:Nat)(hF:f≠[]->F=some ⟨bf,of,none⟩)(least:Int)(hle:1<=least)(hlb:dn least):
 Fn 38 [bp N A c,.slice F f.length cf,.int .i64 least,.int .u8 116] [] [.seg b o (arcs N.arcs),.seg bf of (ax f)] λ v H'=>∃ (f':LI) (p k s:Nat) (A':OA) (c':Nat),Dn N least f p k f'/\(k:Int)<=9223372036854775806/\(p:Int)+1<=N.nodes/\2*N.arcs.length*p<=s/\s<=gO N.nodes.toNat N.arcs.length*p/\
  v=.tuple #[uI A' f'.length c' p k s,.int .i64 0]/\H'=[.own (.slice A' f'.length c') 2 1 f'.length (ax f')]:=by
 have hl:=hf.len;have hl2:=hR.len;refine iN Tryz.func38 rfl rfl λ w0=>?_;refine ad (aa ?_);refine bx (cs:=bI N A c) rfl rfl rfl (λ _=>rfl) λ p4=>?_;refine bo rfl rfl rfl (λ _=>rfl) λ p8=>?_;refine ae [] rfl ?_;refine ad (aa ?_);refine ab [] (v:=bp N A c) (af 1 rfl) rfl ?_;refine ah [] rfl ?_;refine ap [] (oV N hN hR A c b o hA f F cf bf of hF (aK.inB hR hf.toRanged) (by omega) least) rfl (by kernel_rfl) ⟨⟨2,_,by simp,rfl,ak _ _ _,av⟩,⟨3,_,by simp,rfl,ak _ _ _,av⟩,an⟩ (λ _=>rfl) ?_;rintro v H' (⟨_,_,lv,hlv,rfl,rfl⟩|⟨hW,_,_⟩|⟨_,hlt,_,_⟩)
 case inr.inl=>exact absurd hf hW
 case inr.inr=>omega
 refine⟨rfl,?_⟩;refine ae [] rfl ?_;refine ad (ad (aa (ae [] rfl ?_)));refine aC rfl (λ h=>absurd rfl h) (λ _=>aq ?_);refine ad (aa (ah [] rfl ?_));refine ap [] (wn) rfl (by kernel_rfl) an (λ _=>rfl) ?_;rintro v H' ⟨rfl,rfl⟩;refine⟨rfl,?_⟩;refine ae [] rfl ?_;refine ad (ad (aa (ae [] rfl ?_)));refine bG rfl (aq ?_);refine ad (aa (ah [] rfl ?_));refine ap [] (fB F cf bf of f hF (by omega)) rfl (by kernel_rfl) ⟨⟨3,_,by simp,rfl,ak _ _ _,av⟩,an⟩ (λ _=>rfl) ?_;rintro v H' ⟨A0,c0,rfl,rfl⟩;refine⟨rfl,?_⟩;refine ab [] (bz rfl rfl rfl rfl rfl rfl) rfl ?_;refine bo rfl rfl rfl (λ _=>rfl) λ p13=>?_;refine aA 0 rfl [] rfl ?_;refine ai ?_;refine ad (au ?_);have hvb:=dX hR hf.toRanged N.snk;have hnn:=hR.nodes;have hsr:=hR.src;have hsk:=hR.snk;have hdf:=hR.diff;have hcB:=tO (n:=N.nodes.toNat) (m:=N.arcs.length) (by omega) hl2
 have hlv0:0<=cM lv N.snk.toNat->((0:Nat):Int)+1<=cM lv N.snk.toNat:=by
  intro h
  rcases Int.lt_or_eq_of_le h with h|h
  ·omega
  ·have:=hlv.zero _ h.symm;omega
 refine bO (σ:=FT) (λ s=>[(10,.int .i64 (cM s.lv N.snk.toNat)),(12,.iface 191 (.agg #[])),(13,.pointer (some ⟨p13,0,none⟩)),(8,.pointer (some ⟨p8,0,none⟩)),(4,.pointer (some ⟨p4,0,none⟩)),(2,.int .i64 least)])
  (λ s=>[blk p13 47 [.slice s.A s.f.length s.c,.int .i64 (s.p:Int),.int .i64 (s.k:Int),.int .i64 (s.s:Int)],.own (.slice s.A s.f.length s.c) 2 1 s.f.length (ax s.f),blk p8 47 [.slice none 0 0,.int .i64 0,.int .i64 0,.int .i64 0],blk p4 33 (bI N A c),.seg b o (arcs N.arcs)])
  (λ s=>(s.p:Int)+1<=N.nodes/\(0<=cM s.lv N.snk.toNat->(s.p:Int)+1<=cM s.lv N.snk.toNat)/\2*N.arcs.length*s.p<=s.s/\s.s<=gO N.nodes.toNat N.arcs.length*s.p/\aK N s.f/\ec N (aP (N.arcs.zip s.f)) least s.lv/\s.p<=s.k/\cS (N.arcs.zip f) N.snk+s.k<=cS (N.arcs.zip s.f) N.snk/\∀ p k f',Dn N least s.f p k f'->Dn N least f (s.p+p) (s.k+k) f')
  (λ s=>(4611686018427387903-cS (N.arcs.zip s.f) N.snk).toNat) ⟨f,A0,c0,0,0,0,lv⟩ [0,1,2,3,4] ⟨rfl,rfl,rfl,rfl,rfl,rfl,an⟩ (by decide) rfl ⟨by show ((0:Nat):Int)+1<=_;omega,hlv0,by simp,by simp,hf,hlv,GF _,by simp,λ p k f' h=>by simpa using h⟩ ?_
 rintro⟨fc,Ac,cc,p,k,s,lvc⟩ ⟨hpn,hpl,hs1,hs2,hfc,hlvc,hpk,hval,hX⟩;simp only at hpn hpl hs1 hs2 hfc hlvc hpk hval hX ⊢;have hvc:=dX hR hfc.toRanged N.snk;have hfcl:=hfc.len;refine ad (ad (aa (ae [] rfl ?_)));refine aC rfl (λ hge=>aq ?_) (λ hlt=>bc ?_)
 ·refine au ?_;refine bh (aW 1 rfl) fun ⟨_,_,hAc,hlAc⟩=>?_;obtain⟨gc,hAc⟩:=bL hAc hlAc;refine ad (aa (ah [] rfl ?_));refine ab [] (v:=bp N A c) (af 3 rfl) rfl ?_;refine ah [] rfl ?_;refine ab [] (af (v:=.slice Ac fc.length cc) 0 rfl) rfl ?_;refine ah [] rfl ?_;refine rz [] (vU N hN hR A c b o hA fc hfc Ac cc gc 0 (fun h=>hAc (by simpa [ax] using h)) least hle hlb) rfl rfl rfl rfl (by kernel_rfl) rfl (by kernel_rfl) ⟨⟨4,_,by simp,rfl,ak _ _ _,av⟩,⟨1,_,by simp,rfl,aE hAc,aM hAc⟩,trivial⟩ (fun _=>rfl) ?_;rintro v H' ⟨f1,ws,Ag,cg,st,hb,hst1,hst2,rfl,rfl⟩;have hpB:gO N.nodes.toNat N.arcs.length*p≤200000000000*500:=Nat.mul_le_mul hcB (by omega);have hlr:=hlvc.rng N.snk.toNat;have hpl2:=hpl hge;refine⟨rfl,?_⟩;refine eu (aW 0 rfl) fun ⟨_,_,hAg,hlAg⟩=>?_;obtain⟨g1,hAg⟩:=bL hAg hlAg;have hAg':f1≠[]→Ag=some ⟨g1,0,none⟩:=fun h=>hAg (by simpa [ax] using h);obtain⟨hf1,hv1,hw1⟩:=hb.keeps hR hle hfc hlvc;have hwpos:=List.length_pos_iff.2 (hw1 hge);have hf1l:=hf1.len;have hlen:fc.length=f1.length:=by omega
  rw[hlen];refine ae [] rfl ?_;have hvc1:=dX hR hf1.toRanged N.snk
  have hlw:(ws.length:Int)<=least*ws.length:=by
   have:=Int.mul_le_mul_of_nonneg_right hle (show (0:Int)<=ws.length by omega);omega
  refine ad (aa (ah [] rfl ?_));refine ab [] (af (v:=.int .i64 p) 1 rfl) rfl ?_;refine ah [] rfl ?_;refine aI 51 (v':=.int .i64 ((p+1:Nat):Int)) rfl (Gt (Value.int .i64) (cv (by omega))) ?_;refine ab [] (af (v:=.int .i64 k) 1 rfl) rfl ?_;refine ah [] rfl ?_;refine aI 55 (v':=.int .i64 ((k+ws.length:Nat):Int)) rfl (Gt (Value.int .i64) ((cv (by omega)).trans (by omega))) ?_;refine ab [] (af (v:=.int .i64 s) 1 rfl) rfl ?_;refine ah [] rfl ?_;refine aI 59 (v':=.int .i64 ((s+st:Nat):Int)) rfl (Gt (Value.int .i64) ((cv (by omega)).trans (by omega))) ?_;refine ab [] (bz rfl rfl rfl rfl rfl rfl) rfl ?_;refine aA 1 rfl [] rfl ?_;refine ai ?_;refine aa ?_;refine ab [] (v:=bp N A c) (af 4 rfl) rfl ?_;refine ah [] rfl ?_;refine ap [] (oV N hN hR A c b o hA f1 Ag cg g1 0 hAg' (aK.inB hR hf1.toRanged) (by omega) least) rfl (by kernel_rfl) ⟨⟨5,_,by simp,rfl,ak _ _ _,av⟩,⟨0,_,by simp,rfl,aE hAg,aM hAg⟩,an⟩ (λ _=>rfl) ?_;rintro v H' (⟨_,_,lv1,hlv1,rfl,rfl⟩|⟨hW,_,_⟩|⟨_,hlt,_,_⟩)
  case inr.inl=>exact absurd hf1 hW
  case inr.inr=>omega
  refine⟨rfl,?_⟩;refine ae [] rfl ?_;have hex:2*N.arcs.length*(p+1)=2*N.arcs.length*p+2*N.arcs.length:=by rw[HF,G8]
  have hey:gO N.nodes.toNat N.arcs.length*(p+1)=gO N.nodes.toNat N.arcs.length*p+gO N.nodes.toNat N.arcs.length:=by rw[HF,G8]
  refine⟨⟨f1,Ag,cg,p+1,k+ws.length,s+st,lv1⟩,[1,0,3,4,5],⟨rfl,rfl,rfl,rfl,rfl,rfl,an⟩,by decide,rfl,⟨by show ((p+1:Nat):Int)+1<=N.nodes;omega,λ h=>(by have:=(hb.rise hR hle hfc hlvc hlv1 h).2;show ((p+1:Nat):Int)+1<=cM lv1 N.snk.toNat;omega),by show 2*N.arcs.length*(p+1)<=s+st;rw[hex];exact Nat.add_le_add hs1 hst1,by show s+st<=gO N.nodes.toNat N.arcs.length*(p+1);rw[hey];exact Nat.add_le_add hs2 hst2,hf1,hlv1,by simp only;omega,by simp only;omega,λ p' k' f' h=>?_⟩,by simp only;omega⟩;have:=hX _ _ _ (.step hlvc hge hb h);simp only;rw[show p+1+p'=p+(p'+1) by omega,show k+ws.length+k'=k+(ws.length+k') by omega];exact this
 ·have hdn:=hX _ _ _ (.stop hlvc (by omega));rw[HZ,HZ] at hdn;refine ad (aa ?_);refine ab [] (v:=uI Ac fc.length cc p k s) (af 0 rfl) rfl ?_;refine ah [] rfl ?_;refine aA 2 rfl [] rfl ?_;refine ae [] rfl ?_;refine ay ?_;exact⟨[_,_],[1],_,⟨⟨p8,2,_,_,rfl,rfl,rfl⟩,rfl,an⟩,by decide,rfl,fc,p,k,s,Ac,cc,hdn,by omega,hpn,hs1,hs2,rfl,rfl⟩
theorem CY(N:aU)(hN:N.Fits)(hR:N.Right)(A:OA)(c b o:Nat)(hA:N.arcs≠[]->A=some ⟨b,o,none⟩):
 Fn 16 [bp N A c,.int .u8 116] [] [.seg b o (arcs N.arcs)] λ v H'=>∃ (f':LI) (p k s:Nat) (A':OA) (c':Nat),Dn N 1 (List.replicate N.arcs.length 0) p k f'/\(k:Int)<=9223372036854775806/\(p:Int)+1<=N.nodes/\2*N.arcs.length*p<=s/\s<=gO N.nodes.toNat N.arcs.length*p/\
  v=.tuple #[uI A' f'.length c' p k s,.int .i64 0]/\H'=[.own (.slice A' f'.length c') 2 1 f'.length (ax f')]:=by
 have hl2:=hR.len;refine iN Tryz.func16 rfl rfl λ w0=>?_;refine ad (aa ?_);refine bx (cs:=bI N A c) rfl rfl rfl (λ _=>rfl) λ p2=>?_;refine bo rfl rfl rfl (λ _=>rfl) λ p4=>?_;refine ae [] rfl ?_;refine ad ?_;refine bu 9 (cZ [0,1,2,3,5]++[(4,false),(6,false)]++cZ [7,8]) [1,2] (by kernel_rfl) (by decide) rfl ?_;refine aj [] rfl (af (v:=bp N A c) 0 rfl) rfl ?_;refine aB [] rfl ?_
 (first|refine aj [] rfl (af 0 rfl) rfl ?_|refine aj [] rfl (af 1 rfl) rfl ?_|refine aj [] rfl (af 2 rfl) rfl ?_|refine aj [] rfl (af 3 rfl) rfl ?_|refine aj [] rfl (af 4 rfl) rfl ?_|refine aj [] rfl (af 5 rfl) rfl ?_)
 refine aB [] rfl ?_;refine bg rfl ?_;refine cX (n:=N.arcs.length) (c:=N.arcs.length) rfl rfl rfl rfl rfl rfl (by omega) (by omega) (by omega) (λ _=>rfl) λ g=>?_;refine ai ⟨⟨[2,3],by decide,rfl⟩,?_⟩;rw[show made [Value.int .i64 0] (N.arcs.length*1)=ax (List.replicate N.arcs.length 0) by rw[dh,G8];simp[ax]];refine bg rfl ?_;refine b9 [] (tZ N hN hR A c b o hA (List.replicate N.arcs.length 0) (km N hR) (some ⟨g,0,none⟩) N.arcs.length g 0 (λ _=>rfl) 1 (by decide) (by decide)) rfl rfl rfl (by rw[GU];rfl) (by kernel_rfl) ⟨⟨3,_,by simp,rfl,ak _ _ _,av⟩,⟨0,_,by simp,rfl,cp,aM (λ _=>rfl)⟩,an⟩ (λ _=>rfl) ?_;rintro v H' ⟨f',p,k,s,A',c',hd,hk,hp1,hs1,hs2,rfl,rfl⟩;refine⟨rfl,ai ⟨⟨[3,4],by decide,rfl⟩,?_⟩⟩;refine dw [] rfl ?_;refine aA 2 rfl [] rfl ?_;refine ae [] rfl ?_;refine ay ?_;exact⟨[_,_],[0],_,⟨⟨p4,2,_,_,rfl,rfl,rfl⟩,rfl,an⟩,by decide,rfl,f',p,k,s,A',c',hd,hk,hp1,hs1,hs2,rfl,rfl⟩
theorem Dn.lev{N:aU}{least:Int}{f f':LI}{p k:Nat}(h:Dn N least f p k f'):∃ lv,ec N (aP (N.arcs.zip f)) least lv:=by
 cases h with
 |stop h1 _=>exact⟨_,h1⟩
 |step h1 _ _ _=>exact⟨_,h1⟩
theorem Dn.few0{N:aU}(hR:N.Right){least:Int}(hle:1<=least){f f':LI}{p k:Nat}(h:Dn N least f p k f'):aK N f->∀ lv,ec N (aP (N.arcs.zip f)) least lv->
 (cM lv N.snk.toNat<0->p=0)/\(0<=cM lv N.snk.toNat->(p:Int)+cM lv N.snk.toNat<=N.nodes):=by
 induction h with
 |stop h1 h2=>
  intro hf lv hlv;have:=kO hlv h1 N.snk.toNat;exact⟨λ _=>rfl,λ h=>by omega⟩
 |@step f f1 f' lv0 ws p k h1 h2 h3 h4 ih=>
  intro hf lv hlv;have e:=kO hlv h1 N.snk.toNat;obtain⟨k1,_,_⟩:=h3.keeps hR hle hf h1;obtain⟨lv1,hl1⟩:=h4.lev;obtain⟨i1,i2⟩:=ih k1 lv1 hl1;have hr:=h1.rng N.snk.toNat;have hnn:=hR.nodes;refine⟨λ h=>by omega,λ h=>?_⟩;by_cases hz:0<=cM lv1 N.snk.toNat
  ·have h5:=(h3.rise hR hle hf h1 hl1 hz).2;have h6:=i2 hz;omega
  ·have:=i1 (by omega);omega
theorem Dn.few{N:aU}(hR:N.Right){least:Int}(hle:1<=least){f f':LI}{p k:Nat}(h:Dn N least f p k f')(hf:aK N f):(p:Int)+1<=N.nodes:=by
 obtain⟨lv,hlv⟩:=h.lev;obtain⟨h1,h2⟩:=h.few0 hR hle hf lv hlv;have hnn:=hR.nodes;have hd:=hR.diff;have hs:=hR.src;have hk:=hR.snk;by_cases hz:0<=cM lv N.snk.toNat
 ·have h3:=h2 hz
  have:cM lv N.snk.toNat≠0:=λ h0=>by
   have:=hlv.zero _ h0;omega
  omega
 ·have:=h1 (by omega);omega
theorem A8(N:aU)(hN:N.Fits)(hR:N.Right)(A:OA)(c b o:Nat)(hA:N.arcs≠[]->A=some ⟨b,o,none⟩)(f:LI)(hf:aK N f)(F:OA)(cf bf of:Nat)(hF:f≠[]->F=some ⟨bf,of,none⟩)(least:Int)(hle:1<=least)(hlb:dn least)(sg:Int)(hsg:sg=112\/sg=116):
 Fn 38 [bp N A c,.slice F f.length cf,.int .i64 least,.int .u8 sg] [] [.seg b o (arcs N.arcs),.seg bf of (ax f)] λ v H'=>∃ (f':LI) (p k s:Nat) (A':OA) (c':Nat),Dn N least f p k f'/\(k:Int)<=9223372036854775806/\(p:Int)+1<=N.nodes/\(sg=112->s=0)/\(sg=116->2*N.arcs.length*p<=s)/\s<=gO N.nodes.toNat N.arcs.length*p/\
  v=.tuple #[uI A' f'.length c' p k s,.int .i64 0]/\H'=[.own (.slice A' f'.length c') 2 1 f'.length (ax f')]:=by
 rcases hsg with rfl|rfl
 ·refine (xu N hN hR A c b o hA f hf F cf bf of hF least hle).mono ?_;rintro v H' ⟨f',p,k,A',c',hd,hk,rfl,rfl⟩;exact⟨f',p,k,0,A',c',hd,hk,hd.few hR hle hf,λ _=>rfl,λ h=>absurd h (by decide),GB _,rfl,rfl⟩
 ·refine (tZ N hN hR A c b o hA f hf F cf bf of hF least hle hlb).mono ?_;rintro v H' ⟨f',p,k,s,A',c',hd,hk,hp,hs1,hs2,rfl,rfl⟩;exact⟨f',p,k,s,A',c',hd,hk,hp,λ h=>absurd h (by decide),λ _=>hs1,hs2,rfl,rfl⟩
theorem wK(N:aU)(hN:N.Fits)(hR:N.Right)(A:OA)(c b o:Nat)(hA:N.arcs≠[]->A=some ⟨b,o,none⟩)(sg:Int)(hsg:sg=112\/sg=116):
 Fn 16 [bp N A c,.int .u8 sg] [] [.seg b o (arcs N.arcs)] λ v H'=>∃ (f':LI) (p k s:Nat) (A':OA) (c':Nat),Dn N 1 (List.replicate N.arcs.length 0) p k f'/\(k:Int)<=9223372036854775806/\(p:Int)+1<=N.nodes/\(sg=112->s=0)/\(sg=116->2*N.arcs.length*p<=s)/\s<=gO N.nodes.toNat N.arcs.length*p/\
  v=.tuple #[uI A' f'.length c' p k s,.int .i64 0]/\H'=[.own (.slice A' f'.length c') 2 1 f'.length (ax f')]:=by
 rcases hsg with rfl|rfl
 ·refine (Cg N hN hR A c b o hA).mono ?_;rintro v H' ⟨f',p,k,A',c',hd,hk,rfl,rfl⟩;exact⟨f',p,k,0,A',c',hd,hk,hd.few hR (by decide) (km N hR),λ _=>rfl,λ h=>absurd h (by decide),GB _,rfl,rfl⟩
 ·refine (CY N hN hR A c b o hA).mono ?_;rintro v H' ⟨f',p,k,s,A',c',hd,hk,hp,hs1,hs2,rfl,rfl⟩;exact⟨f',p,k,s,A',c',hd,hk,hp,λ h=>absurd h (by decide),λ _=>hs1,hs2,rfl,rfl⟩
section
variable {cs:LI} {mo:Int}
end
end Go.Proofs.YtmcnpaelaieniaaGreatDoor
