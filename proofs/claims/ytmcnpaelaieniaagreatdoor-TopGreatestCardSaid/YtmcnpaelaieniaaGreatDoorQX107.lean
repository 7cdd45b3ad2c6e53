import Derived.Test.YtmcnpaelaieniaaGreatDoorQX108
import Derived.Test.YtmcnpaelaieniaaGreatDoorQX98
/- A part of the proof; see NOTES.md. -/
set_option linter.unusedVariables false
set_option linter.unusedSimpArgs false
namespace Go.Proofs.YtmcnpaelaieniaaGreatDoor
open Go.RowKit
theorem wC(N:aU)(hN:N.Fits)(hR:N.Right)(A:OA)(c b o:Nat)(hA:N.arcs≠[]->A=some ⟨b,o,none⟩)(f:LI)(hf:aK N f)(F:OA)(cf bf of:Nat)(hF:f≠[]->F=some ⟨bf,of,none⟩)(least:Int)(hle:1<=least):
 Fn 222 [.agg #[],bp N A c,.slice F f.length cf,.int .i64 least] [] [.seg b o (arcs N.arcs),.seg bf of (ax f)] λ v H'=>∃ (f':LI) (ws:List (LN×Int)) (g:Nat),kh N least f ws f'/\
  v=.tuple #[.slice (some ⟨g,0,none⟩) f.length f.length,.int .i64 ws.length,.int .i64 0]/\H'=[.own (.slice (some ⟨g,0,none⟩) f.length f.length) 2 1 f.length (ax f')]:=by
 have hl:=hf.len;have hl2:=hR.len;refine aJ Tryz.func222 rfl rfl λ w0=>?_;refine ad (aa ?_);refine bx (cs:=[]) rfl rfl rfl (λ _=>rfl) λ p0=>?_;refine bx (cs:=bI N A c) rfl rfl rfl (λ _=>rfl) λ p=>?_;refine ae [] rfl ?_;refine ad (aa ?_);refine ab [] (v:=bp N A c) (af 0 rfl) rfl ?_;refine ah [] rfl ?_;refine ap [] (BJ N hN hR A c b o hA f F cf bf of hF (aK.inB hR hf.toRanged) (by omega) least) rfl (by kernel_rfl) ⟨⟨2,_,by simp,rfl,ak _ _ _,av⟩,⟨3,_,by simp,rfl,ak _ _ _,av⟩,an⟩ (λ _=>rfl) ?_;rintro v H' (⟨_,_,f',ws,g,Ak,ck,xs,hb,rfl,rfl⟩|⟨hW,_,_⟩|⟨_,hlt,_,_⟩)
 case inr.inl=>exact absurd hf hW
 case inr.inr=>omega
 refine⟨rfl,?_⟩;refine ae [] rfl ?_;refine ad (aa (ae [] rfl ?_));exact az [0] (by decide) rfl (ay ⟨_,rfl,f',ws,g,hb,rfl,rfl⟩)
theorem ya:Fn 75 [.int .u8 112] [] [] λ v H'=>v=.iface 190 (.agg #[])/\H'=[]:=by
 refine aJ Tryz.func75 rfl rfl λ w0=>?_;refine ad (aa (ae [] rfl ?_));refine ad (ad (aa (ae [] rfl ?_)));refine au (ad (aa (ae [] rfl ?_)));refine aC rfl (λ _=>?_) (λ h=>absurd rfl h);refine ad (aa (ah [] rfl ?_));refine ab [] (bz rfl rfl rfl rfl rfl rfl) rfl ?_;refine ae [] rfl ?_;exact ay ⟨_,rfl,rfl,rfl⟩
structure FS where
 f:LI
 A:OA
 c:Nat
 p:Nat
 k:Nat
 lv:LI
def uI(A:OA)(m c:Nat)(p k:Int)(s:Int):Value:=.agg #[.slice A m c,.int .i64 p,.int .i64 k,.int .i64 s]
set_option maxHeartbeats 1000000 in
theorem xu(N:aU)(hN:N.Fits)(hR:N.Right)(A:OA)(c b o:Nat)(hA:N.arcs≠[]->A=some ⟨b,o,none⟩)(f:LI)(hf:aK N f)(F:OA)(cf bf of:Nat)(hF:f≠[]->F=some ⟨bf,of,none⟩)(least:Int)(hle:1<=least):
 Fn 38 [bp N A c,.slice F f.length cf,.int .i64 least,.int .u8 112] [] [.seg b o (arcs N.arcs),.seg bf of (ax f)] λ v H'=>∃ (f':LI) (p k:Nat) (A':OA) (c':Nat),Dn N least f p k f'/\(k:Int)<=9223372036854775806/\
  v=.tuple #[uI A' f'.length c' p k 0,.int .i64 0]/\H'=[.own (.slice A' f'.length c') 2 1 f'.length (ax f')]:=by
 have hl:=hf.len;have hl2:=hR.len;refine iN Tryz.func38 rfl rfl λ w0=>?_;refine ad (aa ?_);refine bx (cs:=bI N A c) rfl rfl rfl (λ _=>rfl) λ p4=>?_;refine bo rfl rfl rfl (λ _=>rfl) λ p8=>?_;refine ae [] rfl ?_;refine ad (aa ?_);refine ab [] (v:=bp N A c) (af 1 rfl) rfl ?_;refine ah [] rfl ?_;refine ap [] (oV N hN hR A c b o hA f F cf bf of hF (aK.inB hR hf.toRanged) (by omega) least) rfl (by kernel_rfl) ⟨⟨2,_,by simp,rfl,ak _ _ _,av⟩,⟨3,_,by simp,rfl,ak _ _ _,av⟩,an⟩ (λ _=>rfl) ?_;rintro v H' (⟨_,_,lv,hlv,rfl,rfl⟩|⟨hW,_,_⟩|⟨_,hlt,_,_⟩)
 case inr.inl=>exact absurd hf hW
 case inr.inr=>omega
 refine⟨rfl,?_⟩;refine ae [] rfl ?_;refine ad (ad (aa (ae [] rfl ?_)));refine aC rfl (λ h=>absurd rfl h) (λ _=>aq ?_);refine ad (aa (ah [] rfl ?_));refine ap [] (ya) rfl (by kernel_rfl) an (λ _=>rfl) ?_;rintro v H' ⟨rfl,rfl⟩;refine⟨rfl,?_⟩;refine ae [] rfl ?_;refine ad (ad (aa (ae [] rfl ?_)));refine bG rfl (aq ?_);refine ad (aa (ah [] rfl ?_));refine ap [] (fB F cf bf of f hF (by omega)) rfl (by kernel_rfl) ⟨⟨3,_,by simp,rfl,ak _ _ _,av⟩,an⟩ (λ _=>rfl) ?_;rintro v H' ⟨A0,c0,rfl,rfl⟩;refine⟨rfl,?_⟩;refine ab [] (bz rfl rfl rfl rfl rfl rfl) rfl ?_;refine bo rfl rfl rfl (λ _=>rfl) λ p13=>?_;refine aA 0 rfl [] rfl ?_;refine ai ?_;refine ad (au ?_);have hvb:=dX hR hf.toRanged N.snk
 refine bO (σ:=FS) (λ s=>[(10,.int .i64 (cM s.lv N.snk.toNat)),(12,.iface 190 (.agg #[])),(13,.pointer (some ⟨p13,0,none⟩)),(8,.pointer (some ⟨p8,0,none⟩)),(4,.pointer (some ⟨p4,0,none⟩)),(2,.int .i64 least)])
  (λ s=>[blk p13 47 [.slice s.A s.f.length s.c,.int .i64 s.p,.int .i64 s.k,.int .i64 0],.own (.slice s.A s.f.length s.c) 2 1 s.f.length (ax s.f),blk p8 47 [.slice none 0 0,.int .i64 0,.int .i64 0,.int .i64 0],blk p4 33 (bI N A c),.seg b o (arcs N.arcs)])
  (λ s=>aK N s.f/\ec N (aP (N.arcs.zip s.f)) least s.lv/\s.p<=s.k/\cS (N.arcs.zip f) N.snk+s.k<=cS (N.arcs.zip s.f) N.snk/\∀ p k f',Dn N least s.f p k f'->Dn N least f (s.p+p) (s.k+k) f')
  (λ s=>(4611686018427387903-cS (N.arcs.zip s.f) N.snk).toNat) ⟨f,A0,c0,0,0,lv⟩ [0,1,2,3,4] ⟨rfl,rfl,rfl,rfl,rfl,rfl,an⟩ (by decide) rfl ⟨hf,hlv,GF _,by simp,λ p k f' h=>by simpa using h⟩ ?_
 rintro⟨fc,Ac,cc,p,k,lvc⟩ ⟨hfc,hlvc,hpk,hval,hX⟩;simp only at hfc hlvc hpk hval hX ⊢;have hvc:=dX hR hfc.toRanged N.snk;have hfcl:=hfc.len;refine ad (ad (aa (ae [] rfl ?_)));refine aC rfl (λ hge=>aq ?_) (λ hlt=>bc ?_)
 ·refine au ?_;refine bh (aW 1 rfl) fun ⟨_,_,hAc,hlAc⟩=>?_;obtain⟨gc,hAc⟩:=bL hAc hlAc;refine ad (aa (ah [] rfl ?_));refine ab [] (v:=bp N A c) (af 3 rfl) rfl ?_;refine ah [] rfl ?_;refine ab [] (af (v:=.slice Ac fc.length cc) 0 rfl) rfl ?_;refine ah [] rfl ?_;refine rz [] (wC N hN hR A c b o hA fc hfc Ac cc gc 0 (fun h=>hAc (by simpa [ax] using h)) least hle) rfl rfl rfl rfl (by kernel_rfl) rfl (by kernel_rfl) ⟨⟨4,_,by simp,rfl,ak _ _ _,av⟩,⟨1,_,by simp,rfl,aE hAc,aM hAc⟩,trivial⟩ (fun _=>rfl) ?_;rintro v H' ⟨f1,ws,g1,hb,rfl,rfl⟩;obtain⟨hf1,hv1,hw1⟩:=hb.keeps hR hle hfc hlvc;have hwpos:=List.length_pos_iff.2 (hw1 hge);have hf1l:=hf1.len;have hlen:fc.length=f1.length:=by omega
  refine⟨rfl,?_⟩;rw[hlen];refine ae [] rfl ?_;have hvc1:=dX hR hf1.toRanged N.snk
  have hlw:(ws.length:Int)<=least*ws.length:=by
   have:=Int.mul_le_mul_of_nonneg_right hle (show (0:Int)<=ws.length by omega);omega
  refine ad (aa (ah [] rfl ?_));refine ab [] (af (v:=.int .i64 p) 1 rfl) rfl ?_;refine ah [] rfl ?_;refine aI 51 (v':=.int .i64 ((p+1:Nat):Int)) rfl (Gt (Value.int .i64) (cv (by omega))) ?_;refine ab [] (af (v:=.int .i64 k) 1 rfl) rfl ?_;refine ah [] rfl ?_;refine aI 55 (v':=.int .i64 ((k+ws.length:Nat):Int)) rfl (Gt (Value.int .i64) ((cv (by omega)).trans (by omega))) ?_;refine ab [] (af (v:=.int .i64 0) 1 rfl) rfl ?_;refine ah [] rfl ?_;refine aI 59 (v':=.int .i64 0) rfl (Gt (Value.int .i64) (cv (by omega))) ?_;refine ab [] (bz rfl rfl rfl rfl rfl rfl) rfl ?_;refine aA 1 rfl [] rfl ?_;refine ai ?_;refine aa ?_;refine ab [] (v:=bp N A c) (af 4 rfl) rfl ?_;refine ah [] rfl ?_;refine ap [] (oV N hN hR A c b o hA f1 (some ⟨g1,0,none⟩) f1.length g1 0 (λ _=>rfl) (aK.inB hR hf1.toRanged) (by omega) least) rfl (by kernel_rfl) ⟨⟨5,_,by simp,rfl,ak _ _ _,av⟩,⟨0,_,by simp,rfl,cp,aM (λ _=>rfl)⟩,an⟩ (λ _=>rfl) ?_;rintro v H' (⟨_,_,lv1,hlv1,rfl,rfl⟩|⟨hW,_,_⟩|⟨_,hlt,_,_⟩)
  case inr.inl=>exact absurd hf1 hW
  case inr.inr=>omega
  refine⟨rfl,?_⟩;refine ae [] rfl ?_;refine⟨⟨f1,some ⟨g1,0,none⟩,f1.length,p+1,k+ws.length,lv1⟩,[1,0,3,4,5],⟨rfl,rfl,rfl,rfl,rfl,rfl,an⟩,by decide,rfl,⟨hf1,hlv1,by simp only;omega,by simp only;omega,λ p' k' f' h=>?_⟩,by simp only;omega⟩;have:=hX _ _ _ (.step hlvc hge hb h);simp only;rw[show p+1+p'=p+(p'+1) by omega,show k+ws.length+k'=k+(ws.length+k') by omega];exact this
 ·have hdn:=hX _ _ _ (.stop hlvc (by omega));rw[HZ,HZ] at hdn;refine ad (aa ?_);refine ab [] (v:=uI Ac fc.length cc p k 0) (af 0 rfl) rfl ?_;refine ah [] rfl ?_;refine aA 2 rfl [] rfl ?_;refine ae [] rfl ?_;refine ay ?_;exact⟨[_,_],[1],_,⟨⟨p8,2,_,_,rfl,rfl,rfl⟩,rfl,an⟩,by decide,rfl,fc,p,k,Ac,cc,hdn,by omega,rfl,rfl⟩
theorem Cg(N:aU)(hN:N.Fits)(hR:N.Right)(A:OA)(c b o:Nat)(hA:N.arcs≠[]->A=some ⟨b,o,none⟩):
 Fn 16 [bp N A c,.int .u8 112] [] [.seg b o (arcs N.arcs)] λ v H'=>∃ (f':LI) (p k:Nat) (A':OA) (c':Nat),Dn N 1 (List.replicate N.arcs.length 0) p k f'/\(k:Int)<=9223372036854775806/\
  v=.tuple #[uI A' f'.length c' p k 0,.int .i64 0]/\H'=[.own (.slice A' f'.length c') 2 1 f'.length (ax f')]:=by
 have hl2:=hR.len;refine iN Tryz.func16 rfl rfl λ w0=>?_;refine ad (aa ?_);refine bx (cs:=bI N A c) rfl rfl rfl (λ _=>rfl) λ p2=>?_;refine bo rfl rfl rfl (λ _=>rfl) λ p4=>?_;refine ae [] rfl ?_;refine ad ?_;refine bu 9 (cZ [0,1,2,3,5]++[(4,false),(6,false)]++cZ [7,8]) [1,2] (by kernel_rfl) (by decide) rfl ?_;refine aj [] rfl (af (v:=bp N A c) 0 rfl) rfl ?_;refine aB [] rfl ?_
 (first|refine aj [] rfl (af 0 rfl) rfl ?_|refine aj [] rfl (af 1 rfl) rfl ?_|refine aj [] rfl (af 2 rfl) rfl ?_|refine aj [] rfl (af 3 rfl) rfl ?_|refine aj [] rfl (af 4 rfl) rfl ?_|refine aj [] rfl (af 5 rfl) rfl ?_)
 refine aB [] rfl ?_;refine bg rfl ?_;refine cX (n:=N.arcs.length) (c:=N.arcs.length) rfl rfl rfl rfl rfl rfl (by omega) (by omega) (by omega) (λ _=>rfl) λ g=>?_;refine ai ⟨⟨[2,3],by decide,rfl⟩,?_⟩;rw[show made [Value.int .i64 0] (N.arcs.length*1)=ax (List.replicate N.arcs.length 0) by rw[dh,G8];simp[ax]];refine bg rfl ?_;refine b9 [] (xu N hN hR A c b o hA (List.replicate N.arcs.length 0) (km N hR) (some ⟨g,0,none⟩) N.arcs.length g 0 (λ _=>rfl) 1 (by decide)) rfl rfl rfl (by rw[GU];rfl) (by kernel_rfl) ⟨⟨3,_,by simp,rfl,ak _ _ _,av⟩,⟨0,_,by simp,rfl,cp,aM (λ _=>rfl)⟩,an⟩ (λ _=>rfl) ?_;rintro v H' ⟨f',p,k,A',c',hd,hk,rfl,rfl⟩;refine⟨rfl,ai ⟨⟨[3,4],by decide,rfl⟩,?_⟩⟩;refine dw [] rfl ?_;refine aA 2 rfl [] rfl ?_;refine ae [] rfl ?_;refine ay ?_;exact⟨[_,_],[0],_,⟨⟨p4,2,_,_,rfl,rfl,rfl⟩,rfl,an⟩,by decide,rfl,f',p,k,A',c',hd,hk,rfl,rfl⟩
structure Fu where
 l:Int
 r:Int
structure Gr where
 left:Int
 right:Int
 edges:List Fu
def Es(g:Gr):aU:=⟨2+g.left+g.right,1,2,((List.range g.left.toNat).map λ (i:Nat)=>(⟨1,3+i,1⟩:dI))++(g.edges.map λ e=>(⟨2+e.l,2+g.left+e.r,1⟩:dI))++((List.range g.right.toNat).map λ (i:Nat)=>(⟨3+g.left+i,2,1⟩:dI))⟩
end Go.Proofs.YtmcnpaelaieniaaGreatDoor
