import Derived.Test.YtmcnpaelaieniaaGreatDoorQX109
import Derived.Test.YtmcnpaelaieniaaGreatDoorQX100
/- A part of the proof; see NOTES.md. -/
set_option linter.unusedVariables false
set_option linter.unusedSimpArgs false
namespace Go.Proofs.YtmcnpaelaieniaaGreatDoor
open Go.RowKit
theorem vI(N:aO)(hN:N.Fits)(hR:N.Right)(A:OA)(c b o:Nat)(hA:N.arcs≠[]->A=some ⟨b,o,none⟩)(f:LI)(hf:aK N f)(F:OA)(cf bf of:Nat)(hF:f≠[]->F=some ⟨bf,of,none⟩)(least:Int)(hle:1<=least):
 Fn 222 [.agg #[],bx N A c,.slice F f.length cf,.int .i64 least] [] [.seg b o (arcs N.arcs),.seg bf of (ay f)] λ v H'=>∃ (f':LI) (ws:List (LN×Int)) (g:Nat),ke N least f ws f'/\
  v=.tuple #[.slice (some ⟨g,0,none⟩) f.length f.length,.int .i64 ws.length,.int .i64 0]/\H'=[.own (.slice (some ⟨g,0,none⟩) f.length f.length) 2 1 f.length (ay f')]:=by
 have hl:=hf.len;have hl2:=hR.len;refine aH Tryz.func222 rfl rfl λ w0=>?_;refine ad (aa ?_);refine bz (cs:=[]) rfl rfl rfl (λ _=>rfl) λ p0=>?_;refine bz (cs:=bJ N A c) rfl rfl rfl (λ _=>rfl) λ p=>?_;refine ae [] rfl ?_;refine ad (aa ?_);refine ab [] (v:=bx N A c) (af 0 rfl) rfl ?_;refine ah [] rfl ?_;refine ao [] (Cl N hN hR A c b o hA f F cf bf of hF (aK.inB hR hf.toRanged) (by omega) least) rfl (by kernel_rfl) ⟨⟨2,_,by simp,rfl,ak _ _ _,au⟩,⟨3,_,by simp,rfl,ak _ _ _,au⟩,an⟩ (λ _=>rfl) ?_;rintro v H' (⟨_,_,f',ws,g,Ak,ck,xs,hb,rfl,rfl⟩|⟨hW,_,_⟩|⟨_,hlt,_,_⟩)
 case inr.inl=>exact absurd hf hW
 case inr.inr=>omega
 refine⟨rfl,?_⟩;refine ae [] rfl ?_;refine ad (aa (ae [] rfl ?_));exact aA [0] (by decide) rfl (ax ⟨_,rfl,f',ws,g,hb,rfl,rfl⟩)
theorem zx:Fn 75 [.int .u8 112] [] [] λ v H'=>v=.iface 190 (.agg #[])/\H'=[]:=by
 refine aH Tryz.func75 rfl rfl λ w0=>?_;refine ad (aa (ae [] rfl ?_));refine ad (ad (aa (ae [] rfl ?_)));refine av (ad (aa (ae [] rfl ?_)));refine aC rfl (λ _=>?_) (λ h=>absurd rfl h);refine ad (aa (ah [] rfl ?_));refine ab [] (be rfl rfl rfl rfl rfl rfl) rfl ?_;refine ae [] rfl ?_;exact ax ⟨_,rfl,rfl,rfl⟩
structure FS where
 f:LI
 A:OA
 c:Nat
 p:Nat
 k:Nat
 lv:LI
def uz(A:OA)(m c:Nat)(p k:Int)(s:Int):Value:=.agg #[.slice A m c,.int .i64 p,.int .i64 k,.int .i64 s]
set_option maxHeartbeats 1000000 in
theorem xq(N:aO)(hN:N.Fits)(hR:N.Right)(A:OA)(c b o:Nat)(hA:N.arcs≠[]->A=some ⟨b,o,none⟩)(f:LI)(hf:aK N f)(F:OA)(cf bf of:Nat)(hF:f≠[]->F=some ⟨bf,of,none⟩)(least:Int)(hle:1<=least):
 Fn 38 [bx N A c,.slice F f.length cf,.int .i64 least,.int .u8 112] [] [.seg b o (arcs N.arcs),.seg bf of (ay f)] λ v H'=>∃ (f':LI) (p k:Nat) (A':OA) (c':Nat),Dn N least f p k f'/\(k:Int)<=9223372036854775806/\
  v=.tuple #[uz A' f'.length c' p k 0,.int .i64 0]/\H'=[.own (.slice A' f'.length c') 2 1 f'.length (ay f')]:=by
 have hl:=hf.len;have hl2:=hR.len;refine iB Tryz.func38 rfl rfl λ w0=>?_;refine ad (aa ?_);refine bz (cs:=bJ N A c) rfl rfl rfl (λ _=>rfl) λ p4=>?_;refine bu rfl rfl rfl (λ _=>rfl) λ p8=>?_;refine ae [] rfl ?_;refine ad (aa ?_);refine ab [] (v:=bx N A c) (af 1 rfl) rfl ?_;refine ah [] rfl ?_;refine ao [] (oT N hN hR A c b o hA f F cf bf of hF (aK.inB hR hf.toRanged) (by omega) least) rfl (by kernel_rfl) ⟨⟨2,_,by simp,rfl,ak _ _ _,au⟩,⟨3,_,by simp,rfl,ak _ _ _,au⟩,an⟩ (λ _=>rfl) ?_;rintro v H' (⟨_,_,lv,hlv,rfl,rfl⟩|⟨hW,_,_⟩|⟨_,hlt,_,_⟩)
 case inr.inl=>exact absurd hf hW
 case inr.inr=>omega
 refine⟨rfl,?_⟩;refine ae [] rfl ?_;refine ad (ad (aa (ae [] rfl ?_)));refine aC rfl (λ h=>absurd rfl h) (λ _=>aq ?_);refine ad (aa (ah [] rfl ?_));refine ao [] (zx) rfl (by kernel_rfl) an (λ _=>rfl) ?_;rintro v H' ⟨rfl,rfl⟩;refine⟨rfl,?_⟩;refine ae [] rfl ?_;refine ad (ad (aa (ae [] rfl ?_)));refine bG rfl (aq ?_);refine ad (aa (ah [] rfl ?_));refine ao [] (fm F cf bf of f hF (by omega)) rfl (by kernel_rfl) ⟨⟨3,_,by simp,rfl,ak _ _ _,au⟩,an⟩ (λ _=>rfl) ?_;rintro v H' ⟨A0,c0,rfl,rfl⟩;refine⟨rfl,?_⟩;refine ab [] (be rfl rfl rfl rfl rfl rfl) rfl ?_;refine bu rfl rfl rfl (λ _=>rfl) λ p13=>?_;refine aB 0 rfl [] rfl ?_;refine ai ?_;refine ad (av ?_);have hvb:=dN hR hf.toRanged N.snk
 refine bP (σ:=FS) (λ s=>[(10,.int .i64 (cQ s.lv N.snk.toNat)),(12,.iface 190 (.agg #[])),(13,.pointer (some ⟨p13,0,none⟩)),(8,.pointer (some ⟨p8,0,none⟩)),(4,.pointer (some ⟨p4,0,none⟩)),(2,.int .i64 least)])
  (λ s=>[blk p13 47 [.slice s.A s.f.length s.c,.int .i64 s.p,.int .i64 s.k,.int .i64 0],.own (.slice s.A s.f.length s.c) 2 1 s.f.length (ay s.f),blk p8 47 [.slice none 0 0,.int .i64 0,.int .i64 0,.int .i64 0],blk p4 33 (bJ N A c),.seg b o (arcs N.arcs)])
  (λ s=>aK N s.f/\eb N (aW (N.arcs.zip s.f)) least s.lv/\s.p<=s.k/\da (N.arcs.zip f) N.snk+s.k<=da (N.arcs.zip s.f) N.snk/\∀ p k f',Dn N least s.f p k f'->Dn N least f (s.p+p) (s.k+k) f')
  (λ s=>(4611686018427387903-da (N.arcs.zip s.f) N.snk).toNat) ⟨f,A0,c0,0,0,lv⟩ [0,1,2,3,4] ⟨rfl,rfl,rfl,rfl,rfl,rfl,an⟩ (by decide) rfl ⟨hf,hlv,GN _,by simp,λ p k f' h=>by simpa using h⟩ ?_
 rintro⟨fc,Ac,cc,p,k,lvc⟩ ⟨hfc,hlvc,hpk,hval,hX⟩;simp only at hfc hlvc hpk hval hX ⊢;have hvc:=dN hR hfc.toRanged N.snk;have hfcl:=hfc.len;refine ad (ad (aa (ae [] rfl ?_)));refine aC rfl (λ hge=>aq ?_) (λ hlt=>a9 ?_)
 ·refine av ?_;refine bv (a8 1 rfl) fun ⟨_,_,hAc,hlAc⟩=>?_;obtain⟨gc,hAc⟩:=bQ hAc hlAc;refine ad (aa (ah [] rfl ?_));refine ab [] (v:=bx N A c) (af 3 rfl) rfl ?_;refine ah [] rfl ?_;refine ab [] (af (v:=.slice Ac fc.length cc) 0 rfl) rfl ?_;refine ah [] rfl ?_;refine rz [] (vI N hN hR A c b o hA fc hfc Ac cc gc 0 (fun h=>hAc (by simpa [ay] using h)) least hle) rfl rfl rfl rfl (by kernel_rfl) rfl (by kernel_rfl) ⟨⟨4,_,by simp,rfl,ak _ _ _,au⟩,⟨1,_,by simp,rfl,aL hAc,a7 hAc⟩,trivial⟩ (fun _=>rfl) ?_;rintro v H' ⟨f1,ws,g1,hb,rfl,rfl⟩;obtain⟨hf1,hv1,hw1⟩:=hb.keeps hR hle hfc hlvc;have hwpos:=List.length_pos_iff.2 (hw1 hge);have hf1l:=hf1.len;have hlen:fc.length=f1.length:=by omega
  refine⟨rfl,?_⟩;rw[hlen];refine ae [] rfl ?_;have hvc1:=dN hR hf1.toRanged N.snk
  have hlw:(ws.length:Int)<=least*ws.length:=by
   have:=Ij hle (show (0:Int)<=ws.length by omega);omega
  refine ad (aa (ah [] rfl ?_));refine ab [] (af (v:=.int .i64 p) 1 rfl) rfl ?_;refine ah [] rfl ?_;refine aI 51 (v':=.int .i64 ((p+1:Nat):Int)) rfl (Gz (Value.int .i64) (b5 (by omega))) ?_;refine ab [] (af (v:=.int .i64 k) 1 rfl) rfl ?_;refine ah [] rfl ?_;refine aI 55 (v':=.int .i64 ((k+ws.length:Nat):Int)) rfl (Gz (Value.int .i64) ((b5 (by omega)).trans (by omega))) ?_;refine ab [] (af (v:=.int .i64 0) 1 rfl) rfl ?_;refine ah [] rfl ?_;refine aI 59 (v':=.int .i64 0) rfl (Gz (Value.int .i64) (b5 (by omega))) ?_;refine ab [] (be rfl rfl rfl rfl rfl rfl) rfl ?_;refine aB 1 rfl [] rfl ?_;refine ai ?_;refine aa ?_;refine ab [] (v:=bx N A c) (af 4 rfl) rfl ?_;refine ah [] rfl ?_;refine ao [] (oT N hN hR A c b o hA f1 (some ⟨g1,0,none⟩) f1.length g1 0 (λ _=>rfl) (aK.inB hR hf1.toRanged) (by omega) least) rfl (by kernel_rfl) ⟨⟨5,_,by simp,rfl,ak _ _ _,au⟩,⟨0,_,by simp,rfl,cD,a7 (λ _=>rfl)⟩,an⟩ (λ _=>rfl) ?_;rintro v H' (⟨_,_,lv1,hlv1,rfl,rfl⟩|⟨hW,_,_⟩|⟨_,hlt,_,_⟩)
  case inr.inl=>exact absurd hf1 hW
  case inr.inr=>omega
  refine⟨rfl,?_⟩;refine ae [] rfl ?_;refine⟨⟨f1,some ⟨g1,0,none⟩,f1.length,p+1,k+ws.length,lv1⟩,[1,0,3,4,5],⟨rfl,rfl,rfl,rfl,rfl,rfl,an⟩,by decide,rfl,⟨hf1,hlv1,by simp only;omega,by simp only;omega,λ p' k' f' h=>?_⟩,by simp only;omega⟩;have:=hX _ _ _ (.step hlvc hge hb h);simp only;rw[show p+1+p'=p+(p'+1) by omega,show k+ws.length+k'=k+(ws.length+k') by omega];exact this
 ·have hdn:=hX _ _ _ (.stop hlvc (by omega));rw[Ie,Ie] at hdn;refine ad (aa ?_);refine ab [] (v:=uz Ac fc.length cc p k 0) (af 0 rfl) rfl ?_;refine ah [] rfl ?_;refine aB 2 rfl [] rfl ?_;refine ae [] rfl ?_;refine ax ?_;exact⟨[_,_],[1],_,⟨⟨p8,2,_,_,rfl,rfl,rfl⟩,rfl,an⟩,by decide,rfl,fc,p,k,Ac,cc,hdn,by omega,rfl,rfl⟩
theorem Bx(N:aO)(hN:N.Fits)(hR:N.Right)(A:OA)(c b o:Nat)(hA:N.arcs≠[]->A=some ⟨b,o,none⟩):
 Fn 16 [bx N A c,.int .u8 112] [] [.seg b o (arcs N.arcs)] λ v H'=>∃ (f':LI) (p k:Nat) (A':OA) (c':Nat),Dn N 1 (List.replicate N.arcs.length 0) p k f'/\(k:Int)<=9223372036854775806/\
  v=.tuple #[uz A' f'.length c' p k 0,.int .i64 0]/\H'=[.own (.slice A' f'.length c') 2 1 f'.length (ay f')]:=by
 have hl2:=hR.len;refine iB Tryz.func16 rfl rfl λ w0=>?_;refine ad (aa ?_);refine bz (cs:=bJ N A c) rfl rfl rfl (λ _=>rfl) λ p2=>?_;refine bu rfl rfl rfl (λ _=>rfl) λ p4=>?_;refine ae [] rfl ?_;refine ad ?_;refine bq 9 (cY [0,1,2,3,5]++[(4,false),(6,false)]++cY [7,8]) [1,2] (by kernel_rfl) (by decide) rfl ?_;refine aj [] rfl (af (v:=bx N A c) 0 rfl) rfl ?_;refine az [] rfl ?_
 (first|refine aj [] rfl (af 0 rfl) rfl ?_|refine aj [] rfl (af 1 rfl) rfl ?_|refine aj [] rfl (af 2 rfl) rfl ?_|refine aj [] rfl (af 3 rfl) rfl ?_|refine aj [] rfl (af 4 rfl) rfl ?_|refine aj [] rfl (af 5 rfl) rfl ?_)
 refine az [] rfl ?_;refine aY rfl ?_;refine di (n:=N.arcs.length) (c:=N.arcs.length) rfl rfl rfl rfl rfl rfl (by omega) (by omega) (by omega) (λ _=>rfl) λ g=>?_;refine ai ⟨⟨[2,3],by decide,rfl⟩,?_⟩;rw[show made [Value.int .i64 0] (N.arcs.length*1)=ay (List.replicate N.arcs.length 0) by rw[dm,Hf];simp[ay]];refine aY rfl ?_;refine cL [] (xq N hN hR A c b o hA (List.replicate N.arcs.length 0) (fG N hR) (some ⟨g,0,none⟩) N.arcs.length g 0 (λ _=>rfl) 1 (by decide)) rfl rfl rfl (by rw[G3];rfl) (by kernel_rfl) ⟨⟨3,_,by simp,rfl,ak _ _ _,au⟩,⟨0,_,by simp,rfl,cD,a7 (λ _=>rfl)⟩,an⟩ (λ _=>rfl) ?_;rintro v H' ⟨f',p,k,A',c',hd,hk,rfl,rfl⟩;refine⟨rfl,ai ⟨⟨[3,4],by decide,rfl⟩,?_⟩⟩;refine dy [] rfl ?_;refine aB 2 rfl [] rfl ?_;refine ae [] rfl ?_;refine ax ?_;exact⟨[_,_],[0],_,⟨⟨p4,2,_,_,rfl,rfl,rfl⟩,rfl,an⟩,by decide,rfl,f',p,k,A',c',hd,hk,rfl,rfl⟩
structure FB where
 l:Int
 r:Int
structure Gr where
 left:Int
 right:Int
 edges:List FB
def Ex(g:Gr):aO:=⟨2+g.left+g.right,1,2,((List.range g.left.toNat).map λ (i:Nat)=>(⟨1,3+i,1⟩:dM))++(g.edges.map λ e=>(⟨2+e.l,2+g.left+e.r,1⟩:dM))++((List.range g.right.toNat).map λ (i:Nat)=>(⟨3+g.left+i,2,1⟩:dM))⟩
end Go.Proofs.YtmcnpaelaieniaaGreatDoor
