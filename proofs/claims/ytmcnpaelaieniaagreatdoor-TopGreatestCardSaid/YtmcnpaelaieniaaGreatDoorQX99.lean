import Derived.Test.YtmcnpaelaieniaaGreatDoorScrZ
import Derived.Test.YtmcnpaelaieniaaGreatDoorQX113
import Derived.Test.YtmcnpaelaieniaaGreatDoorQX103
import Derived.Test.YtmcnpaelaieniaaGreatDoorQX85
import Derived.Test.YtmcnpaelaieniaaGreatDoorQX94
import Derived.Test.YtmcnpaelaieniaaGreatDoorQX97
/- A part of the proof; see NOTES.md. -/
set_option linter.unusedVariables false
set_option linter.unusedSimpArgs false
namespace Go.Proofs.YtmcnpaelaieniaaGreatDoor
open Go.RowKit
open Lib
theorem kH(V:b5)(ws:List (LU))(hw:∀ x∈ws,x.length<=10000000)(hn:ws.length<=10000000)(B:OA)(n cb bb ob:Nat)(hB:ws≠[]->B=some ⟨bb,ob,none⟩)(hnl:n=ws.length):
 Fn 63 [.slice B n cb] [] ([.seg bb ob (cK ws)]++V.heap) λ v H'=>∃ (A:OA) (c:Nat),v=.tuple #[.slice A (bn ws).1.length c,.bool (AF ws)]/\H'=[.own (.slice A (bn ws).1.length c) 2 1 (bn ws).1.length (ax (bn ws).1)]:=by
 subst hnl;refine aJ Tryz.func63 rfl rfl λ w0=>?_;refine ad (aa (ae [] rfl ?_));refine ad (aa (ah [] rfl ?_));refine cX (n:=ws.length) (c:=ws.length) rfl rfl rfl rfl rfl rfl (by omega) (by omega) (by omega) (λ _=>rfl) λ g=>?_;rw[show made [Value.int .i64 0] (ws.length*1)=ax (List.replicate ws.length 0) by rw[dh,G8];simp[ax]];refine ae [] rfl ?_;refine ad (ad (aa (ae [] rfl ?_)));refine au ?_
 refine bO (σ:=Nat) (λ k=>[(14,.int .i64 k),(13,.int .i64 ws.length),(12,.slice B ws.length cb),(4,.slice (some ⟨g,0,none⟩) ws.length ws.length)]) (λ k=>[.own (.slice (some ⟨g,0,none⟩) ws.length ws.length) 2 1 ws.length (ax ((ws.take k).map (λ w=>(dj w).1)++List.replicate (ws.length-k) 0)),.seg bb ob (cK ws)]++V.heap)
  (λ k=>k<=ws.length/\∀ j x,j<k->ws[j]?=some x->(dj x).2=0) (λ k=>ws.length-k) 0 [0,1,2,3,4] ⟨rfl,rfl,rfl,rfl,an⟩ (by decide) rfl ⟨GB _,λ j x h=>by omega⟩ ?_
 rintro k ⟨hk,hall⟩;refine ad (aa (ae [] rfl ?_));refine ad (aC rfl (λ hlt=>aq ?_) (λ hge=>bc ?_))
 ·have hlt':k<ws.length:=by omega
  obtain⟨x,hx⟩:∃ x,ws[k]?=some x:=⟨ws[k],Gq hlt'⟩;obtain rfl:=hB (by rintro rfl;simp at hlt');have hxl:=hw x (Gu hx);refine ad (au ?_);refine ad (aa (ah [] rfl ?_));refine ab [] (bR rfl hlt') rfl ?_;refine ab [] (a8 1 rfl rfl (fy hx)) rfl ?_;refine ae [] rfl ?_;refine ad (aa ?_);refine am (gs:=[999]) rfl ?_;refine ap [] (rh V x (by omega)) rfl (by kernel_rfl) ⟨⟨2,by simp,rfl⟩,⟨3,by simp,rfl⟩,⟨4,by simp,rfl⟩,an⟩ (λ _=>rfl) ?_;rintro v H' ⟨rfl,rfl⟩;refine⟨rfl,?_⟩;refine ae [] rfl ?_;refine ad (ad (aa (ae [] rfl ?_)));refine aC rfl (λ he=>?_) (λ he=>aq ?_)
  ·have hne:=nA hx hall he;refine ad (aa (ae [] rfl ?_));refine cd 2 1 ?_;refine az [0] (by decide) rfl (ay ⟨_,rfl,none,0,?_,?_⟩)
   ·rw[hne,show AF ws=false from HN (by rw[hne];exact he)];rfl
   ·rw[hne];rfl
  ·have he0:(dj x).2=0:=Classical.not_not.1 he;refine aa (ah [] rfl ?_);refine ab [] (bR rfl hlt') rfl ?_;refine aO 0 rfl rfl rfl rfl (dU rfl (by rw[List.length_append,List.length_map,List.length_take,List.length_replicate];omega)) [] rfl ?_;refine ae [] rfl ?_;refine aa (ae [] rfl ?_);refine⟨k+1,[0,1,2,3,4],⟨?_,rfl,rfl,rfl,trivial⟩,by decide,?_,⟨by omega,fun j y hj hy=>?_⟩,by omega⟩
   ·show some (Value.int .i64 (IntKind.i64.wrap ((k:Int)+1)))=_;rw[cv (by omega)];rfl
   ·have:((ws.take k).map (λ w=>(dj w).1)++List.replicate (ws.length-k) 0).set k (dj x).1=(ws.take (k+1)).map (λ w=>(dj w).1)++List.replicate (ws.length-(k+1)) 0:=by
     have hl:((ws.take k).map (λ w=>(dj w).1)).length=k:=by rw[GA,GV];omega
     rw[HJ _ _ (by omega),hl,HC,GO,hx,show ws.length-k=(ws.length-(k+1))+1 by omega,Hw,HU];simp
    rw[<- this];simp only[GZ];rfl
   ·by_cases e:j=k
    ·subst e;rw[hx] at hy;obtain rfl:=G0 hy;exact he0
    ·exact hall j y (by omega) hy
 have hkl:k=ws.length:=by omega
 subst hkl
 have hok:=qB (ws:=ws) λ w hw'=>by
  obtain⟨j,hj,e⟩:=IB hw';exact hall j w hj (by rw[Gq hj,e])
 rw[GY,HC,IX,G5];refine ad (aa (ae [] rfl ?_));refine az [0] (by decide) rfl (ay ⟨_,rfl,some ⟨g,0,none⟩,ws.length,?_,?_⟩)
 ·rw[hok,show AF ws=true from Ii (by rw[hok])];simp only[GA];rfl
 ·rw[hok];simp only[GA]
theorem sd(V:b5)(f:LU)(hf:f.length<=100)(l:LI)(hl:∀ n∈l,dn n)(hll:l.length<=100000)(B:OA)(n cb bb ob:Nat)(hB:l≠[]->B=some ⟨bb,ob,none⟩)(hn:n=l.length):
 Fn 69 [dF f,.slice B n cb] [] ([.seg bb ob (ax l)]++V.heap) λ v H'=>v=dF (fF f l)/\H'=[]:=by
 subst hn;have hwl:=ef f l hl;refine aJ Tryz.func69 rfl rfl λ w0=>?_;refine ad (aa (ae [] rfl ?_));refine ad (aa (ah [] rfl ?_));refine bF rfl rfl rfl rfl rfl rfl rfl (λ _=>rfl) λ g0=>?_;refine fb 1 1 (by rfl) (by decide) ?_;refine ae [] rfl ?_;refine ad (ad (aa (ae [] rfl ?_)));refine au ?_
 refine bO (σ:=Nat×OA×Nat) (λ s=>[(12,.int .i64 s.1),(11,.int .i64 l.length),(10,.slice B l.length cb),(5,.slice s.2.1 (f::(l.take s.1).map itoa).length s.2.2)])
  (λ s=>[.own (.slice s.2.1 (f::(l.take s.1).map itoa).length s.2.2) 9 1 (f::(l.take s.1).map itoa).length (cK (f::(l.take s.1).map itoa)),.seg bb ob (ax l)]++V.heap)
  (λ s=>s.1<=l.length) (λ s=>l.length-s.1) (0,some ⟨g0,0,none⟩,1) [0,1,2,3,4] ⟨rfl,rfl,rfl,rfl,an⟩ (by decide) rfl (GB _) ?_
 rintro⟨k,A,c⟩ hk;simp only at hk ⊢;refine ad (aa (ae [] rfl ?_));refine ad (aC rfl (λ hlt=>aq ?_) (λ hge=>bc ?_))
 ·have hlt':k<l.length:=by omega
  obtain⟨x,hx⟩:∃ x,l[k]?=some x:=⟨l[k],Gq hlt'⟩;obtain rfl:=hB (by rintro rfl;simp at hlt');have hxB:=hl x (Gu hx);have hlen:(f::(l.take k).map itoa).length=k+1:=by rw[Gz,GA,GV];omega
  refine ad (au ?_);refine ad (aa (ah [] rfl ?_));refine ab [] (bR rfl hlt') rfl ?_;refine ab [] (a8 1 rfl rfl (be hx)) rfl ?_;refine ae [] rfl ?_;refine aa (ah [] rfl ?_);refine ap [] (pY V x hxB) rfl (by kernel_rfl) ⟨⟨2,by simp,rfl⟩,⟨3,by simp,rfl⟩,⟨4,by simp,rfl⟩,an⟩ (λ _=>rfl) ?_;rintro v H' ⟨rfl,rfl⟩;refine⟨rfl,?_⟩;refine bF rfl rfl rfl rfl rfl rfl rfl (λ _=>rfl) λ g2=>?_;refine bv (n:=(f::(l.take k).map itoa).length) (m:=1) (off:=0) (news:=cK [itoa x]) 1 0 rfl rfl rfl rfl rfl rfl (by decide) rfl rfl (aF g2 _ _ (0,0)) (λ _=>rfl) rfl rfl (by omega) (by omega) (λ _ _=>rfl) λ A2 c2=>?_;refine ae [] rfl ?_;refine aa (ae [] rfl ?_);have htk:f::(l.take (k+1)).map itoa=(f::(l.take k).map itoa)++[itoa x]:=by rw[GO,hx];simp
  refine⟨(k+1,A2,c2),[1,2,3,4,5],⟨?_,rfl,rfl,?_,an⟩,by decide,?_,by simp only;omega,by simp only;omega⟩
  ·show some (Value.int .i64 (IntKind.i64.wrap ((k:Int)+1)))=_;rw[cv (by omega)];rfl
  ·simp only[htk];rw[Gx];rfl
  ·simp only[htk];rw[Gx,show cK ((f::(l.take k).map itoa)++[itoa x])=cK (f::(l.take k).map itoa)++cK [itoa x] by simp[cK]];rfl
 obtain rfl:k=l.length:=by omega
 refine bh (aW 0 rfl) (λ ho=>?_);obtain⟨g,rfl⟩:=ho.2.2.1 (by simp);rw[GY] at*;refine ad (aa (ah [] rfl ?_));refine ap [] (qx (some ⟨g,0,none⟩) _ c g 0 (f::l.map itoa) rfl (λ _=>rfl) ho.2.1 (by show (fF f l).length<=_;omega) (by simp;omega)) rfl (by kernel_rfl) ⟨⟨0,_,by simp,rfl,cp,.inr rfl⟩,an⟩ (λ _=>rfl) ?_;rintro v H' ⟨rfl,rfl⟩;refine⟨rfl,?_⟩;refine ae [] rfl ?_;exact az [] (by decide) rfl (ay ⟨_,rfl,rfl,rfl⟩)
def Eg(A:OA)(c:Nat)(o:List cN):aV:=.own (.slice A o.length c) 9 1 o.length (cK o)
def EB(o:List cN)(v:Value)(H':Heap):Prop:=∃ (A:OA) (c:Nat),v=.slice A o.length c/\H'=[Eg A c o]
theorem rG:Fn 72 [] [] [] (EB gZ):=by
 refine aJ Tryz.func72 rfl rfl λ w0=>?_;refine ad (aa (ae [] rfl ?_));refine ad (aa (ah [] rfl ?_));refine bF rfl rfl rfl rfl rfl rfl rfl (λ _=>rfl) λ g=>?_;refine fb 1 1 (by rfl) (by decide) ?_;refine ae [] rfl ?_;exact az [0] (by decide) rfl (ay ⟨_,rfl,some ⟨g,0,none⟩,1,rfl,rfl⟩)
theorem o7(V:b5)(e:Int)(he:dn e)(A:OA)(n c:Nat):Fn 65 [.int .i64 e,.slice A n c] [] V.heap λ v H'=>(e=0/\v=.slice A n c/\H'=[])\/(e≠0/\EB (oU e) v H'):=by
 refine aJ Tryz.func65 rfl rfl λ w0=>?_;refine ad (aa (ae [] rfl ?_));refine ad (ad (aa (ae [] rfl ?_)));refine aC rfl (λ hz=>?_) (λ hz=>aq ?_)
 ·refine ad (aa (ah [] rfl ?_));refine bF rfl rfl rfl rfl rfl rfl rfl (λ _=>rfl) λ g=>?_;refine ap [] (sd V td (by decide) [e] (λ x hx=>by rw[Gy.1 hx];exact he) (by simp) (some ⟨g,0,none⟩) 1 1 g 0 (λ _=>rfl) rfl) rfl (by kernel_rfl) ⟨⟨0,_,by simp,rfl,aF _ _ _ (0,0),.inr rfl⟩,⟨1,by simp,rfl⟩,⟨2,by simp,rfl⟩,⟨3,by simp,rfl⟩,an⟩ (λ _=>rfl) ?_;rintro v H' ⟨rfl,rfl⟩;refine⟨rfl,?_⟩;refine bF rfl rfl rfl rfl rfl rfl rfl (λ _=>rfl) λ g2=>?_;refine fb 1 1 (by rfl) (by decide) ?_;refine ae [] rfl ?_;exact az [0] (by decide) rfl (ay ⟨_,rfl,.inr ⟨hz,some ⟨g2,0,none⟩,1,rfl,rfl⟩⟩)
 ·refine ad (aa (ae [] rfl ?_));exact az [] (by decide) rfl (ay ⟨_,rfl,.inl ⟨GK.1 hz,rfl,rfl⟩⟩)
def ym(N:aU)(v:Int)(k:Nat):LN:=(List.range k).filter (rk N v)
theorem zi{N:aU}{v:Int}{k:Nat}{a:dI}(h:N.arcs[k]?=some a):ym N v (k+1)=ym N v k++(if a.fr=v then [k] else []):=by
 unfold ym;rw[Ir,Im]
 congr 1
 unfold rk;simp only[H6,List.filter_nil,h,G3]
theorem BH(N:aU)(v:Int)(k:Nat):(ym N v k).length<=k:=by
 have:=HI (rk N v) (List.range k);rw[HM] at this;exact this
def mI(its:List (Int×d9×Int)):LV_:=(its.map λ x=>[Value.int .u8 x.1,cz x.2.1,Value.int .i64 x.2.2]).flatten
theorem CS(its:List (Int×d9×Int))(x:Int×d9×Int):mI its++[Value.int .u8 x.1,cz x.2.1,Value.int .i64 x.2.2]=mI (its++[x]):=by simp[mI]
section
variable {X:Cx}
theorem aH.mid3{A A1 A2 R I:Heap}(ix jx:LN)(h1:Proofs.YtmcnpaelaieniaaGreatDoor.bU A ix=some A1)(h2:Proofs.YtmcnpaelaieniaaGreatDoor.bU A jx=some A2)(hn:(ix++jx).Nodup):aH X (A++(R++I)) ((A1++R)++(A2++I)):=
 (aH.mid2 ix jx h1 h2 hn).trans (aH.perm (Ip _ Iq))
theorem aH.ret3{A B R I:Heap}:aH X ((A++R)++(B++I)) ((A++B)++(R++I)):=
 (aH.perm (Ip _ Iq)).trans aH.ret2
end
def wy(N:aU)(f:LI)(v:Value)(H':Heap):Prop:=∃ (its:List (Int×d9×Int)) (A':OA) (c':Nat),its.map (λ x=>(x.1,x.2.1.l,x.2.2))=(jd N ⟨f,cS (N.arcs.zip f) N.snk⟩).map (λ y=>(y.1,y.2.1.map (λ (i:Nat)=>(i:Int)),y.2.2))/\
 v=.tuple #[.slice A' its.length c',.int .i64 0]/\H'=[.own (.slice A' its.length c') 235 3 its.length (mI its)]++its.map λ x=>aZ 3 x.2.1
set_option maxHeartbeats 4000000 in
theorem yQ(N:aU)(hN:N.Fits)(hR:N.Right)(A:OA)(c b o:Nat)(hA:N.arcs≠[]->A=some ⟨b,o,none⟩)(f:LI)(F:OA)(cf bf of:Nat)(hF:f≠[]->F=some ⟨bf,of,none⟩)(hf:∀ x∈f,dn x)(hfl:f.length*8<=140737488351232)(hflow:aK N f)(hne:N.arcs≠[]):
 Fn 157 [bp N A c,.slice F f.length cf] [] [.seg b o (arcs N.arcs),.seg bf of (ax f)] (wy N f):=by
 have hl2:=hR.len;have hnn:=hR.nodes;have hlen:=hflow.len;obtain rfl:=hA hne;obtain rfl:=hF (by rintro rfl;simp only[GQ] at hlen;exact hne (GM.1 hlen.symm));obtain⟨n,hn⟩:∃ n:Nat,N.nodes=n:=⟨N.nodes.toNat,by omega⟩;refine aJ Tryz.func157 rfl rfl λ w0=>?_;refine ad (aa ?_);refine bx (cs:=bI N (some ⟨b,o,none⟩) c) rfl rfl rfl (λ _=>rfl) λ p=>?_;refine ae [] rfl ?_;refine ad (aa ?_);refine ab [] (v:=bp N (some ⟨b,o,none⟩) c) (af 0 rfl) rfl ?_;refine ah [] rfl ?_;refine ap [] (gq N hN hR (some ⟨b,o,none⟩) c b o hA f (some ⟨bf,of,none⟩) cf bf of hF hf hfl) rfl (by kernel_rfl) ⟨⟨1,_,by simp,rfl,ak _ _ _,av⟩,⟨2,_,by simp,rfl,ak _ _ _,av⟩,an⟩ (λ _=>rfl) ?_;rintro v H' ⟨⟨rfl,_⟩|⟨_,hno⟩,rfl⟩
 case inr=>exact absurd hflow hno
 refine⟨rfl,?_⟩;obtain⟨vv,hvv⟩:∃ vv,vv=cS (N.arcs.zip f) N.snk:=⟨_,rfl⟩;rw[<- hvv];refine ae [] rfl ?_;refine ad (ad (aa (ae [] rfl ?_)));refine aC rfl (λ h=>absurd rfl h) (λ _=>aq ?_)
 refine jg (σ:=Nat×Nat×Nat×Nat) (λ t=>[(8,.pointer (some ⟨t.1,0,none⟩)),(2,.pointer (some ⟨p,0,none⟩))])
  (λ t=>[blk t.1 256 (lU N (some ⟨b,o,none⟩) c (some ⟨t.2.1,0,none⟩) f.length t.2.2.1 vv (some ⟨t.2.2.2,0,none⟩) (n+1) (n+1) 0),.own (.slice (some ⟨t.2.2.2,0,none⟩) (n+1) (n+1)) 23 1 (n+1) ((List.replicate (n+1) dv).map cz),.own (.slice (some ⟨t.2.1,0,none⟩) f.length t.2.2.1) 2 1 f.length (ax f),blk p 33 (bI N (some ⟨b,o,none⟩) c),.seg b o (arcs N.arcs)]) ?_ ?_
 ·refine sA (Sf:=[blk p 33 (bI N (some ⟨b,o,none⟩) c)]) ?_;refine sw [0,1,3,4,5,6] (by decide+kernel) [0] (by decide) rfl ?_
  (repeat' (first|refine bB (gs:=[999]) rfl rfl ?_|refine aj [999] (v:=bp N (some ⟨b,o,none⟩) c) rfl (af 0 rfl) rfl ?_|refine aj [999] (v:=.int .i64 N.nodes) rfl (af 0 rfl) rfl ?_))
  refine bq ?_;refine r9 27 (v':=.int .i64 ((n+1:Nat):Int)) rfl (Gt (Value.int .i64) ((cv (n:=N.nodes+1) (by omega)).trans (by omega))) ?_;refine bT 2 [7] (by decide+kernel) (by decide) ⟨⟨_,rfl,?_⟩,⟨_,rfl,?_⟩,an⟩
  ·refine ap (fst:=[]) (cap:=[]) [] (fB (some ⟨bf,of,none⟩) cf bf of f (λ _=>rfl) (by omega)) rfl (by kernel_rfl) ⟨⟨2,_,by simp,rfl,ak _ _ _,av⟩,an⟩ (λ _=>rfl) ?_;rintro u H' ⟨Al,cl,rfl,rfl⟩;refine⟨rfl,?_⟩;refine eu (aW 0 rfl) λ ⟨_,_,hAl,hll⟩=>?_;obtain⟨bl,hAl⟩:=bL hAl hll;obtain rfl:=hAl (by intro h0;have:=bK f;rw[h0] at this;simp only[GQ] at this;exact hne (GM.1 (by omega)));refine ai ⟨⟨[1],by decide,rfl⟩,?_⟩;refine bT 7 [] (by decide+kernel) (by decide) ⟨⟨_,rfl,?_⟩,an⟩;refine cX (n:=n+1) (c:=n+1) rfl rfl rfl rfl rfl rfl (by omega) (by omega) (by omega) (λ _=>rfl) λ go=>?_;rw[show made [Value.slice none 0 0] ((n+1)*1)=(List.replicate (n+1) dv).map cz by rw[dh,G8,HT];rfl];refine ai ⟨⟨[2],by decide,rfl⟩,?_⟩;refine bT 8 [] (by decide+kernel) (by decide) ⟨⟨_,rfl,?_⟩,an⟩;refine ab [] (bz rfl rfl rfl rfl rfl rfl) rfl ?_;refine ai ⟨⟨[2],by decide,rfl⟩,?_⟩;refine bT 9 [] (by decide+kernel) (by decide) ⟨⟨_,rfl,?_⟩,an⟩;refine bx (cs:=lU N (some ⟨b,o,none⟩) c (some ⟨bl,0,none⟩) f.length cl vv (some ⟨go,0,none⟩) (n+1) (n+1) 0) rfl rfl rfl (λ _=>rfl) λ pw=>?_;refine ai ⟨⟨[3],by decide,rfl⟩,?_⟩;refine bT 10 [] (by decide+kernel) (by decide) ⟨⟨_,rfl,?_⟩,an⟩;refine ae [] rfl ?_;refine⟨⟨[3],by decide,rfl⟩,?_⟩;exact kY (by decide+kernel) ⟨(pw,bl,cl,go),⟨rfl,rfl,an⟩,aH.picks [0,1,2,3,4] (by decide) rfl⟩
  ·refine cX (n:=n+1) (c:=n+1) rfl rfl rfl rfl rfl rfl (by omega) (by omega) (by omega) (λ _=>rfl) λ go=>?_;rw[show made [Value.slice none 0 0] ((n+1)*1)=(List.replicate (n+1) dv).map cz by rw[dh,G8,HT];rfl];refine ai ⟨⟨[1],by decide,rfl⟩,?_⟩;refine bT 2 [] (by decide+kernel) (by decide) ⟨⟨_,rfl,?_⟩,an⟩;refine ap (fst:=[]) (cap:=[]) [] (fB (some ⟨bf,of,none⟩) cf bf of f (λ _=>rfl) (by omega)) rfl (by kernel_rfl) ⟨⟨3,_,by simp,rfl,ak _ _ _,av⟩,an⟩ (λ _=>rfl) ?_;rintro u H' ⟨Al,cl,rfl,rfl⟩;refine⟨rfl,?_⟩;refine eu (aW 0 rfl) λ ⟨_,_,hAl,hll⟩=>?_;obtain⟨bl,hAl⟩:=bL hAl hll;obtain rfl:=hAl (by intro h0;have:=bK f;rw[h0] at this;simp only[GQ] at this;exact hne (GM.1 (by omega)));refine ai ⟨⟨[2],by decide,rfl⟩,?_⟩;refine bT 8 [] (by decide+kernel) (by decide) ⟨⟨_,rfl,?_⟩,an⟩;refine ab [] (bz rfl rfl rfl rfl rfl rfl) rfl ?_;refine ai ⟨⟨[2],by decide,rfl⟩,?_⟩;refine bT 9 [] (by decide+kernel) (by decide) ⟨⟨_,rfl,?_⟩,an⟩;refine bx (cs:=lU N (some ⟨b,o,none⟩) c (some ⟨bl,0,none⟩) f.length cl vv (some ⟨go,0,none⟩) (n+1) (n+1) 0) rfl rfl rfl (λ _=>rfl) λ pw=>?_;refine ai ⟨⟨[3],by decide,rfl⟩,?_⟩;refine bT 10 [] (by decide+kernel) (by decide) ⟨⟨_,rfl,?_⟩,an⟩;refine ae [] rfl ?_;refine⟨⟨[3],by decide,rfl⟩,?_⟩;exact kY (by decide+kernel) ⟨(pw,bl,cl,go),⟨rfl,rfl,an⟩,aH.picks [0,2,1,3,4] (by decide) rfl⟩
 rintro⟨pw,bl,cl,go⟩;refine ad (ad (aa (ah [] rfl ?_)));refine ab [] (v:=.slice (some ⟨b,o,none⟩) N.arcs.length c) (af 3 rfl) rfl ?_;refine ae [] rfl ?_;refine au ?_;refine bJ (aH.nils 3 (n+1)) ?_
 refine b6 (σ:=Nat×List d9) (λ s=>[(34,.int .i64 (s.1:Int)),(33,.int .i64 (N.arcs.length:Int)),(32,.slice (some ⟨b,o,none⟩) N.arcs.length c),(8,.pointer (some ⟨pw,0,none⟩)),(2,.pointer (some ⟨p,0,none⟩))])
  (λ s=>[blk pw 256 (lU N (some ⟨b,o,none⟩) c (some ⟨bl,0,none⟩) f.length cl vv (some ⟨go,0,none⟩) (n+1) (n+1) 0),.own (.slice (some ⟨go,0,none⟩) (n+1) (n+1)) 23 1 (n+1) (s.2.map cz),.own (.slice (some ⟨bl,0,none⟩) f.length cl) 2 1 f.length (ax f),blk p 33 (bI N (some ⟨b,o,none⟩) c),.seg b o (arcs N.arcs)]++s.2.map (aZ 3))
  (λ s=>s.1<=N.arcs.length/\s.2.length=n+1/\∀ (v:Nat) (r:d9),s.2[v]?=some r->r.l=(ym N (v:Int) s.1).map λ (i:Nat)=>(i:Int)) (λ s=>N.arcs.length-s.1)
  (0,List.replicate (n+1) dv) ⟨rfl,rfl,rfl,rfl,rfl,an⟩ aH.refl ⟨GB _,by simp,λ v r h=>?_⟩ ?_
 ·rw[GN] at h;split at h
  ·simp only[Gs] at h;subst h;rfl
  ·cases h
 rintro⟨k,rows⟩ ⟨hk,hrows,htr⟩;simp only at hk hrows htr ⊢;refine ad (aa (ae [] rfl ?_));refine ad (aC rfl (λ hlt=>aq ?_) (λ hge=>bc ?_))
 ·have hlt:k<N.arcs.length:=by omega
  obtain⟨a,ha⟩:∃ a,N.arcs[k]?=some a:=⟨_,Gq hlt⟩;have har:=hR.arc a (Gu ha);obtain⟨v,hv⟩:∃ v:Nat,a.fr=v:=⟨a.fr.toNat,by omega⟩;have hvn:v<rows.length:=by omega
  obtain⟨row,hrow⟩:∃ r,rows[v]?=some r:=⟨rows[v],Gq hvn⟩;have hrl':=htr v row hrow;have hokl:=BH N (v:Int) k;have hrowl:row.l.length=(ym N (v:Int) k).length:=by rw[hrl',GA]
  refine ad (au ?_);refine ad (aa (ah [] rfl ?_));refine ab [] (e6 rfl hlt) rfl ?_;refine ab [] (a8 4 rfl rfl (eY ha)) rfl ?_;refine ah [] rfl ?_;refine bo rfl rfl rfl (λ _=>rfl) λ p10=>?_;refine ah [] rfl ?_;refine aA 0 rfl [] rfl ?_;refine ai ?_;show J _ _ _ _ ([blk p10 37 [.int .i64 a.fr,.int .i64 a.to,.int .i64 a.cap],_,_,_,_,_]++rows.map (aZ 3));rw[hv];refine bJ (aH.front (i:=v) (c:=aZ 3 row) (by rw[GC,hrow];rfl)) ?_;refine bu 18 (cZ [0,1,2,3,4,5,6,7,8,9,10,11,12,13,14]++[(15,false),(16,false)]++cZ [17]) [1,2,3] (by kernel_rfl) (by decide) rfl ?_;refine aB [] rfl ?_;refine aj [] rfl (af (v:=.slice (some ⟨go,0,none⟩) (n+1) (n+1)) 1 rfl) rfl ?_;refine aB [] rfl ?_;refine aj [] rfl (af (v:=.int .i64 (v:Int)) 0 rfl) rfl ?_;refine aB [] rfl ?_;refine aj [] rfl (af (v:=.slice (some ⟨go,0,none⟩) (n+1) (n+1)) 1 rfl) rfl ?_;refine aB [] rfl ?_;refine aj [] rfl (af (v:=.int .i64 (v:Int)) 0 rfl) rfl ?_;refine aj [] rfl (aG rfl (by omega)) rfl ?_;refine aj [] rfl (aD (v:=cz row) 2 rfl rfl rfl (show (rows.map cz)[v]?=some (cz row) by rw[GC,hrow];rfl)) rfl ?_;refine aB [] rfl ?_;refine bg rfl ?_;refine bF rfl rfl rfl rfl rfl rfl rfl (λ _=>rfl) λ g2=>?_;refine ai ⟨⟨[2,3,4],by decide,rfl⟩,?_⟩;refine bg rfl ?_;refine bv (n:=row.l.length) (m:=1) (off:=0) (news:=ax [(k:Int)]) 1 0 rfl rfl rfl rfl rfl rfl (by decide) rfl rfl (aF g2 _ _ (0,0)) (λ _=>rfl) rfl rfl (by omega) (by omega) (λ _ _=>rfl) λ A2 c2=>?_;rw[show row.l.length+1=(row.l++[(k:Int)]).length by simp,show ax row.l++ax [(k:Int)]=ax (row.l++[(k:Int)]) by simp[ax]];refine ai ⟨⟨[2,3,4],by decide,rfl⟩,?_⟩;refine aj [] rfl (aG rfl (by omega)) rfl ?_;refine bq ?_;refine aO 4 rfl rfl rfl rfl (df rfl rfl rfl (by rw[GA];omega)) [] rfl ?_;refine ai ?_;refine aa (ae [] rfl ?_);refine⟨(k+1,rows.set v ⟨A2,c2,row.l++[(k:Int)]⟩),⟨?_,rfl,rfl,rfl,rfl,an⟩,?_,⟨by simp only;omega,by simp only[Ha];omega,λ u q hu=>?_⟩,by simp only;omega⟩
  ·show some (Value.int .i64 (IntKind.i64.wrap ((k:Int)+1)))=_;rw[cv (by omega)];rfl
  ·simp only[In];refine aH.trans (aH.sub (G9 _ _)) (aH.trans (aH.back (A:=[_,_,_,_,_,_]) (by rw[GA];exact hvn)) (aH.re [1,2,3,4,5] rfl (by decide)))
  ·simp only at hu ⊢;rw[zi ha,GX];by_cases huv:v=u
   ·subst huv;rw[GH hvn] at hu;simp only[Gs] at hu;rw[<- hu,if_pos hv,hrl'];rfl
   ·rw[GJ huv] at hu;rw[if_neg (λ e=>huv (by omega)),Hy,G5];exact htr u q hu
 obtain rfl:k=N.arcs.length:=by omega
 refine bh (p:=∀ v:Nat,∃ gv:Nat,∀ row,rows[v]?=some row->row.l.length<=row.c/\(ax row.l≠[]->row.A=some ⟨gv,0,none⟩)) (λ w hw v=>?_) λ hrowA=>?_
 ·cases hv:rows[v]? with
  |none=>exact⟨0,λ row h=>by cases h⟩
  |some row=>
   obtain⟨_,h2,h3,h4⟩:=aW (X:=⟨w0,[],⟨0,[]⟩⟩) (v+5) (show _=some (aZ 3 row) by show (rows.map (aZ 3))[v]?=_;rw[GC,hv];rfl) w hw;obtain⟨gv,hgv⟩:=bL h3 h4;exact⟨gv,λ row' h=>by simp only[Gs] at h;subst h;exact⟨h2,hgv⟩⟩
 obtain⟨gv,hgv⟩:∃ gv:Nat->Nat,∀ (v:Nat) (row:d9),rows[v]?=some row->row.l.length<=row.c/\(ax row.l≠[]->row.A=some ⟨gv v,0,none⟩):=⟨λ v=>Classical.choose (hrowA v),λ v=>Is (hrowA v)⟩
 clear hrowA
 have hV0:oY rows gv (List.replicate (n+1) 0) (rows.map cz):=by
  refine⟨by simp,λ v row q hr hq=>?_⟩;rw[GN] at hq;split at hq
  ·obtain rfl:=G0 hq;refine⟨row.A,row.c,by rw[GC,hr];rfl,(hgv v row hr).1,λ hlt=>(hgv v row hr).2 (λ h0=>?_)⟩;have:=bK row.l;rw[h0] at this;simp only[GQ] at this;omega
  ·cases hq
 have hD0:=tJ.start N f n;have hL:∀ (v:Nat) (row:d9),rows[v]?=some row->row.l=(fx N (v:Int)).map λ (i:Nat)=>(i:Int):=htr;obtain⟨w1,hw1⟩:∃ w1:Wk,w1=⟨f,vv⟩:=⟨_,rfl⟩
 have hw1s:w1.size<=2001:=by
  have:l8 w1.left<=w1.left.length:=List.countP_le_length;have e:w1.left.length=f.length:=by rw[hw1]
  unfold Wk.size;split<;>omega
 have hOK:w1.OK N:=by subst hw1;exact⟨hflow,hvv.symm⟩
 refine ad (aa (ae [] rfl ?_));refine ad (au ?_);refine cd 235 3 ?_
 refine b6 (σ:=List (Int×d9×Int)×List (Int×LN×Int)×Wk×LN×LV_×Nat×OA×Nat) (λ s=>[(11,.slice s.2.2.2.2.2.2.1 s.1.length s.2.2.2.2.2.2.2),(8,.pointer (some ⟨pw,0,none⟩)),(2,.pointer (some ⟨p,0,none⟩))])
  (λ s=>[.own (.slice s.2.2.2.2.2.2.1 s.1.length s.2.2.2.2.2.2.2) 235 3 s.1.length (mI s.1),blk pw 256 (lU N (some ⟨b,o,none⟩) c (some ⟨bl,0,none⟩) s.2.2.1.left.length cl s.2.2.1.val (some ⟨go,0,none⟩) (n+1) (n+1) (s.2.2.2.2.2.1:Nat)),.own (.slice (some ⟨go,0,none⟩) (n+1) (n+1)) 23 1 (n+1) s.2.2.2.2.1,.own (.slice (some ⟨bl,0,none⟩) s.2.2.1.left.length cl) 2 1 s.2.2.1.left.length (ax s.2.2.1.left),blk p 33 (bI N (some ⟨b,o,none⟩) c),.seg b o (arcs N.arcs)]++(rows.map (aZ 3)++s.1.map λ x=>aZ 3 x.2.1))
  (λ s=>s.2.2.1.OK N/\oY rows gv s.2.2.2.1 s.2.2.2.2.1/\tJ N s.2.2.1.left n s.2.2.2.1/\s.2.2.2.2.2.1<=s.2.2.1.left.length/\(∀ j x,j<s.2.2.2.2.2.1->s.2.2.1.left[j]?=some x->fL x=false)/\s.1.map (λ x=>(x.1,x.2.1.l,x.2.2))=s.2.1.map (λ y=>(y.1,y.2.1.map (λ (i:Nat)=>(i:Int)),y.2.2))/\s.2.1++jd N s.2.2.1=jd N w1/\s.1.length+s.2.2.1.size<=w1.size) (λ s=>s.2.2.1.size)
  ([],[],w1,List.replicate (n+1) 0,rows.map cz,0,none,0) ⟨rfl,rfl,rfl,an⟩ (by subst hw1;simp only[Hy,G5];exact aH.refl) ⟨hOK,hV0,by subst hw1;exact hD0,GB _,λ j x h=>absurd h (Nat.not_lt_zero _),rfl,rfl,by simp⟩ ?_
 rintro⟨its,ps,w,pos,vals,k,Ai,ci⟩ ⟨hw,hV,hD,hk2,hbef,hits,hps,hsum⟩;simp only at hw hV hD hk2 hbef hits hps hsum ⊢;have hwl:=hw.flow.len;refine bh (aW 3 rfl) λ ⟨_,hcl,_,_⟩=>?_;refine ad (ad (aa (ah [] rfl ?_)));refine aw (fst:=[]) (cap:=[]) [] (tA N (some ⟨b,o,none⟩) c w.left (by omega) (some ⟨bl,0,none⟩) cl bl hcl (λ _=>rfl) w.val (some ⟨go,0,none⟩) (n+1) (n+1) k hk2 hbef pw) rfl rfl rfl rfl (by kernel_rfl) (K:=[.own (.slice Ai its.length ci) 235 3 its.length (mI its),.own (.slice (some ⟨go,0,none⟩) (n+1) (n+1)) 23 1 (n+1) vals,.own (.slice (some ⟨bl,0,none⟩) w.left.length cl) 2 1 w.left.length (ax w.left),blk p 33 (bI N (some ⟨b,o,none⟩) c),.seg b o (arcs N.arcs)]++(rows.map (aZ 3)++its.map λ x=>aZ 3 x.2.1)) (aH.re (A1:=[blk pw 256 (lU N (some ⟨b,o,none⟩) c (some ⟨bl,0,none⟩) w.left.length cl w.val (some ⟨go,0,none⟩) (n+1) (n+1) (k:Nat)),.own (.slice Ai its.length ci) 235 3 its.length (mI its),.own (.slice (some ⟨go,0,none⟩) (n+1) (n+1)) 23 1 (n+1) vals,.own (.slice (some ⟨bl,0,none⟩) w.left.length cl) 2 1 w.left.length (ax w.left),blk p 33 (bI N (some ⟨b,o,none⟩) c),.seg b o (arcs N.arcs)]) (R:=rows.map (aZ 3)++its.map λ x=>aZ 3 x.2.1) [1,0,2,3,4,5] rfl (by decide)) ⟨⟨2,_,by simp,rfl,cp,.inr rfl⟩,an⟩ (λ _=>rfl) ?_;rintro u H' ⟨rfl,rfl⟩;refine⟨rfl,?_⟩;refine ae [] rfl ?_;refine aC rfl (λ hp=>aq ?_) (λ hp=>bc ?_)
 ·have hp:bH w.left<w.left.length:=hp;obtain⟨ok2,hsz,hmp,hP,hme⟩:=mx hR hw hp;have hfall:=zE hR hw hp;refine au ?_;show J _ _ _ _ ([_,_,_,_,_,_]++(rows.map (aZ 3)++its.map fun x=>aZ 3 x.2.1));refine aa (ah [] rfl ?_);refine aw (fst:=[]) (cap:=[]) [] (zN N hR (some ⟨b,o,none⟩) c b o (fun _=>rfl) w hw hp cl bl go n hn pw rows hrows hL gv (fun v row h=>(hgv v row h).2) pos vals hV hD) rfl rfl rfl rfl (by kernel_rfl) (aH.mid3 (R:=rows.map (aZ 3)) (I:=its.map fun x=>aZ 3 x.2.1) [0,2,3] [1,4,5] rfl rfl (by decide)) ⟨⟨2,_,by simp,rfl,ak _ _ _,av⟩,trivial⟩ (fun _=>rfl) ?_;rintro u H' ⟨pos2,vals2,A4,c4,hV2,hD2,rfl,rfl⟩;refine⟨cP rfl (cF _ rows),?_⟩;refine bY aH.ret3 ?_;refine ah [] rfl ?_;obtain⟨row,hrow⟩:∃ row:d9,row=⟨A4,c4,(e7 N w).2.1.map fun (i:Nat)=>(i:Int)⟩:=⟨_,rfl⟩;have hrowl:row.l.length=(e7 N w).2.1.length:=by rw[hrow,List.length_map]
  have hrowV:Value.slice A4 (e7 N w).2.1.length c4=cz row:=by unfold cz;rw[hrowl,hrow]
  have hrowC:aV.own (.slice A4 (e7 N w).2.1.length c4) 3 1 (e7 N w).2.1.length (bS (e7 N w).2.1)=aZ 3 row:=by unfold aZ;rw[<- hrowV,hrowl,hrow];rfl
  rw[hrowC,hrowV];refine bF rfl rfl rfl rfl rfl rfl rfl (λ _=>rfl) λ g8=>?_;refine bv (n:=its.length) (m:=1) (off:=0) (news:=[Value.int .u8 (e7 N w).1,cz row,Value.int .i64 (e7 N w).2.2]) 5 0 rfl rfl rfl rfl rfl rfl (by decide) rfl rfl (aF g8 _ _ (0,0)) (λ _=>rfl) rfl rfl (by omega) (by omega) (λ _ _=>rfl) λ A7 c7=>?_;rw[CS its ((e7 N w).1,row,(e7 N w).2.2),show its.length+1=(its++[((e7 N w).1,row,(e7 N w).2.2)]).length by simp];refine ae [] rfl ?_;have hlen2:=(hfall 0).2;have hsp:=tM hR hw hp;refine⟨(its++[((e7 N w).1,row,(e7 N w).2.2)],ps++[e7 N w],vh N w,pos2,vals2,bH w.left,A7,c7),⟨rfl,rfl,rfl,an⟩,?_,⟨ok2,hV2,hD2.fall λ i=>(hfall i).1,by simp only;omega,yA hlen2 (λ i=>(hfall i).1) λ j x hj hx=>vN hj hx,?_,?_,by simp only[Gx,Gz,GQ];omega⟩,by simp only;omega⟩
  ·simp only[GX,GG,Hy];rw[hlen2];exact (show aH _ ([_,_,_,_,_,_,_,_]++(rows.map (aZ 3)++its.map λ x=>aZ 3 x.2.1)) _ from (aH.re [1,5,2,3,4,6,7] rfl (by decide))).trans aH.give
  ·simp only[GX,GG,Hy];rw[hits,hrow]
  ·simp only;rw[<- hps,hsp,G4];rfl
 have hp:¬ bH w.left<w.left.length:=hp;rw[tk hp,G5,hw1,hvv] at hps;refine ad (aa (ae [] rfl ?_));show J _ _ _ _ ([_,_,_,_,_,_]++(rows.map (aZ 3)++its.map λ x=>aZ 3 x.2.1));refine bJ ((aH.re [1] rfl (by decide)).trans (aH.sub (List.Sublist.append_left (List.sublist_append_right (rows.map (aZ 3)) (its.map λ x=>aZ 3 x.2.1)) _))) ?_;exact ay ⟨_,rfl,its,Ai,ci,by rw[hits,hps],rfl,rfl⟩
end Go.Proofs.YtmcnpaelaieniaaGreatDoor
