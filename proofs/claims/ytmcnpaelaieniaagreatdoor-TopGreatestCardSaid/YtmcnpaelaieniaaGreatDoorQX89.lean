import Derived.Test.YtmcnpaelaieniaaGreatDoorQX100
import Derived.Test.YtmcnpaelaieniaaGreatDoorQX99
import Derived.Test.YtmcnpaelaieniaaGreatDoorQF
import Derived.Test.YtmcnpaelaieniaaGreatDoorQX91
/- A part of the proof; see NOTES.md. -/
set_option linter.unusedVariables false
set_option linter.unusedSimpArgs false
namespace Go.Proofs.YtmcnpaelaieniaaGreatDoor
open Go.RowKit
theorem DN{N:aU}{e:Int}(h:0<=e/\e<N.arcs.length):∃ (i:Nat) (a:dI),e=i/\N.arcs[i]?=some a/\i<N.arcs.length/\ie N e=a.fr/\ys N e=a.to/\Dp N e=a.cap:=by
 obtain⟨i,rfl⟩:∃ i:Nat,e=i:=⟨e.toNat,by omega⟩;have hi:i<N.arcs.length:=by omega
 refine⟨i,N.arcs[i],rfl,Gq hi,hi,?_,?_,?_⟩
 ·exact iB (Gq hi)
 ·exact qJ (Gq hi)
 ·unfold Dp;rw[GW,Gq hi]
theorem uj(N:aU)(e:Int)(W met:LI)(last:Int):lY N (e::W) met last=if (met≠[]/\ie N e≠last)\/ie N e∈met then false else lY N W (met++[ie N e]) (ys N e):=rfl
def Gc(k:Int)(R:OA)(n c:Nat)(m:Int):Value:=.agg #[.int .u8 k,.slice R n c,.int .i64 m]
set_option maxHeartbeats 1000000 in
theorem Bs(N:aU)(hR:N.Right)(A:OA)(c b o:Nat)(hA:N.arcs≠[]->A=some ⟨b,o,none⟩)(k:Int)(W:LI)(m:Int)(hx:jp N (k,W,m))(R:OA)(cr br or_:Nat)(hRr:W≠[]->R=some ⟨br,or_,none⟩):
 Fn 180 [bp N A c,Gc k R W.length cr m] [] [.seg b o (arcs N.arcs),.seg br or_ (ax W)] λ v H'=>v=.bool (ka N (k,W,m))/\H'=[]:=by
 have hl2:=hR.len;have hWl:W.length<=2000:=hx.len;have hne:W≠[]:=hx.ne;have hpos:0<W.length:=Hc.2 hne;have hamt:0<m:=hx.amt.1;have hrng:∀ e∈W,0<=e/\e<N.arcs.length:=hx.rng;have hkd:k=112\/k=98\/k=99:=hx.kind;obtain rfl:=hRr hne
 have hne2:N.arcs≠[]:=by
  obtain⟨e,he⟩:=I2 _ hne;have:=hrng e he;rintro h0;rw[h0] at this;simp at this;omega
 obtain rfl:=hA hne2;refine aJ Tryz.func180 rfl rfl λ w0=>?_;refine ad (aa ?_);refine bx (cs:=bI N (some ⟨b,o,none⟩) c) rfl rfl rfl (λ _=>rfl) λ p=>?_;refine bx (cs:=[.int .u8 k,.slice (some ⟨br,or_,none⟩) W.length cr,.int .i64 m]) rfl rfl rfl (λ _=>rfl) λ q=>?_;refine ae [] rfl ?_;refine ad (ad (aa (ah [] rfl ?_)));refine ab [] (v:=.int .i64 m) (af 0 rfl) rfl ?_;refine ah [] rfl ?_;refine aX 13 rfl (by omega) ?_;refine ah [3] rfl ?_;refine ab [3] (v:=.slice (some ⟨br,or_,none⟩) W.length cr) (af 0 rfl) rfl ?_;refine ah [3] rfl ?_;refine aX 18 rfl (by omega) ?_;refine ai ?_;refine bG rfl (aq ?_);refine ad (aa ?_);refine mw rfl (λ _=>rfl) λ bm=>?_;refine ae [] rfl ?_;refine ad (aa (ae [] rfl ?_));refine ad (ad (aa (ah [] rfl ?_)));refine ab [] (v:=.slice (some ⟨br,or_,none⟩) W.length cr) (af 1 rfl) rfl ?_;refine ae [] rfl ?_;refine au ?_
 refine bO (σ:=Nat×Int) (λ t=>[(23,.int .i64 t.1),(22,.int .i64 W.length),(21,.slice (some ⟨br,or_,none⟩) W.length cr),(6,.int .i64 t.2),(5,.map (some bm)),(2,.pointer (some ⟨p,0,none⟩)),(3,.pointer (some ⟨q,0,none⟩))])
  (λ t=>[.obj bm (gX (jF ((W.take t.1).map (ie N)))),blk q 235 [.int .u8 k,.slice (some ⟨br,or_,none⟩) W.length cr,.int .i64 m],blk p 33 (bI N (some ⟨b,o,none⟩) c),.seg b o (arcs N.arcs),.seg br or_ (ax W)])
  (λ t=>t.1<=W.length/\lY N W [] 0=lY N (W.drop t.1) ((W.take t.1).map (ie N)) t.2/\(0<t.1->t.2=ys N ((W.take t.1).getLastD 0))) (λ t=>W.length-t.1)
  (0,0) [0,1,2,3,4] ⟨rfl,rfl,rfl,rfl,rfl,rfl,rfl,an⟩ (by decide) rfl ⟨GB _,by simp,λ h=>absurd h (by decide)⟩ ?_
 rintro⟨j,last⟩ ⟨hj,hrw,hlast⟩;simp only at hj hrw hlast ⊢;refine ad (aa (ae [] rfl ?_));refine ad (aC rfl (λ hlt=>aq ?_) (λ hge=>bc ?_))
 ·have hlt:j<W.length:=by omega
  obtain⟨e,he⟩:∃ e,W[j]?=some e:=⟨W[j],Gq hlt⟩;obtain⟨i,a,rfl,ha,hil,hfr,hto,_⟩:=DN (hrng e (Gu he));obtain⟨q0,q1,q2⟩:=eO ha;have htk:W.take (j+1)=W.take j++[(i:Int)]:=by rw[GO,he];rfl
  have hdr:W.drop j=(i:Int)::W.drop (j+1):=by rw[Hf hlt];rw[(Gv.1 he).2]
  have hmet:((W.take j).map (ie N)≠[])↔0<j:=by
   rw[<- Hc,GA,GV];omega
  rw[hdr] at hrw;rw[uj] at hrw;refine ad (au ?_);refine ad (aa (ah [] rfl ?_));refine ab [] (bR rfl hlt) rfl ?_;refine ab [] (a8 4 rfl rfl (be he)) rfl ?_;refine ae [] rfl ?_
  -- whether the walk goes on here
  refine ad (fj [(60,.bool (di ((0<j/\a.fr≠last)\/a.fr∈(W.take j).map (ie N)))),(8,.int .i64 i),(23,.int .i64 j),(22,.int .i64 W.length),(21,.slice (some ⟨br,or_,none⟩) W.length cr),(6,.int .i64 last),(5,.map (some bm)),(2,.pointer (some ⟨p,0,none⟩)),(3,.pointer (some ⟨q,0,none⟩))]
   [.obj bm (gX (jF ((W.take j).map (ie N)))),blk q 235 [.int .u8 k,.slice (some ⟨br,or_,none⟩) W.length cr,.int .i64 m],blk p 33 (bI N (some ⟨b,o,none⟩) c),.seg b o (arcs N.arcs),.seg br or_ (ax W)] ?_ ?_)
  ·skip
   refine aa (ah [] rfl ?_);refine aX 30 rfl (by omega) ?_;refine ah [2] rfl ?_;refine ab [2] (v:=.slice (some ⟨b,o,none⟩) N.arcs.length c) (af 2 rfl) rfl ?_;refine ah [2] rfl ?_;refine aX 37 rfl (by omega) ?_;refine ah [2,9] rfl ?_;by_cases h0:0<j
   ·refine bd 40 rfl (by omega) ?_;refine ah [2,9,12] rfl ?_;refine ab [2,9,12] (v:=.slice (some ⟨b,o,none⟩) N.arcs.length c) (af 2 rfl) rfl ?_;refine ah [2,9,12] rfl ?_;refine ab [2,9,12] (e6 rfl hil) rfl ?_;refine ah [2,9,12] rfl ?_;refine ab [2,9,12] (v:=.int .i64 a.fr) (fm 3 rfl rfl rfl (Nat.add_assoc _ _ _) q0) rfl ?_;refine ah [2,9,12] rfl ?_;by_cases h1:a.fr≠last
    ·refine bd 51 rfl h1 ?_;refine ah [2,9,12,23] rfl ?_;exact ai ⟨[0,1,2,3,4],⟨Gt some (Gt Value.bool (aR (.inl ⟨h0,h1⟩)).symm),rfl,rfl,rfl,rfl,rfl,rfl,rfl,rfl,an⟩,by decide,rfl⟩
    ·refine aX 51 rfl h1 ?_;refine ah [2,9,12,23] rfl ?_;refine ab [2,9,12,23] (v:=.slice (some ⟨b,o,none⟩) N.arcs.length c) (af 2 rfl) rfl ?_;refine ah [2,9,12,23] rfl ?_;refine ab [2,9,12,23] (e6 rfl hil) rfl ?_;refine ah [2,9,12,23] rfl ?_;refine ab [2,9,12,23] (v:=.int .i64 a.fr) (fm 3 rfl rfl rfl (He _ _ _) q0) rfl ?_;refine ab [2,9,12,23] (dB 0 Tryz.underlying205 Tryz.underlying3 rfl rfl rfl rfl rfl) rfl ?_;refine ah [2,9,12,23] rfl ?_;refine ai ⟨[0,1,2,3,4],⟨?_,rfl,rfl,rfl,rfl,rfl,rfl,rfl,rfl,an⟩,by decide,rfl⟩;refine Gt some ((cq _ _).trans (Gt Value.bool ?_));exact ey ⟨λ h=>.inr h,λ h=>h.resolve_left (λ h'=>h1 h'.2)⟩
   ·refine aX 40 rfl (by omega) ?_;refine ah [2,9,12] rfl ?_;refine aI 51 (v':=.bool false) rfl rfl ?_;refine ah [2,9,12,23] rfl ?_;refine ab [2,9,12,23] (v:=.slice (some ⟨b,o,none⟩) N.arcs.length c) (af 2 rfl) rfl ?_;refine ah [2,9,12,23] rfl ?_;refine ab [2,9,12,23] (e6 rfl hil) rfl ?_;refine ah [2,9,12,23] rfl ?_;refine ab [2,9,12,23] (v:=.int .i64 a.fr) (fm 3 rfl rfl rfl (He _ _ _) q0) rfl ?_;refine ab [2,9,12,23] (dB 0 Tryz.underlying205 Tryz.underlying3 rfl rfl rfl rfl rfl) rfl ?_;refine ah [2,9,12,23] rfl ?_;refine ai ⟨[0,1,2,3,4],⟨?_,rfl,rfl,rfl,rfl,rfl,rfl,rfl,rfl,an⟩,by decide,rfl⟩;refine Gt some ((cq _ _).trans (Gt Value.bool ?_));exact ey ⟨λ h=>.inr h,λ h=>h.resolve_left (λ h'=>h0 h'.1)⟩
  have hcond:((0<j/\a.fr≠last)\/a.fr∈(W.take j).map (ie N))↔((W.take j).map (ie N)≠[]/\ie N (i:Int)≠last)\/ie N (i:Int)∈(W.take j).map (ie N):=by rw[hmet,hfr]
  refine aC rfl (λ hbad=>?_) (λ hgood=>aq ?_)
  ·rw[if_pos (hcond.1 hbad)] at hrw;refine ad (aa (ae [] rfl ?_));refine az [] (by decide) rfl (ay ⟨_,rfl,?_,rfl⟩);unfold ka;rw[if_neg (not_or.2 ⟨by simp only;omega,hne⟩),if_pos hrw];rfl
  ·rw[if_neg (λ h=>hgood (hcond.2 h))] at hrw;refine ad (aa (ah [] rfl ?_));refine ab [] (v:=.slice (some ⟨b,o,none⟩) N.arcs.length c) (af 2 rfl) rfl ?_;refine ah [] rfl ?_;refine ab [] (e6 rfl hil) rfl ?_;refine ah [] rfl ?_;refine ab [] (v:=.int .i64 a.fr) (fm 3 rfl rfl rfl (He _ _ _) q0) rfl ?_;refine mb 0 Tryz.underlying205 Tryz.underlying3 rfl rfl rfl rfl rfl (λ z hz=>?_) [] rfl ?_
   ·obtain⟨y,hy,rfl⟩:=GR.1 hz;rintro rfl;exact hgood (.inr hy)
   refine ai ?_;refine aa (ah [] rfl ?_);refine ab [] (v:=.slice (some ⟨b,o,none⟩) N.arcs.length c) (af 2 rfl) rfl ?_;refine ah [] rfl ?_;refine ab [] (e6 rfl hil) rfl ?_;refine ah [] rfl ?_;refine ab [] (v:=.int .i64 a.to) (fm 3 rfl rfl rfl (He _ _ _) q1) rfl ?_;refine ae [] rfl ?_;refine aa (ae [] rfl ?_);refine⟨(j+1,a.to),[0,1,2,3,4],⟨Gt (λ z=>some (Value.int .i64 z)) (cv (by omega)),rfl,rfl,rfl,rfl,rfl,rfl,an⟩,by decide,?_,⟨by simp only;omega,?_,λ _=>?_⟩,by simp only;omega⟩
   ·simp only[htk,GX,GG,Hy,hfr];unfold jF;rw[GX];rfl
   ·simp only[htk,GX,GG,Hy];rw[hrw,hto]
   ·simp only[htk];rw[List.getLastD_eq_getLast?,Hd];exact hto.symm
 obtain rfl:j=W.length:=by omega
 rw[List.drop_length] at hrw;have hgo:lY N W [] 0=true:=hrw;have hlast:=hlast hpos;rw[GY] at*;obtain⟨e0,he0⟩:∃ e,W[0]?=some e:=⟨W[0],Gq hpos⟩
 have hhd:W.headD 0=e0:=by
  cases hc:W with
  |nil=>exact absurd hc hne
  |cons x r=>rw[hc] at he0;simpa using he0
 obtain⟨i,a,rfl,ha,hil,hfr,hto,_⟩:=DN (hrng e0 (Gu he0));obtain⟨q0,q1,q2⟩:=eO ha
 have hres:ka N (k,W,m)=if k=112 then decide ((a.fr=N.src/\last=N.snk)/\last∉W.map (ie N)) else if k=98 then decide ((a.fr=N.snk/\last=N.src)/\last∉W.map (ie N)) else if k=99 then decide (a.fr=last) else false:=by
  unfold ka;rw[if_neg (not_or.2 ⟨by simp only;omega,hne⟩),if_neg (by rw[hgo];decide)];simp only[hhd,hfr,<- hlast]
 rw[hres];refine ad ?_;refine bu 10 (cZ [0,1,2,3,4,5,6,7,8,9]) [0,1,2,3,4] (by kernel_rfl) (by decide) rfl ?_;refine aB [] rfl ?_;refine aj [] (v:=.slice (some ⟨b,o,none⟩) N.arcs.length c) rfl (af 2 rfl) rfl ?_;refine aB [] rfl ?_;refine aj [] (v:=.slice (some ⟨br,or_,none⟩) W.length cr) rfl (af 1 rfl) rfl ?_;refine aj [] (v:=.pointer (some ⟨br,or_+0,none⟩)) rfl (bR (m:=0) rfl hpos) rfl ?_;refine aj [] (v:=.int .i64 i) rfl (a8 4 rfl rfl (be he0)) rfl ?_;refine aj [] rfl (e6 rfl hil) rfl ?_;refine aB [] rfl ?_;refine aj [] (v:=.int .i64 a.fr) rfl (fm 3 rfl rfl rfl (He _ _ _) q0) rfl ?_;refine aB [] rfl ?_;refine bq ?_;refine ai ?_;refine ad (ad (aa (ah [] rfl ?_)));refine ab [] (v:=.int .u8 k) (af 1 rfl) rfl ?_;refine ae [] rfl ?_;refine au (ad (aa (ae [] rfl ?_)));by_cases k1:k=112
 ·refine fd 86 rfl k1 ?_;refine bi rfl ?_;rw[if_pos k1];refine ad (aa (ah [] rfl ?_));refine ab [] (v:=.int .i64 N.src) (af 2 rfl) rfl ?_;refine ah [] rfl ?_;by_cases h1:a.fr=N.src
  ·refine bd 92 rfl h1 ?_;refine ah [4] rfl ?_;refine ab [4] (v:=.int .i64 N.snk) (af 2 rfl) rfl ?_;refine ah [4] rfl ?_;by_cases h2:last=N.snk
   ·refine bd 98 rfl h2 ?_;refine ah [4,10] rfl ?_;refine ab [4,10] (dB 0 Tryz.underlying205 Tryz.underlying3 rfl rfl rfl rfl rfl) rfl ?_;by_cases h3:last∈W.map (ie N)
    ·refine aI 101 (v':=.bool true) rfl ((cq _ _).trans (Gt Value.bool (aR h3))) ?_;refine ah [4,10] rfl ?_;refine ai (az [] (by decide) rfl (ay ⟨_,rfl,Gt Value.bool (HN (λ h=>h.2 h3)).symm,rfl⟩))
    ·refine aI 101 (v':=.bool false) rfl ((cq _ _).trans (Gt Value.bool (a6 h3))) ?_;refine ah [4,10] rfl ?_;refine ai (az [] (by decide) rfl (ay ⟨_,rfl,Gt Value.bool (Ii ⟨⟨h1,h2⟩,h3⟩).symm,rfl⟩))
   ·refine aX 98 rfl h2 ?_;refine ah [4,10] rfl ?_;refine ai (az [] (by decide) rfl (ay ⟨_,rfl,Gt Value.bool (HN (λ h=>h2 h.1.2)).symm,rfl⟩))
  ·refine aX 92 rfl h1 ?_;refine ah [4] rfl ?_;refine aI 98 (v':=.bool false) rfl rfl ?_;refine ah [4,10] rfl ?_;refine ai (az [] (by decide) rfl (ay ⟨_,rfl,Gt Value.bool (HN (λ h=>h1 h.1.1)).symm,rfl⟩))
 refine eE 86 rfl k1 ?_;refine bG rfl ?_;rw[if_neg k1];refine ad (aa (ae [] rfl ?_));by_cases k2:k=98
 ·refine fd 104 rfl k2 ?_;refine bi rfl ?_;rw[if_pos k2];refine ad (aa (ah [] rfl ?_));refine ab [] (v:=.int .i64 N.snk) (af 2 rfl) rfl ?_;refine ah [] rfl ?_;by_cases h1:a.fr=N.snk
  ·refine bd 110 rfl h1 ?_;refine ah [4] rfl ?_;refine ab [4] (v:=.int .i64 N.src) (af 2 rfl) rfl ?_;refine ah [4] rfl ?_;by_cases h2:last=N.src
   ·refine bd 116 rfl h2 ?_;refine ah [4,10] rfl ?_;refine ab [4,10] (dB 0 Tryz.underlying205 Tryz.underlying3 rfl rfl rfl rfl rfl) rfl ?_;by_cases h3:last∈W.map (ie N)
    ·refine aI 119 (v':=.bool true) rfl ((cq _ _).trans (Gt Value.bool (aR h3))) ?_;refine ah [4,10] rfl ?_;refine ai (az [] (by decide) rfl (ay ⟨_,rfl,Gt Value.bool (HN (λ h=>h.2 h3)).symm,rfl⟩))
    ·refine aI 119 (v':=.bool false) rfl ((cq _ _).trans (Gt Value.bool (a6 h3))) ?_;refine ah [4,10] rfl ?_;refine ai (az [] (by decide) rfl (ay ⟨_,rfl,Gt Value.bool (Ii ⟨⟨h1,h2⟩,h3⟩).symm,rfl⟩))
   ·refine aX 116 rfl h2 ?_;refine ah [4,10] rfl ?_;refine ai (az [] (by decide) rfl (ay ⟨_,rfl,Gt Value.bool (HN (λ h=>h2 h.1.2)).symm,rfl⟩))
  ·refine aX 110 rfl h1 ?_;refine ah [4] rfl ?_;refine aI 116 (v':=.bool false) rfl rfl ?_;refine ah [4,10] rfl ?_;refine ai (az [] (by decide) rfl (ay ⟨_,rfl,Gt Value.bool (HN (λ h=>h1 h.1.1)).symm,rfl⟩))
 refine eE 104 rfl k2 ?_;refine bG rfl ?_;have k3:k=99:=(hkd.resolve_left k1).resolve_left k2;rw[if_neg k2,if_pos k3];refine ad (aa (ae [] rfl ?_));refine fd 122 rfl k3 ?_;refine bi rfl ?_;refine ad (aa (ae [] rfl ?_));refine az [] (by decide) rfl (ay ⟨_,rfl,Gt Value.bool ?_,rfl⟩);by_cases h:a.fr=last
 ·rw[Ii h];exact aR h
 ·rw[HN h];exact a6 h
abbrev zK:=Int×d9×Int
def d8(x:zK):It:=(x.1,x.2.1.l,x.2.2)
def lO(A:OA)(c:Nat)(its:List zK):Heap:=[.own (.slice A its.length c) 235 3 its.length (mI its)]++its.map λ x=>aZ 3 x.2.1
theorem xn:∀ {its:List zK} {i:Nat} {x:zK},its[i]?=some x->(mI its)[i*3]?=some (.int .u8 x.1)/\(mI its)[i*3+1]?=some (cz x.2.1)/\(mI its)[i*3+2]?=some (.int .i64 x.2.2)
 |[],i,x,h=>by simp at h
 |a::l,0,x,h=>by simp at h;subst h;simp[mI]
 |a::l,i+1,x,h=>by
  have ih:=xn (its:=l) (i:=i) (x:=x) (by simpa using h);have e:mI (a::l)=[.int .u8 a.1,cz a.2.1,.int .i64 a.2.2]++mI l:=by simp[mI]
  have e1:(i+1)*3=i*3+3:=by omega
  rw[e,e1];refine⟨?_,?_,?_⟩
  ·rw[GL (by simp)];simpa using ih.1
  ·rw[GL (by simp)];simpa using ih.2.1
  ·rw[GL (by simp)];simpa using ih.2.2
theorem ma{its:List zK}{j:Nat}{x:zK}(h:its[j]?=some x):eH 235 (mI its) (j*3)=some (Gc x.1 x.2.1.A x.2.1.l.length x.2.1.c x.2.2):=by
 obtain⟨h1,h2,h3⟩:=xn h;show (match dT (mI its) (j*3) 3 with|some l=>some (Value.agg l.toArray)|none=>none)=_
 have:dT (mI its) (j*3) 3=some [.int .u8 x.1,cz x.2.1,.int .i64 x.2.2]:=by
  unfold dT;rw[h1];unfold dT;rw[h2];unfold dT;rw[h3];unfold dT;rfl
 rw[this];rfl
theorem y6(its:List zK):fX (its.map λ x=>aZ 3 x.2.1)=true:=by
 have:=cF 3 (its.map λ x=>x.2.1)
 rwa [HQ] at this
theorem kV(A:OA)(c:Nat)(its:List zK):fX (lO A c its)=true:=cP rfl (y6 its)
theorem xU(N:aU)(e:Int)(W:LI)(m:Int)(o:LI):sU N (e::W) m o=if Dp N e-o.getD e.toNat 0<m then none else sU N W m (o.set e.toNat (o.getD e.toNat 0+m)):=rfl
theorem tT(N:aU)(x:It)(r:List It)(o:LI):me N (x::r) o=match sU N x.2.1 x.2.2 o with|some o'=>me N r o'|none=>none:=rfl
def within(N:aU)(o:LI):Prop:=o.length=N.arcs.length/\∀ (i:Nat) (a:dI) (y:Int),N.arcs[i]?=some a->o[i]?=some y->0<=y/\y<=a.cap
theorem vC{N:aU}{o:LI}(h:within N o){i:Nat}{a:dI}{y m:Int}(ha:N.arcs[i]?=some a)(hy:o[i]?=some y)(hm:0<=m/\m<=a.cap-y):within N (o.set i (y+m)):=by
 refine⟨by rw[Ha];exact h.1,λ j a' z ha' hz=>?_⟩;by_cases e:i=j
 ·subst e;rw[ha] at ha';obtain rfl:=G0 ha';rw[GH (by have:=(Gv.1 hy).1;exact this)] at hz;obtain rfl:=G0 hz;have:=h.2 i a y ha hy;omega
 ·rw[GJ e] at hz;exact h.2 j a' z ha' hz
theorem aH.unfront{X:Cx}{A R:Heap}{c:aV}{i:Nat}(h:R[i]?=some c):aH X (c::(A++R.eraseIdx i)) (A++R):=by
 have hi:i<R.length:=(Gv.1 h).1;have e:R.set i c=R:=by rw[<- (Gv.1 h).2,List.set_getElem_self]
 have:=aH.back (X:=X) (A:=A) (R:=R) (c:=c) (i:=i) hi
 rwa [e] at this
set_option maxHeartbeats 4000000 in
theorem Cy(N:aU)(hN:N.Fits)(hR:N.Right)(A:OA)(c b o:Nat)(hA:N.arcs≠[]->A=some ⟨b,o,none⟩)(its:List zK)(hok:∀ x∈its.map d8,jp N x)(hl:its.length<=2001)(I:OA)(ci:Nat):
 Fn 158 [bp N A c,.slice I its.length ci] (aL (lO I ci its)) ([.seg b o (arcs N.arcs)]++lO I ci its) λ v H'=>(∃ (F:OA) (n cf:Nat),v=.tuple #[.slice F n cf,.int .i64 (l5 N (its.map d8))])/\H'=lO I ci its:=by
 have hl2:=hR.len
 generalize hM:aL _=M
 refine aJ Tryz.func158 rfl rfl λ w0=>?_;refine ad (aa ?_);refine bx (cs:=bI N A c) rfl rfl rfl (λ _=>rfl) λ p=>?_;refine ae [] rfl ?_;refine ad (ad (aa ?_));refine ab [] (v:=bp N A c) (af 0 rfl) rfl ?_;refine ap [] (iJ N hN A c b o hA) rfl (by kernel_rfl) ⟨⟨1,_,by simp,rfl,ak _ _ _,av⟩,an⟩ (λ _=>rfl) ?_;rintro v H' ⟨rfl,rfl⟩;refine⟨rfl,?_⟩;rw[hR.check];refine ae [] rfl ?_;refine ad (aa (ae [] rfl ?_));refine aC rfl (λ h=>absurd rfl h) (λ _=>aq ?_);refine ad (ad (aa (ae [] rfl ?_)));refine au ?_;show J _ _ _ _ ([blk p 33 (bI N A c),.seg b o (arcs N.arcs),.own (.slice I its.length ci) 235 3 its.length (mI its)]++its.map λ x=>aZ 3 x.2.1);refine bh (aW 2 rfl) λ ⟨_,_,hI0,_⟩=>?_
 refine b6 (σ:=Nat) (λ j=>[(21,.int .i64 j),(20,.int .i64 its.length),(19,.slice I its.length ci),(1,.slice I its.length ci),(2,.pointer (some ⟨p,0,none⟩))])
  (λ _=>[blk p 33 (bI N A c),.seg b o (arcs N.arcs),.own (.slice I its.length ci) 235 3 its.length (mI its)]++its.map λ x=>aZ 3 x.2.1)
  (λ j=>j<=its.length/\((its.take j).map d8).all (ka N)=true) (λ j=>its.length-j) 0 ⟨rfl,rfl,rfl,rfl,rfl,an⟩ aH.refl ⟨GB _,rfl⟩ ?_
 rintro j ⟨hj,hall⟩;refine ad (aa (ae [] rfl ?_));refine ad (aC rfl (λ hlt=>aq ?_) (λ hge=>bc ?_))
 ·have hlt:j<its.length:=by omega
  obtain⟨x,hx⟩:∃ x,its[j]?=some x:=⟨its[j],Gq hlt⟩;obtain⟨gI,rfl⟩:=hI0 (by omega);have hxo:jp N (d8 x):=hok _ (HY (Gu hx));have hrow:(its.map λ x=>aZ 3 x.2.1)[j]?=some (aZ 3 x.2.1):=by rw[GC,hx];rfl
  refine bJ (aH.front (i:=j) (c:=aZ 3 x.2.1) hrow) ?_;refine bh (aW 0 (show _=some (aZ 3 x.2.1) from rfl)) λ ⟨_,_,hr0,hrl⟩=>?_;obtain⟨gr,hgr⟩:=bL hr0 hrl;refine ad (au ?_);refine ad (aa (ah [] rfl ?_));refine ab [] (aN rfl hlt) rfl ?_;refine ab [] (aD 3 rfl rfl rfl (ma hx)) rfl ?_;refine bo rfl rfl rfl (λ _=>rfl) λ p8=>?_;refine aA 0 rfl [] rfl ?_;refine ai ?_;refine ad (aa ?_);refine ab [] (v:=bp N A c) (af 2 rfl) rfl ?_;refine ab [] (v:=Gc x.1 x.2.1.A x.2.1.l.length x.2.1.c x.2.2) (af 0 rfl) rfl ?_;refine ap [] (Bs N hR A c b o hA x.1 x.2.1.l x.2.2 hxo x.2.1.A x.2.1.c gr 0 (λ h=>hgr (λ h0=>h (by simpa [ax] using h0)))) rfl (by kernel_rfl) ⟨⟨3,_,by simp,rfl,ak _ _ _,av⟩,⟨1,_,by simp,rfl,aE hgr,aM hgr⟩,an⟩ (λ _=>rfl) ?_;rintro v H' ⟨rfl,rfl⟩;refine⟨rfl,?_⟩;refine ae [] rfl ?_;refine mi rfl (λ hb=>?_) (λ hb=>aq ?_)
  ·have hb:ka N (d8 x)=false:=by simpa [d8] using hb
   refine ad (aa (ae [] rfl ?_));refine bJ (aH.trans (aH.sub (G9 _ _)) (aH.trans (aH.unfront (A:=[_,_,_]) hrow) (aH.re [2] rfl (by decide)))) ?_;refine ay ⟨_,rfl,⟨none,0,0,?_⟩,rfl⟩
   have:(its.map d8).all (ka N)=false:=by
    rw[List.all_eq_false];exact⟨d8 x,HY (Gu hx),by rw[hb];decide⟩
   unfold l5;rw[if_pos this];rfl
  ·have hb:ka N (d8 x)=true:=by simpa [d8] using hb
   refine aa (ae [] rfl ?_);refine⟨j+1,⟨Gt (λ z=>some (Value.int .i64 z)) (cv (by omega)),rfl,rfl,rfl,rfl,an⟩,?_,⟨by omega,?_⟩,by omega⟩
   ·exact aH.trans (aH.sub (G9 _ _)) (aH.unfront (A:=[_,_,_]) hrow)
   ·rw[GO,hx,GX,List.all_append,hall]
    simpa using hb
 obtain rfl:j=its.length:=by omega
 rw[GY] at hall;refine ad (aa (ah [] rfl ?_));refine ab [] (v:=.slice A N.arcs.length c) (af 0 rfl) rfl ?_;refine ah [] rfl ?_;refine cX (n:=N.arcs.length) (c:=N.arcs.length) rfl rfl rfl rfl rfl rfl (by omega) (by omega) (by omega) (λ _=>rfl) λ go=>?_;rw[nO];refine ae [] rfl ?_;refine ad (ad (aa (ae [] rfl ?_)));refine au ?_;have hz:(List.replicate N.arcs.length (0:Int)).length=N.arcs.length:=by simp
 refine b6 (σ:=Nat×LI) (λ s=>[(36,.int .i64 s.1),(35,.int .i64 its.length),(34,.slice I its.length ci),(1,.slice I its.length ci),(2,.pointer (some ⟨p,0,none⟩)),(9,.slice (some ⟨go,0,none⟩) N.arcs.length N.arcs.length)])
  (λ s=>[.own (.slice (some ⟨go,0,none⟩) N.arcs.length N.arcs.length) 2 1 N.arcs.length (ax s.2),blk p 33 (bI N A c),.seg b o (arcs N.arcs),.own (.slice I its.length ci) 235 3 its.length (mI its)]++its.map λ x=>aZ 3 x.2.1)
  (λ s=>s.1<=its.length/\within N s.2/\me N (its.map d8) (List.replicate N.arcs.length 0)=me N ((its.map d8).drop s.1) s.2) (λ s=>its.length-s.1) (0,List.replicate N.arcs.length 0) ⟨rfl,rfl,rfl,rfl,rfl,rfl,an⟩ aH.refl
  ⟨GB _,⟨hz,λ i a y ha hy=>?_⟩,by rw[List.drop_zero]⟩ ?_
 ·rw[GN] at hy;split at hy
  ·obtain rfl:=G0 hy;have:=(hR.arc a (Gu ha)).2.2;omega
  ·cases hy
 rintro⟨j,l⟩ ⟨hj,hw,hadd⟩;simp only at hj hw hadd ⊢;refine ad (aa (ae [] rfl ?_));refine ad (aC rfl (λ hlt=>aq ?_) (λ hge=>bc ?_))
 ·have hlt:j<its.length:=by omega
  obtain⟨x,hx⟩:∃ x,its[j]?=some x:=⟨its[j],Gq hlt⟩;obtain⟨gI,rfl⟩:=hI0 (by omega);have hxo:jp N (d8 x):=hok _ (HY (Gu hx));have hxl:x.2.1.l.length<=2000:=hxo.len;have hxa:0<x.2.2/\x.2.2<=4611686018427387903:=hxo.amt;have hxr:∀ e∈x.2.1.l,0<=e/\e<N.arcs.length:=hxo.rng;have hmx:(its.map d8)[j]?=some (d8 x):=by rw[GC,hx];rfl
  have hdr:(its.map d8).drop j=d8 x::(its.map d8).drop (j+1):=by
   have hjl:j<(its.map d8).length:=by rw[GA];exact hlt
   rw[Hf hjl,(Gv.1 hmx).2]
  rw[hdr,tT] at hadd;have hrow:(its.map λ x=>aZ 3 x.2.1)[j]?=some (aZ 3 x.2.1):=by rw[GC,hx];rfl
  refine bJ (aH.front (i:=j) (c:=aZ 3 x.2.1) hrow) ?_;refine bh (aW 0 (show _=some (aZ 3 x.2.1) from rfl)) λ ⟨_,_,hr0,hrl⟩=>?_;obtain⟨gr,hgr⟩:=bL hr0 hrl;refine ad (au ?_);refine ad (aa (ah [] rfl ?_));refine ab [] (aN rfl hlt) rfl ?_;refine ab [] (aD 4 rfl rfl rfl (ma hx)) rfl ?_;refine bo rfl rfl rfl (λ _=>rfl) λ p11=>?_;refine aA 0 rfl [] rfl ?_;refine ai ?_;refine ad (aa (ah [] rfl ?_));refine ab [] (v:=.slice x.2.1.A x.2.1.l.length x.2.1.c) (af 0 rfl) rfl ?_;refine ae [] rfl ?_;refine au ?_
  refine b6 (σ:=Nat×LI) (λ s=>[(43,.int .i64 s.1),(42,.int .i64 x.2.1.l.length),(41,.slice x.2.1.A x.2.1.l.length x.2.1.c),(11,.pointer (some ⟨p11,0,none⟩)),(36,.int .i64 j),(35,.int .i64 its.length),(34,.slice (some ⟨gI,0,none⟩) its.length ci),(1,.slice (some ⟨gI,0,none⟩) its.length ci),(2,.pointer (some ⟨p,0,none⟩)),(9,.slice (some ⟨go,0,none⟩) N.arcs.length N.arcs.length)])
   (λ s=>[blk p11 235 [.int .u8 x.1,.slice x.2.1.A x.2.1.l.length x.2.1.c,.int .i64 x.2.2],aZ 3 x.2.1,.own (.slice (some ⟨go,0,none⟩) N.arcs.length N.arcs.length) 2 1 N.arcs.length (ax s.2),blk p 33 (bI N A c),.seg b o (arcs N.arcs),.own (.slice (some ⟨gI,0,none⟩) its.length ci) 235 3 its.length (mI its)]++(its.map λ x=>aZ 3 x.2.1).eraseIdx j)
   (λ s=>s.1<=x.2.1.l.length/\within N s.2/\sU N x.2.1.l x.2.2 l=sU N (x.2.1.l.drop s.1) x.2.2 s.2) (λ s=>x.2.1.l.length-s.1) (0,l) ⟨rfl,rfl,rfl,rfl,rfl,rfl,rfl,rfl,rfl,rfl,an⟩ aH.refl ⟨GB _,hw,by rw[List.drop_zero]⟩ ?_
  rintro⟨t,l2⟩ ⟨ht,hw2,hadd2⟩;simp only at ht hw2 hadd2 ⊢;refine ad (aa (ae [] rfl ?_));refine ad (aC rfl (λ hlt2=>aq ?_) (λ hge2=>bc ?_))
  ·have hlt2:t<x.2.1.l.length:=by omega
   obtain⟨e,he⟩:∃ e,x.2.1.l[t]?=some e:=⟨x.2.1.l[t],Gq hlt2⟩;obtain⟨i,a,rfl,ha,hil,_,_,hcap⟩:=DN (hxr e (Gu he));obtain rfl:=hA (by rintro h0;rw[h0] at hil;simp at hil);obtain⟨q0,q1,q2⟩:=eO ha;obtain⟨y,hy⟩:∃ y,l2[i]?=some y:=⟨l2[i]'(by have:=hw2.1;omega),Gq _⟩;have hyb:=hw2.2 i a y ha hy;have hcb:=vk hR (Gu ha);have hyD:l2.getD (i:Int).toNat 0=y:=by rw[GW,Gw,hy];rfl
   have hrA:x.2.1.A=some ⟨gr,0,none⟩:=hgr (by intro h0;have:=bK x.2.1.l;rw[h0] at this;simp at this;omega);have hdr2:x.2.1.l.drop t=(i:Int)::x.2.1.l.drop (t+1):=by rw[Hf hlt2];rw[(Gv.1 he).2]
   rw[hdr2,xU,hcap,hyD,GW] at hadd2;refine ad (au ?_);refine ad (aa (ah [] rfl ?_));refine ab [] (oy (b:=gr) rfl (by rw[<- hrA];rfl) rfl rfl rfl hlt2) rfl ?_;refine ab [] (v:=.int .i64 (i:Int)) (dr 1 rfl (show _=some (Value.pointer (some ⟨gr,0+t,none⟩)) by rw[GZ];rfl) rfl (aE (A:=x.2.1.A) hgr) (be he)) rfl ?_;refine ae [] rfl ?_;refine ad (ad ?_);refine bu 14 (cZ [0,1,2,3,4,5,6,7,8,9,10,11,12,13]) [0,1,2,3,4,5] (by kernel_rfl) (by decide) rfl ?_;refine aB [] rfl ?_;refine aj [] (v:=.int .i64 x.2.2) rfl (af 0 rfl) rfl ?_;refine aB [] rfl ?_;refine aj [] (v:=.slice (some ⟨b,o,none⟩) N.arcs.length c) rfl (af 3 rfl) rfl ?_;refine aB [] rfl ?_;refine aj [] rfl (e6 rfl hil) rfl ?_;refine aB [] rfl ?_;refine aj [] (v:=.int .i64 a.cap) rfl (fm 4 rfl rfl rfl (He _ _ _) q2) rfl ?_;refine aB [] rfl ?_;refine aj [] rfl (aG rfl hil) rfl ?_;refine aj [] (v:=.int .i64 y) rfl (aD 2 rfl rfl rfl (bD hy)) rfl ?_;refine aB [] rfl ?_;refine eg 60 (v':=.bool (di (a.cap-y<x.2.2))) rfl (by rw[cv (by omega)]) ?_;refine bq ?_;refine ai ?_;refine aC rfl (λ hbad=>?_) (λ hgood=>aq ?_)
   ·rw[if_pos hbad] at hadd2;have hadd2':sU N (d8 x).2.1 (d8 x).2.2 l=none:=hadd2;rw[hadd2'] at hadd;refine ad (aa (ae [] rfl ?_));refine bJ (aH.trans (aH.sub (G9 _ _)) (aH.trans (aH.unfront (A:=[_,_,_,_]) hrow) (aH.re [3] rfl (by decide)))) ?_;refine ay ⟨_,rfl,⟨none,0,0,?_⟩,rfl⟩;unfold l5;rw[if_neg (by rw[hall];decide),if_pos hadd];rfl
   ·rw[if_neg hgood] at hadd2;refine eK 9 [0,1,2,3,4,5,6,7] 8 [] (by kernel_rfl) ?_
    (repeat' (refine ev (gs:=[999]) rfl rfl ?_))
    refine cE [999] rfl (aG rfl hil) rfl ?_;refine bA [999] (v:=.int .i64 y) rfl rfl (aD 2 rfl rfl rfl (bD hy)) rfl ?_
    (repeat' (refine ev (gs:=[999]) rfl rfl ?_))
    refine bA [999] (v:=.int .i64 x.2.2) rfl rfl (af 0 rfl) rfl ?_
    (repeat' (refine ev (gs:=[999]) rfl rfl ?_))
    refine cE [999] rfl (aG rfl hil) rfl ?_;refine d6 rfl ?_;refine aI 67 (v':=.int .i64 (y+x.2.2)) rfl (Gt (Value.int .i64) (cv (by omega))) ?_;refine aO 2 rfl rfl rfl rfl (dU rfl (by have:=hw2.1;omega)) [] rfl ?_;refine ai ⟨⟨[],by decide,rfl⟩,?_⟩;refine bq ?_;refine ai ?_;refine aa (ae [] rfl ?_);refine⟨(t+1,l2.set i (y+x.2.2)),⟨Gt (λ z=>some (Value.int .i64 z)) (cv (by omega)),rfl,rfl,rfl,rfl,rfl,rfl,rfl,rfl,rfl,an⟩,aH.refl,⟨by simp only;omega,vC hw2 ha hy ⟨by omega,by omega⟩,hadd2⟩,by simp only;omega⟩
  ·obtain rfl:t=x.2.1.l.length:=by omega
   rw[List.drop_length] at hadd2;have hadd2':sU N (d8 x).2.1 (d8 x).2.2 l=some l2:=hadd2;rw[hadd2'] at hadd;refine aa (ae [] rfl ?_);refine⟨(j+1,l2),⟨Gt (λ z=>some (Value.int .i64 z)) (cv (by omega)),rfl,rfl,rfl,rfl,rfl,an⟩,?_,⟨by simp only;omega,hw2,hadd⟩,by simp only;omega⟩;exact aH.trans (aH.sub (G9 _ _)) (aH.unfront (A:=[_,_,_,_]) hrow)
 ·obtain rfl:j=its.length:=by omega
  rw[List.drop_eq_nil_of_le (by rw[GA];exact GF _)] at hadd;refine ad (aa (ae [] rfl ?_));refine bJ (aH.re [3] rfl (by decide)) ?_;refine ay ⟨_,rfl,⟨some ⟨go,0,none⟩,N.arcs.length,N.arcs.length,?_⟩,rfl⟩;unfold l5;rw[if_neg (by rw[hall];decide),hadd,if_neg (by unfold me;exact Option.some_ne_none _)];rfl
end Go.Proofs.YtmcnpaelaieniaaGreatDoor
