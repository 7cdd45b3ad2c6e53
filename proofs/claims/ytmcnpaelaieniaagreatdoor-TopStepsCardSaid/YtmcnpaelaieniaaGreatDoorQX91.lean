import Derived.Test.YtmcnpaelaieniaaGreatDoorQX102
import Derived.Test.YtmcnpaelaieniaaGreatDoorQX101
import Derived.Test.YtmcnpaelaieniaaGreatDoorQF
import Derived.Test.YtmcnpaelaieniaaGreatDoorQX93
/- A part of the proof; see NOTES.md. -/
set_option linter.unusedVariables false
set_option linter.unusedSimpArgs false
namespace Go.Proofs.YtmcnpaelaieniaaGreatDoor
open Go.RowKit
theorem DT{N:aO}{e:Int}(h:0<=e/\e<N.arcs.length):∃ (i:Nat) (a:dM),e=i/\N.arcs[i]?=some a/\i<N.arcs.length/\ij N e=a.fr/\yT N e=a.to/\Cw N e=a.cap:=by
 obtain⟨i,rfl⟩:∃ i:Nat,e=i:=⟨e.toNat,by omega⟩;have hi:i<N.arcs.length:=by omega
 refine⟨i,N.arcs[i],rfl,Gy hi,hi,?_,?_,?_⟩
 ·exact iJ (Gy hi)
 ·exact qp (Gy hi)
 ·unfold Cw;rw[G1,Gy hi]
theorem ua(N:aO)(e:Int)(W met:LI)(last:Int):lV N (e::W) met last=if (met≠[]/\ij N e≠last)\/ij N e∈met then false else lV N W (met++[ij N e]) (yT N e):=rfl
def Ge(k:Int)(R:OA)(n c:Nat)(m:Int):Value:=.agg #[.int .u8 k,.slice R n c,.int .i64 m]
set_option maxHeartbeats 1000000 in
theorem Ch(N:aO)(hR:N.Right)(A:OA)(c b o:Nat)(hA:N.arcs≠[]->A=some ⟨b,o,none⟩)(k:Int)(W:LI)(m:Int)(hx:jw N (k,W,m))(R:OA)(cr br or_:Nat)(hRr:W≠[]->R=some ⟨br,or_,none⟩):
 Fn 180 [bx N A c,Ge k R W.length cr m] [] [.seg b o (arcs N.arcs),.seg br or_ (ay W)] λ v H'=>v=.bool (jW N (k,W,m))/\H'=[]:=by
 have hl2:=hR.len;have hWl:W.length<=2000:=hx.len;have hne:W≠[]:=hx.ne;have hpos:0<W.length:=Hj.2 hne;have hamt:0<m:=hx.amt.1;have hrng:∀ e∈W,0<=e/\e<N.arcs.length:=hx.rng;have hkd:k=112\/k=98\/k=99:=hx.kind;obtain rfl:=hRr hne
 have hne2:N.arcs≠[]:=by
  obtain⟨e,he⟩:=Jc _ hne;have:=hrng e he;rintro h0;rw[h0] at this;simp at this;omega
 obtain rfl:=hA hne2;refine aH Tryz.func180 rfl rfl λ w0=>?_;refine ad (aa ?_);refine bz (cs:=bJ N (some ⟨b,o,none⟩) c) rfl rfl rfl (λ _=>rfl) λ p=>?_;refine bz (cs:=[.int .u8 k,.slice (some ⟨br,or_,none⟩) W.length cr,.int .i64 m]) rfl rfl rfl (λ _=>rfl) λ q=>?_;refine ae [] rfl ?_;refine ad (ad (aa (ah [] rfl ?_)));refine ab [] (v:=.int .i64 m) (af 0 rfl) rfl ?_;refine ah [] rfl ?_;refine bd 13 rfl (by omega) ?_;refine ah [3] rfl ?_;refine ab [3] (v:=.slice (some ⟨br,or_,none⟩) W.length cr) (af 0 rfl) rfl ?_;refine ah [3] rfl ?_;refine bd 18 rfl (by omega) ?_;refine ai ?_;refine bG rfl (aq ?_);refine ad (aa ?_);refine mt rfl (λ _=>rfl) λ bm=>?_;refine ae [] rfl ?_;refine ad (aa (ae [] rfl ?_));refine ad (ad (aa (ah [] rfl ?_)));refine ab [] (v:=.slice (some ⟨br,or_,none⟩) W.length cr) (af 1 rfl) rfl ?_;refine ae [] rfl ?_;refine av ?_
 refine bP (σ:=Nat×Int) (λ t=>[(23,.int .i64 t.1),(22,.int .i64 W.length),(21,.slice (some ⟨br,or_,none⟩) W.length cr),(6,.int .i64 t.2),(5,.map (some bm)),(2,.pointer (some ⟨p,0,none⟩)),(3,.pointer (some ⟨q,0,none⟩))])
  (λ t=>[.obj bm (gR (ju ((W.take t.1).map (ij N)))),blk q 235 [.int .u8 k,.slice (some ⟨br,or_,none⟩) W.length cr,.int .i64 m],blk p 33 (bJ N (some ⟨b,o,none⟩) c),.seg b o (arcs N.arcs),.seg br or_ (ay W)])
  (λ t=>t.1<=W.length/\lV N W [] 0=lV N (W.drop t.1) ((W.take t.1).map (ij N)) t.2/\(0<t.1->t.2=yT N ((W.take t.1).getLastD 0))) (λ t=>W.length-t.1)
  (0,0) [0,1,2,3,4] ⟨rfl,rfl,rfl,rfl,rfl,rfl,rfl,an⟩ (by decide) rfl ⟨GI _,by simp,λ h=>absurd h (by decide)⟩ ?_
 rintro⟨j,last⟩ ⟨hj,hrw,hlast⟩;simp only at hj hrw hlast ⊢;refine ad (aa (ae [] rfl ?_));refine ad (aC rfl (λ hlt=>aq ?_) (λ hge=>a9 ?_))
 ·have hlt:j<W.length:=by omega
  obtain⟨e,he⟩:∃ e,W[j]?=some e:=⟨W[j],Gy hlt⟩;obtain⟨i,a,rfl,ha,hil,hfr,hto,_⟩:=DT (hrng e (GB he));obtain⟨q0,q1,q2⟩:=eg ha;have htk:W.take (j+1)=W.take j++[(i:Int)]:=by rw[GW,he];rfl
  have hdr:W.drop j=(i:Int)::W.drop (j+1):=by rw[Hm hlt];rw[(GC.1 he).2]
  have hmet:((W.take j).map (ij N)≠[])↔0<j:=by
   rw[<- Hj,GH,G2];omega
  rw[hdr] at hrw;rw[ua] at hrw;refine ad (av ?_);refine ad (aa (ah [] rfl ?_));refine ab [] (bZ rfl hlt) rfl ?_;refine ab [] (bc 4 rfl rfl (bi he)) rfl ?_;refine ae [] rfl ?_
  -- whether the walk goes on here
  refine ad (eS [(60,.bool (dk ((0<j/\a.fr≠last)\/a.fr∈(W.take j).map (ij N)))),(8,.int .i64 i),(23,.int .i64 j),(22,.int .i64 W.length),(21,.slice (some ⟨br,or_,none⟩) W.length cr),(6,.int .i64 last),(5,.map (some bm)),(2,.pointer (some ⟨p,0,none⟩)),(3,.pointer (some ⟨q,0,none⟩))]
   [.obj bm (gR (ju ((W.take j).map (ij N)))),blk q 235 [.int .u8 k,.slice (some ⟨br,or_,none⟩) W.length cr,.int .i64 m],blk p 33 (bJ N (some ⟨b,o,none⟩) c),.seg b o (arcs N.arcs),.seg br or_ (ay W)] ?_ ?_)
  ·skip
   refine aa (ah [] rfl ?_);refine bd 30 rfl (by omega) ?_;refine ah [2] rfl ?_;refine ab [2] (v:=.slice (some ⟨b,o,none⟩) N.arcs.length c) (af 2 rfl) rfl ?_;refine ah [2] rfl ?_;refine bd 37 rfl (by omega) ?_;refine ah [2,9] rfl ?_;by_cases h0:0<j
   ·refine bj 40 rfl (by omega) ?_;refine ah [2,9,12] rfl ?_;refine ab [2,9,12] (v:=.slice (some ⟨b,o,none⟩) N.arcs.length c) (af 2 rfl) rfl ?_;refine ah [2,9,12] rfl ?_;refine ab [2,9,12] (eo rfl hil) rfl ?_;refine ah [2,9,12] rfl ?_;refine ab [2,9,12] (v:=.int .i64 a.fr) (ff 3 rfl rfl rfl (Nat.add_assoc _ _ _) q0) rfl ?_;refine ah [2,9,12] rfl ?_;by_cases h1:a.fr≠last
    ·refine bj 51 rfl h1 ?_;refine ah [2,9,12,23] rfl ?_;exact ai ⟨[0,1,2,3,4],⟨Gz some (Gz Value.bool (aT (.inl ⟨h0,h1⟩)).symm),rfl,rfl,rfl,rfl,rfl,rfl,rfl,rfl,an⟩,by decide,rfl⟩
    ·refine bd 51 rfl h1 ?_;refine ah [2,9,12,23] rfl ?_;refine ab [2,9,12,23] (v:=.slice (some ⟨b,o,none⟩) N.arcs.length c) (af 2 rfl) rfl ?_;refine ah [2,9,12,23] rfl ?_;refine ab [2,9,12,23] (eo rfl hil) rfl ?_;refine ah [2,9,12,23] rfl ?_;refine ab [2,9,12,23] (v:=.int .i64 a.fr) (ff 3 rfl rfl rfl (Hh _ _ _) q0) rfl ?_;refine ab [2,9,12,23] (dF 0 Tryz.underlying205 Tryz.underlying3 rfl rfl rfl rfl rfl) rfl ?_;refine ah [2,9,12,23] rfl ?_;refine ai ⟨[0,1,2,3,4],⟨?_,rfl,rfl,rfl,rfl,rfl,rfl,rfl,rfl,an⟩,by decide,rfl⟩;refine Gz some ((cz _ _).trans (Gz Value.bool ?_));exact em ⟨λ h=>.inr h,λ h=>h.resolve_left (λ h'=>h1 h'.2)⟩
   ·refine bd 40 rfl (by omega) ?_;refine ah [2,9,12] rfl ?_;refine aI 51 (v':=.bool false) rfl rfl ?_;refine ah [2,9,12,23] rfl ?_;refine ab [2,9,12,23] (v:=.slice (some ⟨b,o,none⟩) N.arcs.length c) (af 2 rfl) rfl ?_;refine ah [2,9,12,23] rfl ?_;refine ab [2,9,12,23] (eo rfl hil) rfl ?_;refine ah [2,9,12,23] rfl ?_;refine ab [2,9,12,23] (v:=.int .i64 a.fr) (ff 3 rfl rfl rfl (Hh _ _ _) q0) rfl ?_;refine ab [2,9,12,23] (dF 0 Tryz.underlying205 Tryz.underlying3 rfl rfl rfl rfl rfl) rfl ?_;refine ah [2,9,12,23] rfl ?_;refine ai ⟨[0,1,2,3,4],⟨?_,rfl,rfl,rfl,rfl,rfl,rfl,rfl,rfl,an⟩,by decide,rfl⟩;refine Gz some ((cz _ _).trans (Gz Value.bool ?_));exact em ⟨λ h=>.inr h,λ h=>h.resolve_left (λ h'=>h0 h'.1)⟩
  have hcond:((0<j/\a.fr≠last)\/a.fr∈(W.take j).map (ij N))↔((W.take j).map (ij N)≠[]/\ij N (i:Int)≠last)\/ij N (i:Int)∈(W.take j).map (ij N):=by rw[hmet,hfr]
  refine aC rfl (λ hbad=>?_) (λ hgood=>aq ?_)
  ·rw[if_pos (hcond.1 hbad)] at hrw;refine ad (aa (ae [] rfl ?_));refine aA [] (by decide) rfl (ax ⟨_,rfl,?_,rfl⟩);unfold jW;rw[if_neg (not_or.2 ⟨by simp only;omega,hne⟩),if_pos hrw];rfl
  ·rw[if_neg (λ h=>hgood (hcond.2 h))] at hrw;refine ad (aa (ah [] rfl ?_));refine ab [] (v:=.slice (some ⟨b,o,none⟩) N.arcs.length c) (af 2 rfl) rfl ?_;refine ah [] rfl ?_;refine ab [] (eo rfl hil) rfl ?_;refine ah [] rfl ?_;refine ab [] (v:=.int .i64 a.fr) (ff 3 rfl rfl rfl (Hh _ _ _) q0) rfl ?_;refine lZ 0 Tryz.underlying205 Tryz.underlying3 rfl rfl rfl rfl rfl (λ z hz=>?_) [] rfl ?_
   ·obtain⟨y,hy,rfl⟩:=G0.1 hz;rintro rfl;exact hgood (.inr hy)
   refine ai ?_;refine aa (ah [] rfl ?_);refine ab [] (v:=.slice (some ⟨b,o,none⟩) N.arcs.length c) (af 2 rfl) rfl ?_;refine ah [] rfl ?_;refine ab [] (eo rfl hil) rfl ?_;refine ah [] rfl ?_;refine ab [] (v:=.int .i64 a.to) (ff 3 rfl rfl rfl (Hh _ _ _) q1) rfl ?_;refine ae [] rfl ?_;refine aa (ae [] rfl ?_);refine⟨(j+1,a.to),[0,1,2,3,4],⟨Gz (λ z=>some (Value.int .i64 z)) (b5 (by omega)),rfl,rfl,rfl,rfl,rfl,rfl,an⟩,by decide,?_,⟨by simp only;omega,?_,λ _=>?_⟩,by simp only;omega⟩
   ·simp only[htk,G5,GM,HC,hfr];unfold ju;rw[G5];rfl
   ·simp only[htk,G5,GM,HC];rw[hrw,hto]
   ·simp only[htk];rw[List.getLastD_eq_getLast?,Hl];exact hto.symm
 obtain rfl:j=W.length:=by omega
 rw[List.drop_length] at hrw;have hgo:lV N W [] 0=true:=hrw;have hlast:=hlast hpos;rw[G8] at*;obtain⟨e0,he0⟩:∃ e,W[0]?=some e:=⟨W[0],Gy hpos⟩
 have hhd:W.headD 0=e0:=by
  cases hc:W with
  |nil=>exact absurd hc hne
  |cons x r=>rw[hc] at he0;simpa using he0
 obtain⟨i,a,rfl,ha,hil,hfr,hto,_⟩:=DT (hrng e0 (GB he0));obtain⟨q0,q1,q2⟩:=eg ha
 have hres:jW N (k,W,m)=if k=112 then decide ((a.fr=N.src/\last=N.snk)/\last∉W.map (ij N)) else if k=98 then decide ((a.fr=N.snk/\last=N.src)/\last∉W.map (ij N)) else if k=99 then decide (a.fr=last) else false:=by
  unfold jW;rw[if_neg (not_or.2 ⟨by simp only;omega,hne⟩),if_neg (by rw[hgo];decide)];simp only[hhd,hfr,<- hlast]
 rw[hres];refine ad ?_;refine bq 10 (cY [0,1,2,3,4,5,6,7,8,9]) [0,1,2,3,4] (by kernel_rfl) (by decide) rfl ?_;refine az [] rfl ?_;refine aj [] (v:=.slice (some ⟨b,o,none⟩) N.arcs.length c) rfl (af 2 rfl) rfl ?_;refine az [] rfl ?_;refine aj [] (v:=.slice (some ⟨br,or_,none⟩) W.length cr) rfl (af 1 rfl) rfl ?_;refine aj [] (v:=.pointer (some ⟨br,or_+0,none⟩)) rfl (bZ (m:=0) rfl hpos) rfl ?_;refine aj [] (v:=.int .i64 i) rfl (bc 4 rfl rfl (bi he0)) rfl ?_;refine aj [] rfl (eo rfl hil) rfl ?_;refine az [] rfl ?_;refine aj [] (v:=.int .i64 a.fr) rfl (ff 3 rfl rfl rfl (Hh _ _ _) q0) rfl ?_;refine az [] rfl ?_;refine bp ?_;refine ai ?_;refine ad (ad (aa (ah [] rfl ?_)));refine ab [] (v:=.int .u8 k) (af 1 rfl) rfl ?_;refine ae [] rfl ?_;refine av (ad (aa (ae [] rfl ?_)));by_cases k1:k=112
 ·refine eP 86 rfl k1 ?_;refine bh rfl ?_;rw[if_pos k1];refine ad (aa (ah [] rfl ?_));refine ab [] (v:=.int .i64 N.src) (af 2 rfl) rfl ?_;refine ah [] rfl ?_;by_cases h1:a.fr=N.src
  ·refine bj 92 rfl h1 ?_;refine ah [4] rfl ?_;refine ab [4] (v:=.int .i64 N.snk) (af 2 rfl) rfl ?_;refine ah [4] rfl ?_;by_cases h2:last=N.snk
   ·refine bj 98 rfl h2 ?_;refine ah [4,10] rfl ?_;refine ab [4,10] (dF 0 Tryz.underlying205 Tryz.underlying3 rfl rfl rfl rfl rfl) rfl ?_;by_cases h3:last∈W.map (ij N)
    ·refine aI 101 (v':=.bool true) rfl ((cz _ _).trans (Gz Value.bool (aT h3))) ?_;refine ah [4,10] rfl ?_;refine ai (aA [] (by decide) rfl (ax ⟨_,rfl,Gz Value.bool (HU (λ h=>h.2 h3)).symm,rfl⟩))
    ·refine aI 101 (v':=.bool false) rfl ((cz _ _).trans (Gz Value.bool (aZ h3))) ?_;refine ah [4,10] rfl ?_;refine ai (aA [] (by decide) rfl (ax ⟨_,rfl,Gz Value.bool (Ip ⟨⟨h1,h2⟩,h3⟩).symm,rfl⟩))
   ·refine bd 98 rfl h2 ?_;refine ah [4,10] rfl ?_;refine ai (aA [] (by decide) rfl (ax ⟨_,rfl,Gz Value.bool (HU (λ h=>h2 h.1.2)).symm,rfl⟩))
  ·refine bd 92 rfl h1 ?_;refine ah [4] rfl ?_;refine aI 98 (v':=.bool false) rfl rfl ?_;refine ah [4,10] rfl ?_;refine ai (aA [] (by decide) rfl (ax ⟨_,rfl,Gz Value.bool (HU (λ h=>h1 h.1.1)).symm,rfl⟩))
 refine eu 86 rfl k1 ?_;refine bG rfl ?_;rw[if_neg k1];refine ad (aa (ae [] rfl ?_));by_cases k2:k=98
 ·refine eP 104 rfl k2 ?_;refine bh rfl ?_;rw[if_pos k2];refine ad (aa (ah [] rfl ?_));refine ab [] (v:=.int .i64 N.snk) (af 2 rfl) rfl ?_;refine ah [] rfl ?_;by_cases h1:a.fr=N.snk
  ·refine bj 110 rfl h1 ?_;refine ah [4] rfl ?_;refine ab [4] (v:=.int .i64 N.src) (af 2 rfl) rfl ?_;refine ah [4] rfl ?_;by_cases h2:last=N.src
   ·refine bj 116 rfl h2 ?_;refine ah [4,10] rfl ?_;refine ab [4,10] (dF 0 Tryz.underlying205 Tryz.underlying3 rfl rfl rfl rfl rfl) rfl ?_;by_cases h3:last∈W.map (ij N)
    ·refine aI 119 (v':=.bool true) rfl ((cz _ _).trans (Gz Value.bool (aT h3))) ?_;refine ah [4,10] rfl ?_;refine ai (aA [] (by decide) rfl (ax ⟨_,rfl,Gz Value.bool (HU (λ h=>h.2 h3)).symm,rfl⟩))
    ·refine aI 119 (v':=.bool false) rfl ((cz _ _).trans (Gz Value.bool (aZ h3))) ?_;refine ah [4,10] rfl ?_;refine ai (aA [] (by decide) rfl (ax ⟨_,rfl,Gz Value.bool (Ip ⟨⟨h1,h2⟩,h3⟩).symm,rfl⟩))
   ·refine bd 116 rfl h2 ?_;refine ah [4,10] rfl ?_;refine ai (aA [] (by decide) rfl (ax ⟨_,rfl,Gz Value.bool (HU (λ h=>h2 h.1.2)).symm,rfl⟩))
  ·refine bd 110 rfl h1 ?_;refine ah [4] rfl ?_;refine aI 116 (v':=.bool false) rfl rfl ?_;refine ah [4,10] rfl ?_;refine ai (aA [] (by decide) rfl (ax ⟨_,rfl,Gz Value.bool (HU (λ h=>h1 h.1.1)).symm,rfl⟩))
 refine eu 104 rfl k2 ?_;refine bG rfl ?_;have k3:k=99:=(hkd.resolve_left k1).resolve_left k2;rw[if_neg k2,if_pos k3];refine ad (aa (ae [] rfl ?_));refine eP 122 rfl k3 ?_;refine bh rfl ?_;refine ad (aa (ae [] rfl ?_));refine aA [] (by decide) rfl (ax ⟨_,rfl,Gz Value.bool ?_,rfl⟩);by_cases h:a.fr=last
 ·rw[Ip h];exact aT h
 ·rw[HU h];exact aZ h
abbrev zJ:=Int×ec×Int
def d8(x:zJ):It:=(x.1,x.2.1.l,x.2.2)
def lF(A:OA)(c:Nat)(its:List zJ):Heap:=[.own (.slice A its.length c) 235 3 its.length (mR its)]++its.map λ x=>aV 3 x.2.1
theorem wJ:∀ {its:List zJ} {i:Nat} {x:zJ},its[i]?=some x->(mR its)[i*3]?=some (.int .u8 x.1)/\(mR its)[i*3+1]?=some (cA x.2.1)/\(mR its)[i*3+2]?=some (.int .i64 x.2.2)
 |[],i,x,h=>by simp at h
 |a::l,0,x,h=>by simp at h;subst h;simp[mR]
 |a::l,i+1,x,h=>by
  have ih:=wJ (its:=l) (i:=i) (x:=x) (by simpa using h);have e:mR (a::l)=[.int .u8 a.1,cA a.2.1,.int .i64 a.2.2]++mR l:=by simp[mR]
  have e1:(i+1)*3=i*3+3:=by omega
  rw[e,e1];refine⟨?_,?_,?_⟩
  ·rw[GS (by simp)];simpa using ih.1
  ·rw[GS (by simp)];simpa using ih.2.1
  ·rw[GS (by simp)];simpa using ih.2.2
theorem mr{its:List zJ}{j:Nat}{x:zJ}(h:its[j]?=some x):eH 235 (mR its) (j*3)=some (Ge x.1 x.2.1.A x.2.1.l.length x.2.1.c x.2.2):=by
 obtain⟨h1,h2,h3⟩:=wJ h;show (match dX (mR its) (j*3) 3 with|some l=>some (Value.agg l.toArray)|none=>none)=_
 have:dX (mR its) (j*3) 3=some [.int .u8 x.1,cA x.2.1,.int .i64 x.2.2]:=by
  unfold dX;rw[h1];unfold dX;rw[h2];unfold dX;rw[h3];unfold dX;rfl
 rw[this];rfl
theorem yC(its:List zJ):fW (its.map λ x=>aV 3 x.2.1)=true:=by
 have:=cI 3 (its.map λ x=>x.2.1)
 rwa [HZ] at this
theorem lq(A:OA)(c:Nat)(its:List zJ):fW (lF A c its)=true:=cT rfl (yC its)
theorem yR(N:aO)(e:Int)(W:LI)(m:Int)(o:LI):ss N (e::W) m o=if Cw N e-o.getD e.toNat 0<m then none else ss N W m (o.set e.toNat (o.getD e.toNat 0+m)):=rfl
theorem sX(N:aO)(x:It)(r:List It)(o:LI):lY N (x::r) o=match ss N x.2.1 x.2.2 o with|some o'=>lY N r o'|none=>none:=rfl
def within(N:aO)(o:LI):Prop:=o.length=N.arcs.length/\∀ (i:Nat) (a:dM) (y:Int),N.arcs[i]?=some a->o[i]?=some y->0<=y/\y<=a.cap
theorem wc{N:aO}{o:LI}(h:within N o){i:Nat}{a:dM}{y m:Int}(ha:N.arcs[i]?=some a)(hy:o[i]?=some y)(hm:0<=m/\m<=a.cap-y):within N (o.set i (y+m)):=by
 refine⟨by rw[Hp];exact h.1,λ j a' z ha' hz=>?_⟩;by_cases e:i=j
 ·subst e;rw[ha] at ha';obtain rfl:=G4 ha';rw[GO (by have:=(GC.1 hy).1;exact this)] at hz;obtain rfl:=G4 hz;have:=h.2 i a y ha hy;omega
 ·rw[GR e] at hz;exact h.2 j a' z ha' hz
theorem aF.unfront{X:Cx}{A R:Heap}{c:aR}{i:Nat}(h:R[i]?=some c):aF X (c::(A++R.eraseIdx i)) (A++R):=by
 have hi:i<R.length:=(GC.1 h).1;have e:R.set i c=R:=by rw[<- (GC.1 h).2,List.set_getElem_self]
 have:=aF.back (X:=X) (A:=A) (R:=R) (c:=c) (i:=i) hi
 rwa [e] at this
set_option maxHeartbeats 4000000 in
theorem CA(N:aO)(hN:N.Fits)(hR:N.Right)(A:OA)(c b o:Nat)(hA:N.arcs≠[]->A=some ⟨b,o,none⟩)(its:List zJ)(hok:∀ x∈its.map d8,jw N x)(hl:its.length<=2001)(I:OA)(ci:Nat):
 Fn 158 [bx N A c,.slice I its.length ci] (aJ (lF I ci its)) ([.seg b o (arcs N.arcs)]++lF I ci its) λ v H'=>(∃ (F:OA) (n cf:Nat),v=.tuple #[.slice F n cf,.int .i64 (mu N (its.map d8))])/\H'=lF I ci its:=by
 have hl2:=hR.len
 generalize hM:aJ _=M
 refine aH Tryz.func158 rfl rfl λ w0=>?_;refine ad (aa ?_);refine bz (cs:=bJ N A c) rfl rfl rfl (λ _=>rfl) λ p=>?_;refine ae [] rfl ?_;refine ad (ad (aa ?_));refine ab [] (v:=bx N A c) (af 0 rfl) rfl ?_;refine ao [] (iz N hN A c b o hA) rfl (by kernel_rfl) ⟨⟨1,_,by simp,rfl,ak _ _ _,au⟩,an⟩ (λ _=>rfl) ?_;rintro v H' ⟨rfl,rfl⟩;refine⟨rfl,?_⟩;rw[hR.check];refine ae [] rfl ?_;refine ad (aa (ae [] rfl ?_));refine aC rfl (λ h=>absurd rfl h) (λ _=>aq ?_);refine ad (ad (aa (ae [] rfl ?_)));refine av ?_;show J _ _ _ _ ([blk p 33 (bJ N A c),.seg b o (arcs N.arcs),.own (.slice I its.length ci) 235 3 its.length (mR its)]++its.map λ x=>aV 3 x.2.1);refine bv (a8 2 rfl) λ ⟨_,_,hI0,_⟩=>?_
 refine b8 (σ:=Nat) (λ j=>[(21,.int .i64 j),(20,.int .i64 its.length),(19,.slice I its.length ci),(1,.slice I its.length ci),(2,.pointer (some ⟨p,0,none⟩))])
  (λ _=>[blk p 33 (bJ N A c),.seg b o (arcs N.arcs),.own (.slice I its.length ci) 235 3 its.length (mR its)]++its.map λ x=>aV 3 x.2.1)
  (λ j=>j<=its.length/\((its.take j).map d8).all (jW N)=true) (λ j=>its.length-j) 0 ⟨rfl,rfl,rfl,rfl,rfl,an⟩ aF.refl ⟨GI _,rfl⟩ ?_
 rintro j ⟨hj,hall⟩;refine ad (aa (ae [] rfl ?_));refine ad (aC rfl (λ hlt=>aq ?_) (λ hge=>a9 ?_))
 ·have hlt:j<its.length:=by omega
  obtain⟨x,hx⟩:∃ x,its[j]?=some x:=⟨its[j],Gy hlt⟩;obtain⟨gI,rfl⟩:=hI0 (by omega);have hxo:jw N (d8 x):=hok _ (H7 (GB hx));have hrow:(its.map λ x=>aV 3 x.2.1)[j]?=some (aV 3 x.2.1):=by rw[GJ,hx];rfl
  refine bH (aF.front (i:=j) (c:=aV 3 x.2.1) hrow) ?_;refine bv (a8 0 (show _=some (aV 3 x.2.1) from rfl)) λ ⟨_,_,hr0,hrl⟩=>?_;obtain⟨gr,hgr⟩:=bQ hr0 hrl;refine ad (av ?_);refine ad (aa (ah [] rfl ?_));refine ab [] (aM rfl hlt) rfl ?_;refine ab [] (aE 3 rfl rfl rfl (mr hx)) rfl ?_;refine bu rfl rfl rfl (λ _=>rfl) λ p8=>?_;refine aB 0 rfl [] rfl ?_;refine ai ?_;refine ad (aa ?_);refine ab [] (v:=bx N A c) (af 2 rfl) rfl ?_;refine ab [] (v:=Ge x.1 x.2.1.A x.2.1.l.length x.2.1.c x.2.2) (af 0 rfl) rfl ?_;refine ao [] (Ch N hR A c b o hA x.1 x.2.1.l x.2.2 hxo x.2.1.A x.2.1.c gr 0 (λ h=>hgr (λ h0=>h (by simpa [ay] using h0)))) rfl (by kernel_rfl) ⟨⟨3,_,by simp,rfl,ak _ _ _,au⟩,⟨1,_,by simp,rfl,aL hgr,a7 hgr⟩,an⟩ (λ _=>rfl) ?_;rintro v H' ⟨rfl,rfl⟩;refine⟨rfl,?_⟩;refine ae [] rfl ?_;refine mg rfl (λ hb=>?_) (λ hb=>aq ?_)
  ·have hb:jW N (d8 x)=false:=by simpa [d8] using hb
   refine ad (aa (ae [] rfl ?_));refine bH (aF.trans (aF.sub (Hg _ _)) (aF.trans (aF.unfront (A:=[_,_,_]) hrow) (aF.re [2] rfl (by decide)))) ?_;refine ax ⟨_,rfl,⟨none,0,0,?_⟩,rfl⟩
   have:(its.map d8).all (jW N)=false:=by
    rw[List.all_eq_false];exact⟨d8 x,H7 (GB hx),by rw[hb];decide⟩
   unfold mu;rw[if_pos this];rfl
  ·have hb:jW N (d8 x)=true:=by simpa [d8] using hb
   refine aa (ae [] rfl ?_);refine⟨j+1,⟨Gz (λ z=>some (Value.int .i64 z)) (b5 (by omega)),rfl,rfl,rfl,rfl,an⟩,?_,⟨by omega,?_⟩,by omega⟩
   ·exact aF.trans (aF.sub (Hg _ _)) (aF.unfront (A:=[_,_,_]) hrow)
   ·rw[GW,hx,G5,List.all_append,hall]
    simpa using hb
 obtain rfl:j=its.length:=by omega
 rw[G8] at hall;refine ad (aa (ah [] rfl ?_));refine ab [] (v:=.slice A N.arcs.length c) (af 0 rfl) rfl ?_;refine ah [] rfl ?_;refine di (n:=N.arcs.length) (c:=N.arcs.length) rfl rfl rfl rfl rfl rfl (by omega) (by omega) (by omega) (λ _=>rfl) λ go=>?_;rw[rJ];refine ae [] rfl ?_;refine ad (ad (aa (ae [] rfl ?_)));refine av ?_;have hz:(List.replicate N.arcs.length (0:Int)).length=N.arcs.length:=by simp
 refine b8 (σ:=Nat×LI) (λ s=>[(36,.int .i64 s.1),(35,.int .i64 its.length),(34,.slice I its.length ci),(1,.slice I its.length ci),(2,.pointer (some ⟨p,0,none⟩)),(9,.slice (some ⟨go,0,none⟩) N.arcs.length N.arcs.length)])
  (λ s=>[.own (.slice (some ⟨go,0,none⟩) N.arcs.length N.arcs.length) 2 1 N.arcs.length (ay s.2),blk p 33 (bJ N A c),.seg b o (arcs N.arcs),.own (.slice I its.length ci) 235 3 its.length (mR its)]++its.map λ x=>aV 3 x.2.1)
  (λ s=>s.1<=its.length/\within N s.2/\lY N (its.map d8) (List.replicate N.arcs.length 0)=lY N ((its.map d8).drop s.1) s.2) (λ s=>its.length-s.1) (0,List.replicate N.arcs.length 0) ⟨rfl,rfl,rfl,rfl,rfl,rfl,an⟩ aF.refl
  ⟨GI _,⟨hz,λ i a y ha hy=>?_⟩,by rw[List.drop_zero]⟩ ?_
 ·rw[GU] at hy;split at hy
  ·obtain rfl:=G4 hy;have:=(hR.arc a (GB ha)).2.2;omega
  ·cases hy
 rintro⟨j,l⟩ ⟨hj,hw,hadd⟩;simp only at hj hw hadd ⊢;refine ad (aa (ae [] rfl ?_));refine ad (aC rfl (λ hlt=>aq ?_) (λ hge=>a9 ?_))
 ·have hlt:j<its.length:=by omega
  obtain⟨x,hx⟩:∃ x,its[j]?=some x:=⟨its[j],Gy hlt⟩;obtain⟨gI,rfl⟩:=hI0 (by omega);have hxo:jw N (d8 x):=hok _ (H7 (GB hx));have hxl:x.2.1.l.length<=2000:=hxo.len;have hxa:0<x.2.2/\x.2.2<=4611686018427387903:=hxo.amt;have hxr:∀ e∈x.2.1.l,0<=e/\e<N.arcs.length:=hxo.rng;have hmx:(its.map d8)[j]?=some (d8 x):=by rw[GJ,hx];rfl
  have hdr:(its.map d8).drop j=d8 x::(its.map d8).drop (j+1):=by
   have hjl:j<(its.map d8).length:=by rw[GH];exact hlt
   rw[Hm hjl,(GC.1 hmx).2]
  rw[hdr,sX] at hadd;have hrow:(its.map λ x=>aV 3 x.2.1)[j]?=some (aV 3 x.2.1):=by rw[GJ,hx];rfl
  refine bH (aF.front (i:=j) (c:=aV 3 x.2.1) hrow) ?_;refine bv (a8 0 (show _=some (aV 3 x.2.1) from rfl)) λ ⟨_,_,hr0,hrl⟩=>?_;obtain⟨gr,hgr⟩:=bQ hr0 hrl;refine ad (av ?_);refine ad (aa (ah [] rfl ?_));refine ab [] (aM rfl hlt) rfl ?_;refine ab [] (aE 4 rfl rfl rfl (mr hx)) rfl ?_;refine bu rfl rfl rfl (λ _=>rfl) λ p11=>?_;refine aB 0 rfl [] rfl ?_;refine ai ?_;refine ad (aa (ah [] rfl ?_));refine ab [] (v:=.slice x.2.1.A x.2.1.l.length x.2.1.c) (af 0 rfl) rfl ?_;refine ae [] rfl ?_;refine av ?_
  refine b8 (σ:=Nat×LI) (λ s=>[(43,.int .i64 s.1),(42,.int .i64 x.2.1.l.length),(41,.slice x.2.1.A x.2.1.l.length x.2.1.c),(11,.pointer (some ⟨p11,0,none⟩)),(36,.int .i64 j),(35,.int .i64 its.length),(34,.slice (some ⟨gI,0,none⟩) its.length ci),(1,.slice (some ⟨gI,0,none⟩) its.length ci),(2,.pointer (some ⟨p,0,none⟩)),(9,.slice (some ⟨go,0,none⟩) N.arcs.length N.arcs.length)])
   (λ s=>[blk p11 235 [.int .u8 x.1,.slice x.2.1.A x.2.1.l.length x.2.1.c,.int .i64 x.2.2],aV 3 x.2.1,.own (.slice (some ⟨go,0,none⟩) N.arcs.length N.arcs.length) 2 1 N.arcs.length (ay s.2),blk p 33 (bJ N A c),.seg b o (arcs N.arcs),.own (.slice (some ⟨gI,0,none⟩) its.length ci) 235 3 its.length (mR its)]++(its.map λ x=>aV 3 x.2.1).eraseIdx j)
   (λ s=>s.1<=x.2.1.l.length/\within N s.2/\ss N x.2.1.l x.2.2 l=ss N (x.2.1.l.drop s.1) x.2.2 s.2) (λ s=>x.2.1.l.length-s.1) (0,l) ⟨rfl,rfl,rfl,rfl,rfl,rfl,rfl,rfl,rfl,rfl,an⟩ aF.refl ⟨GI _,hw,by rw[List.drop_zero]⟩ ?_
  rintro⟨t,l2⟩ ⟨ht,hw2,hadd2⟩;simp only at ht hw2 hadd2 ⊢;refine ad (aa (ae [] rfl ?_));refine ad (aC rfl (λ hlt2=>aq ?_) (λ hge2=>a9 ?_))
  ·have hlt2:t<x.2.1.l.length:=by omega
   obtain⟨e,he⟩:∃ e,x.2.1.l[t]?=some e:=⟨x.2.1.l[t],Gy hlt2⟩;obtain⟨i,a,rfl,ha,hil,_,_,hcap⟩:=DT (hxr e (GB he));obtain rfl:=hA (by rintro h0;rw[h0] at hil;simp at hil);obtain⟨q0,q1,q2⟩:=eg ha;obtain⟨y,hy⟩:∃ y,l2[i]?=some y:=⟨l2[i]'(by have:=hw2.1;omega),Gy _⟩;have hyb:=hw2.2 i a y ha hy;have hcb:=we hR (GB ha);have hyD:l2.getD (i:Int).toNat 0=y:=by rw[G1,GD,hy];rfl
   have hrA:x.2.1.A=some ⟨gr,0,none⟩:=hgr (by intro h0;have:=bI x.2.1.l;rw[h0] at this;simp at this;omega);have hdr2:x.2.1.l.drop t=(i:Int)::x.2.1.l.drop (t+1):=by rw[Hm hlt2];rw[(GC.1 he).2]
   rw[hdr2,yR,hcap,hyD,G1] at hadd2;refine ad (av ?_);refine ad (aa (ah [] rfl ?_));refine ab [] (oF (b:=gr) rfl (by rw[<- hrA];rfl) rfl rfl rfl hlt2) rfl ?_;refine ab [] (v:=.int .i64 (i:Int)) (dz 1 rfl (show _=some (Value.pointer (some ⟨gr,0+t,none⟩)) by rw[G6];rfl) rfl (aL (A:=x.2.1.A) hgr) (bi he)) rfl ?_;refine ae [] rfl ?_;refine ad (ad ?_);refine bq 14 (cY [0,1,2,3,4,5,6,7,8,9,10,11,12,13]) [0,1,2,3,4,5] (by kernel_rfl) (by decide) rfl ?_;refine az [] rfl ?_;refine aj [] (v:=.int .i64 x.2.2) rfl (af 0 rfl) rfl ?_;refine az [] rfl ?_;refine aj [] (v:=.slice (some ⟨b,o,none⟩) N.arcs.length c) rfl (af 3 rfl) rfl ?_;refine az [] rfl ?_;refine aj [] rfl (eo rfl hil) rfl ?_;refine az [] rfl ?_;refine aj [] (v:=.int .i64 a.cap) rfl (ff 4 rfl rfl rfl (Hh _ _ _) q2) rfl ?_;refine az [] rfl ?_;refine aj [] rfl (aG rfl hil) rfl ?_;refine aj [] (v:=.int .i64 y) rfl (aE 2 rfl rfl rfl (bR hy)) rfl ?_;refine az [] rfl ?_;refine dr 60 (v':=.bool (dk (a.cap-y<x.2.2))) rfl (by rw[b5 (by omega)]) ?_;refine bp ?_;refine ai ?_;refine aC rfl (λ hbad=>?_) (λ hgood=>aq ?_)
   ·rw[if_pos hbad] at hadd2;have hadd2':ss N (d8 x).2.1 (d8 x).2.2 l=none:=hadd2;rw[hadd2'] at hadd;refine ad (aa (ae [] rfl ?_));refine bH (aF.trans (aF.sub (Hg _ _)) (aF.trans (aF.unfront (A:=[_,_,_,_]) hrow) (aF.re [3] rfl (by decide)))) ?_;refine ax ⟨_,rfl,⟨none,0,0,?_⟩,rfl⟩;unfold mu;rw[if_neg (by rw[hall];decide),if_pos hadd];rfl
   ·rw[if_neg hgood] at hadd2;refine eK 9 [0,1,2,3,4,5,6,7] 8 [] (by kernel_rfl) ?_
    (repeat' (refine ep (gs:=[999]) rfl rfl ?_))
    refine cG [999] rfl (aG rfl hil) rfl ?_;refine bA [999] (v:=.int .i64 y) rfl rfl (aE 2 rfl rfl rfl (bR hy)) rfl ?_
    (repeat' (refine ep (gs:=[999]) rfl rfl ?_))
    refine bA [999] (v:=.int .i64 x.2.2) rfl rfl (af 0 rfl) rfl ?_
    (repeat' (refine ep (gs:=[999]) rfl rfl ?_))
    refine cG [999] rfl (aG rfl hil) rfl ?_;refine dZ rfl ?_;refine aI 67 (v':=.int .i64 (y+x.2.2)) rfl (Gz (Value.int .i64) (b5 (by omega))) ?_;refine aS 2 rfl rfl rfl rfl (eA rfl (by have:=hw2.1;omega)) [] rfl ?_;refine ai ⟨⟨[],by decide,rfl⟩,?_⟩;refine bp ?_;refine ai ?_;refine aa (ae [] rfl ?_);refine⟨(t+1,l2.set i (y+x.2.2)),⟨Gz (λ z=>some (Value.int .i64 z)) (b5 (by omega)),rfl,rfl,rfl,rfl,rfl,rfl,rfl,rfl,rfl,an⟩,aF.refl,⟨by simp only;omega,wc hw2 ha hy ⟨by omega,by omega⟩,hadd2⟩,by simp only;omega⟩
  ·obtain rfl:t=x.2.1.l.length:=by omega
   rw[List.drop_length] at hadd2;have hadd2':ss N (d8 x).2.1 (d8 x).2.2 l=some l2:=hadd2;rw[hadd2'] at hadd;refine aa (ae [] rfl ?_);refine⟨(j+1,l2),⟨Gz (λ z=>some (Value.int .i64 z)) (b5 (by omega)),rfl,rfl,rfl,rfl,rfl,an⟩,?_,⟨by simp only;omega,hw2,hadd⟩,by simp only;omega⟩;exact aF.trans (aF.sub (Hg _ _)) (aF.unfront (A:=[_,_,_,_]) hrow)
 ·obtain rfl:j=its.length:=by omega
  rw[List.drop_eq_nil_of_le (by rw[GH];exact GN _)] at hadd;refine ad (aa (ae [] rfl ?_));refine bH (aF.re [3] rfl (by decide)) ?_;refine ax ⟨_,rfl,⟨some ⟨go,0,none⟩,N.arcs.length,N.arcs.length,?_⟩,rfl⟩;unfold mu;rw[if_neg (by rw[hall];decide),hadd,if_neg (by unfold lY;exact Option.some_ne_none _)];rfl
end Go.Proofs.YtmcnpaelaieniaaGreatDoor
