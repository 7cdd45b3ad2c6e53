import Derived.Test.YtmcnpaelaieniaaGreatDoorQX111
import Derived.Test.YtmcnpaelaieniaaGreatDoorQX87
/- A part of the proof; see NOTES.md. -/
set_option linter.unusedVariables false
set_option linter.unusedSimpArgs false
namespace Go.Proofs.YtmcnpaelaieniaaGreatDoor
open Go.RowKit
open Lib
set_option maxHeartbeats 1000000 in
theorem vT(V:cj)(pp p:Nat)(m:cF)(hm:m.sta.OK)(t line:cR)(T:Ws)(hwe:∀ x∈T,x.length<=10000000)(hTl:T.length<=3000)(cb bb ob:Nat)(hnc:T.length+1<=cb):
 Fn 36 [.pointer (some ⟨pp,0,none⟩),dK line,.slice (some ⟨bb,ob,none⟩) (T.length+1) cb] (aJ (dA pp p m t)) (lO bb ob [115,111,108,118,101] T V++dA pp p m t) (zK pp p λ o q' t'=>t'=t/\(if T.length=1/\(T.getD 0 []).length=1 then gZ m.sta (((T.getD 0 []).getD 0 0).toNat:Int) o q' else q'=m.sta/\o=gT)):=by
 generalize hM:aJ _=M
 refine aH Tryz.func36 rfl rfl λ w0=>?_;refine ad (aa (ae [] rfl ?_));refine ad (aa (ah [] rfl ?_));refine ab [] (dJ (i:=1) rfl rfl rfl rfl rfl (by simp)) rfl ?_;refine aI 16 (v':=.slice (gb (some ⟨bb,ob,none⟩) cb 1 1) T.length (cb-1)) rfl (by show Value.slice _ _ _=_;simp) ?_
 refine cL [] (kF V T (λ y hy=>hwe y hy) (by omega) (gb (some ⟨bb,ob,none⟩) cb 1 1) T.length (cb-1) bb (ob+1) (λ hne=>by
  have:=Hj.2 hne;rw[fO (b:=bb) (o:=ob) (n:=T.length+1) (λ _=>rfl) (by omega) (by omega)]) rfl) rfl rfl rfl rfl (by kernel_rfl) ⟨⟨0,_,by simp[cj.heap],rfl,ex (ak bb ob (cO ([115,111,108,118,101]::T))) 1,.inr rfl⟩,⟨1,by simp[cj.heap],rfl⟩,⟨2,by simp[cj.heap],rfl⟩,⟨3,by simp[cj.heap],rfl⟩,an⟩ (λ _=>rfl) ?_
 rintro v H' ⟨An,cn,rfl,rfl⟩;refine⟨rfl,?_⟩;refine ae [] rfl ?_;refine ad (ad (aa (ah [] rfl ?_)));refine ab [] (v:=.pointer (some ⟨bb,ob+0,none⟩)) (bZ (m:=0) rfl (by simp)) rfl ?_;refine ab [] (v:=dK [115,111,108,118,101]) (bc (i:=0) 1 rfl rfl rfl) rfl ?_;refine ae [] rfl ?_;refine av (ad (aa (ae [] rfl ?_)));refine aX 31 (v':=.bool false) rfl (Gz Value.bool ((dh _ [124]).trans (aZ (by first|assumption|decide)))) ?_;refine bG rfl ?_;refine ad (aa (ae [] rfl ?_));refine aX 52 (v':=.bool false) rfl (Gz Value.bool ((dh _ [102,108,111,119]).trans (aZ (by first|assumption|decide)))) ?_;refine bG rfl ?_;refine ad (aa (ae [] rfl ?_));refine aX 63 (v':=.bool false) rfl (Gz Value.bool ((dh _ [99,117,116]).trans (aZ (by first|assumption|decide)))) ?_;refine bG rfl ?_;refine ad (aa (ae [] rfl ?_));refine aX 75 (v':=.bool true) rfl (Gz Value.bool ((dh _ [115,111,108,118,101]).trans (aT rfl))) ?_;refine bh rfl ?_;refine ad (aa (ah [] rfl ?_));by_cases h1:T.length=1
 case neg=>
  refine bd 80 rfl (by omega) ?_;refine ah [3] rfl ?_;refine ai ?_;refine bG rfl (aq ?_);refine ad (aa (ah [] rfl ?_));refine cL [] rf rfl rfl rfl rfl (by kernel_rfl) an (λ _=>rfl) ?_;rintro v H' ⟨A2,c2,rfl,rfl⟩;refine⟨rfl,?_⟩;refine ae [] rfl ?_;refine aA [0,6,7,8,9,10] (by decide) rfl (ax ⟨_,rfl,gT,m,t,A2,c2,?_,rfl,rfl⟩);exact⟨rfl,by rw[if_neg (λ h=>h1 h.1)];exact⟨rfl,rfl⟩⟩
 obtain⟨w1,rfl⟩:∃ w1,T=[w1]:=by
  match T,h1 with
  |[w1],_=>exact⟨w1,rfl⟩
 refine bj 80 rfl (by simp) ?_;refine ah [3] rfl ?_;refine ab [3] (v:=.pointer (some ⟨bb,ob+1,none⟩)) (bZ (m:=1) rfl (by simp)) rfl ?_;refine ab [3] (v:=dK w1) (bc (i:=1) 1 rfl rfl rfl) rfl ?_;refine ah [3] rfl ?_;by_cases h2:w1.length=1
 case neg=>
  refine bd 86 rfl (by rw[cP];omega) ?_;refine ai ?_;refine bG rfl (aq ?_);refine ad (aa (ah [] rfl ?_));refine cL [] rf rfl rfl rfl rfl (by kernel_rfl) an (λ _=>rfl) ?_;rintro v H' ⟨A2,c2,rfl,rfl⟩;refine⟨rfl,?_⟩;refine ae [] rfl ?_;refine aA [0,6,7,8,9,10] (by decide) rfl (ax ⟨_,rfl,gT,m,t,A2,c2,?_,rfl,rfl⟩);exact⟨rfl,by rw[if_neg (λ h=>h2 h.2)];exact⟨rfl,rfl⟩⟩
 obtain⟨x,rfl⟩:∃ x,w1=[x]:=by
  match w1,h2 with
  |[x],_=>exact⟨x,rfl⟩
 refine bj 86 rfl (by rw[cP];rfl) ?_;refine ai ?_;refine bh rfl ?_
 refine jj (σ:={ q:cF×Int×Int//gZ m.sta (x.toNat:Int) (ey q.2.2 [fH nP [q.2.1]]) q.1.sta/\e9 q.2.2/\bU q.2.1 }) (λ q=>[(12,.int .i64 q.1.2.1),(13,.int .i64 q.1.2.2)])
  (λ q=>eO p q.1.1++(V.heap++[blk pp 80 [.pointer (some ⟨p,0,none⟩),dK t]])) ?_ ?_
 ·skip
  refine bq 14 (cY [0,1,2,3,4,5,6,7]++[(8,false)]++cY [9,10,11,12,13]) [1,5] (by kernel_rfl) (by decide) rfl ?_;refine az [] rfl ?_;refine aj [] (v:=.pointer (some ⟨p,0,none⟩)) rfl (af 1 rfl) rfl ?_;refine az [] rfl ?_;refine aj [] (v:=.pointer (some ⟨bb,ob+1,none⟩)) rfl (bZ (m:=1) rfl (by simp)) rfl ?_;refine aj [] (v:=dK [x]) rfl (bc (i:=1) 0 rfl rfl rfl) rfl ?_;refine aj [] (v:=.int .u8 (x.toNat:Int)) rfl (xC (i:=0) rfl rfl rfl rfl rfl) rfl ?_;refine aY rfl ?_;have e0:bU 0:=by unfold bU;omega
  cases ha:m.a with
  |false=>
   refine ao (fst:=[]) (cap:=[]) [] (zA m ha p (x.toNat:Int)) rfl (by kernel_rfl) ⟨⟨6,_,by simp,rfl,aD _ _ _ (0,0),.inr rfl⟩,an⟩ (λ _=>rfl) ?_;rintro v H' ⟨rfl,rfl⟩;refine⟨rfl,ai ⟨⟨[1,5],by decide,rfl⟩,?_⟩⟩;refine az [] rfl ?_;refine bp (ai ⟨⟨(m,0,9),?_,aU 9 (by decide) rfl,e0⟩,⟨rfl,rfl,an⟩,aF.picks [6,7,8,9,2,3,4,5] (by decide) rfl⟩);have hl:m.sta.lack []=9:=Eb ha [];unfold gZ ey;rw[hl,if_pos (by decide),if_pos (show (9:Int)≠0 by decide)];exact⟨rfl,rfl⟩
  |true=>
   have hR:m.N.Right:=hm.net ha;have hl:m.sta.lack []=0:=qD ha;by_cases hk:(x.toNat:Int)=112\/(x.toNat:Int)=116\/(x.toNat:Int)=115
   ·refine aw (fst:=[]) (cap:=[]) [] (Bz p m ha hR (x.toNat:Int) hk) rfl rfl rfl rfl (by kernel_rfl) (K:=[.seg bb ob (cO [[115,111,108,118,101],[x]])]++(V.heap++[blk pp 80 [.pointer (some ⟨p,0,none⟩),dK t]])) (aF.picks [6,7,8,9,1,2,3,4,5] (by decide) rfl) an (λ _=>rfl) ?_;rintro v H' ⟨f,s,Af,cf,As,cs,hS,hF,rfl,rfl⟩;have hv:=dN hR (hS.max hR).1.toRanged m.N.snk;refine⟨rfl,ai ⟨⟨[4,8],by decide,rfl⟩,?_⟩⟩;refine az [] rfl ?_;refine bp (ai ⟨⟨(m.both f s Af cf As cs,da (m.N.arcs.zip f) m.N.snk,0),?_,aU 0 (by decide) rfl,by unfold bU;simp only;omega⟩,⟨rfl,rfl,an⟩,aF.picks [0,1,2,3,5,6,7,8] (by decide) rfl⟩);unfold gZ ey;rw[hl,if_neg (by decide),if_pos hk,if_neg (show ¬ (0:Int)≠0 by decide)];exact⟨f,s,hS,hF,rfl,rfl⟩
   ·refine ao (fst:=[]) (cap:=[]) [] (yY m ha p (x.toNat:Int) hk) rfl (by kernel_rfl) ⟨⟨6,_,by simp,rfl,aD _ _ _ (0,0),.inr rfl⟩,an⟩ (λ _=>rfl) ?_;rintro v H' ⟨rfl,rfl⟩;refine⟨rfl,ai ⟨⟨[1,5],by decide,rfl⟩,?_⟩⟩;refine az [] rfl ?_;refine bp (ai ⟨⟨(m,0,1),?_,aU 1 (by decide) rfl,e0⟩,⟨rfl,rfl,an⟩,aF.picks [6,7,8,9,2,3,4,5] (by decide) rfl⟩);unfold gZ ey;rw[hl,if_neg (by decide),if_neg hk,if_pos (show (1:Int)≠0 by decide)];exact⟨rfl,rfl⟩
 rintro⟨⟨m',v,e⟩,hr,he,hv⟩;simp only at hr he hv ⊢;refine ad (aa (ah [] rfl ?_));refine bC rfl rfl rfl rfl rfl rfl rfl (λ _=>rfl) λ g0=>?_;refine ao [] (sp V nP (by decide) [v] (λ z hz=>by rw[GF.1 hz];exact hv) (by simp) (some ⟨g0,0,none⟩) 1 1 g0 0 (λ _=>rfl) rfl) rfl (by kernel_rfl) ⟨⟨0,_,by simp,rfl,aD _ _ _ (0,0),.inr rfl⟩,⟨5,by simp[eO],rfl⟩,⟨6,by simp[eO],rfl⟩,⟨7,by simp[eO],rfl⟩,an⟩ (λ _=>rfl) ?_;rintro u H' ⟨rfl,rfl⟩;refine⟨rfl,?_⟩;refine bC rfl rfl rfl rfl rfl rfl rfl (λ _=>rfl) λ g=>?_;refine fk 1 1 (by rfl) (by decide) ?_;refine ao [] (oX V e he.inB (some ⟨g,0,none⟩) 1 1) rfl (by kernel_rfl) ⟨⟨6,by simp[eO],rfl⟩,⟨7,by simp[eO],rfl⟩,⟨8,by simp[eO],rfl⟩,an⟩ (λ _=>rfl) ?_;rintro u H' (⟨h0,rfl,rfl⟩|⟨h0,A2,c2,rfl,rfl⟩)
 ·refine⟨rfl,?_⟩;refine ae [] rfl ?_;have hto:ey e [fH nP [v]]=[fH nP [v]]:=by unfold ey;rw[if_neg (fun h=>h h0)]
  rw[hto] at hr;refine aA [0,9,2,3,4,5] (by decide) rfl (ax ⟨_,rfl,[fH nP [v]],m',t,some ⟨g,0,none⟩,1,⟨rfl,?_⟩,rfl,rfl⟩);rw[if_pos ⟨rfl,rfl⟩];exact hr
 ·refine⟨rfl,?_⟩;refine ae [] rfl ?_;have hto:ey e [fH nP [v]]=oK e:=by unfold ey;rw[if_pos h0]
  rw[hto] at hr;refine aA [0,10,3,4,5,6] (by decide) rfl (ax ⟨_,rfl,oK e,m',t,A2,c2,⟨rfl,?_⟩,rfl,rfl⟩);rw[if_pos ⟨rfl,rfl⟩];exact hr
open Lib
end Go.Proofs.YtmcnpaelaieniaaGreatDoor
