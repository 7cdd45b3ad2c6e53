import Derived.Test.YtmcnpaelaieniaaGreatDoorQX110
import Derived.Test.YtmcnpaelaieniaaGreatDoorQX85
/- A part of the proof; see NOTES.md. -/
set_option linter.unusedVariables false
set_option linter.unusedSimpArgs false
namespace Go.Proofs.YtmcnpaelaieniaaGreatDoor
open Go.RowKit
open Lib
set_option maxHeartbeats 1000000 in
theorem wD(V:b5)(pp p:Nat)(m:cD)(hm:m.sta.OK)(t line:cN)(T:Ws)(hwe:∀ x∈T,x.length<=10000000)(hTl:T.length<=3000)(cb bb ob:Nat)(hnc:T.length+1<=cb):
 Fn 36 [.pointer (some ⟨pp,0,none⟩),dF line,.slice (some ⟨bb,ob,none⟩) (T.length+1) cb] (aL (dy pp p m t)) (lM bb ob [115,111,108,118,101] T V++dy pp p m t) (zM pp p λ o q' t'=>t'=t/\(if T.length=1/\(T.getD 0 []).length=1 then hZ m.sta (((T.getD 0 []).getD 0 0).toNat:Int) o q' else q'=m.sta/\o=gZ)):=by
 generalize hM:aL _=M
 refine aJ Tryz.func36 rfl rfl λ w0=>?_;refine ad (aa (ae [] rfl ?_));refine ad (aa (ah [] rfl ?_));refine ab [] (dE (i:=1) rfl rfl rfl rfl rfl (by simp)) rfl ?_;refine aI 16 (v':=.slice (gj (some ⟨bb,ob,none⟩) cb 1 1) T.length (cb-1)) rfl (by show Value.slice _ _ _=_;simp) ?_
 refine b9 [] (kH V T (λ y hy=>hwe y hy) (by omega) (gj (some ⟨bb,ob,none⟩) cb 1 1) T.length (cb-1) bb (ob+1) (λ hne=>by
  have:=Hc.2 hne;rw[fT (b:=bb) (o:=ob) (n:=T.length+1) (λ _=>rfl) (by omega) (by omega)]) rfl) rfl rfl rfl rfl (by kernel_rfl) ⟨⟨0,_,by simp[b5.heap],rfl,ep (ak bb ob (cK ([115,111,108,118,101]::T))) 1,.inr rfl⟩,⟨1,by simp[b5.heap],rfl⟩,⟨2,by simp[b5.heap],rfl⟩,⟨3,by simp[b5.heap],rfl⟩,an⟩ (λ _=>rfl) ?_
 rintro v H' ⟨An,cn,rfl,rfl⟩;refine⟨rfl,?_⟩;refine ae [] rfl ?_;refine ad (ad (aa (ah [] rfl ?_)));refine ab [] (v:=.pointer (some ⟨bb,ob+0,none⟩)) (bR (m:=0) rfl (by simp)) rfl ?_;refine ab [] (v:=dF [115,111,108,118,101]) (a8 (i:=0) 1 rfl rfl rfl) rfl ?_;refine ae [] rfl ?_;refine au (ad (aa (ae [] rfl ?_)));refine a7 31 (v':=.bool false) rfl (Gt Value.bool ((de _ [124]).trans (a6 (by first|assumption|decide)))) ?_;refine bG rfl ?_;refine ad (aa (ae [] rfl ?_));refine a7 52 (v':=.bool false) rfl (Gt Value.bool ((de _ [102,108,111,119]).trans (a6 (by first|assumption|decide)))) ?_;refine bG rfl ?_;refine ad (aa (ae [] rfl ?_));refine a7 63 (v':=.bool false) rfl (Gt Value.bool ((de _ [99,117,116]).trans (a6 (by first|assumption|decide)))) ?_;refine bG rfl ?_;refine ad (aa (ae [] rfl ?_));refine a7 75 (v':=.bool true) rfl (Gt Value.bool ((de _ [115,111,108,118,101]).trans (aR rfl))) ?_;refine bi rfl ?_;refine ad (aa (ah [] rfl ?_));by_cases h1:T.length=1
 case neg=>
  refine aX 80 rfl (by omega) ?_;refine ah [3] rfl ?_;refine ai ?_;refine bG rfl (aq ?_);refine ad (aa (ah [] rfl ?_));refine b9 [] rG rfl rfl rfl rfl (by kernel_rfl) an (λ _=>rfl) ?_;rintro v H' ⟨A2,c2,rfl,rfl⟩;refine⟨rfl,?_⟩;refine ae [] rfl ?_;refine az [0,6,7,8,9,10] (by decide) rfl (ay ⟨_,rfl,gZ,m,t,A2,c2,?_,rfl,rfl⟩);exact⟨rfl,by rw[if_neg (λ h=>h1 h.1)];exact⟨rfl,rfl⟩⟩
 obtain⟨w1,rfl⟩:∃ w1,T=[w1]:=by
  match T,h1 with
  |[w1],_=>exact⟨w1,rfl⟩
 refine bd 80 rfl (by simp) ?_;refine ah [3] rfl ?_;refine ab [3] (v:=.pointer (some ⟨bb,ob+1,none⟩)) (bR (m:=1) rfl (by simp)) rfl ?_;refine ab [3] (v:=dF w1) (a8 (i:=1) 1 rfl rfl rfl) rfl ?_;refine ah [3] rfl ?_;by_cases h2:w1.length=1
 case neg=>
  refine aX 86 rfl (by rw[cC];omega) ?_;refine ai ?_;refine bG rfl (aq ?_);refine ad (aa (ah [] rfl ?_));refine b9 [] rG rfl rfl rfl rfl (by kernel_rfl) an (λ _=>rfl) ?_;rintro v H' ⟨A2,c2,rfl,rfl⟩;refine⟨rfl,?_⟩;refine ae [] rfl ?_;refine az [0,6,7,8,9,10] (by decide) rfl (ay ⟨_,rfl,gZ,m,t,A2,c2,?_,rfl,rfl⟩);exact⟨rfl,by rw[if_neg (λ h=>h2 h.2)];exact⟨rfl,rfl⟩⟩
 obtain⟨x,rfl⟩:∃ x,w1=[x]:=by
  match w1,h2 with
  |[x],_=>exact⟨x,rfl⟩
 refine bd 86 rfl (by rw[cC];rfl) ?_;refine ai ?_;refine bi rfl ?_
 refine jg (σ:={ q:cD×Int×Int//hZ m.sta (x.toNat:Int) (ex q.2.2 [fF oo [q.2.1]]) q.1.sta/\e9 q.2.2/\dn q.2.1 }) (λ q=>[(12,.int .i64 q.1.2.1),(13,.int .i64 q.1.2.2)])
  (λ q=>eM p q.1.1++(V.heap++[blk pp 80 [.pointer (some ⟨p,0,none⟩),dF t]])) ?_ ?_
 ·skip
  refine bu 14 (cZ [0,1,2,3,4,5,6,7]++[(8,false)]++cZ [9,10,11,12,13]) [1,5] (by kernel_rfl) (by decide) rfl ?_;refine aB [] rfl ?_;refine aj [] (v:=.pointer (some ⟨p,0,none⟩)) rfl (af 1 rfl) rfl ?_;refine aB [] rfl ?_;refine aj [] (v:=.pointer (some ⟨bb,ob+1,none⟩)) rfl (bR (m:=1) rfl (by simp)) rfl ?_;refine aj [] (v:=dF [x]) rfl (a8 (i:=1) 0 rfl rfl rfl) rfl ?_;refine aj [] (v:=.int .u8 (x.toNat:Int)) rfl (wS (i:=0) rfl rfl rfl rfl rfl) rfl ?_;refine bg rfl ?_;have e0:dn 0:=by unfold dn;omega
  cases ha:m.a with
  |false=>
   refine ap (fst:=[]) (cap:=[]) [] (rN m ha p (x.toNat:Int)) rfl (by kernel_rfl) ⟨⟨6,_,by simp,rfl,aF _ _ _ (0,0),.inr rfl⟩,an⟩ (λ _=>rfl) ?_;rintro v H' ⟨rfl,rfl⟩;refine⟨rfl,ai ⟨⟨[1,5],by decide,rfl⟩,?_⟩⟩;refine aB [] rfl ?_;refine bq (ai ⟨⟨(m,0,9),?_,aY 9 (by decide) rfl,e0⟩,⟨rfl,rfl,an⟩,aH.picks [6,7,8,9,2,3,4,5] (by decide) rfl⟩);have hl:m.sta.lack []=9:=D5 ha [];unfold hZ ex;rw[hl,if_pos (by decide),if_pos (show (9:Int)≠0 by decide)];exact⟨rfl,rfl⟩
  |true=>
   have hR:m.N.Right:=hm.net ha;have hl:m.sta.lack []=0:=p5 ha;by_cases hk:(x.toNat:Int)=112\/(x.toNat:Int)=116\/(x.toNat:Int)=115
   ·refine aw (fst:=[]) (cap:=[]) [] (Cn p m ha hR (x.toNat:Int) hk) rfl rfl rfl rfl (by kernel_rfl) (K:=[.seg bb ob (cK [[115,111,108,118,101],[x]])]++(V.heap++[blk pp 80 [.pointer (some ⟨p,0,none⟩),dF t]])) (aH.picks [6,7,8,9,1,2,3,4,5] (by decide) rfl) an (λ _=>rfl) ?_;rintro v H' ⟨f,s,Af,cf,As,cs,hS,hF,rfl,rfl⟩;have hv:=dX hR (hS.max hR).1.toRanged m.N.snk;refine⟨rfl,ai ⟨⟨[4,8],by decide,rfl⟩,?_⟩⟩;refine aB [] rfl ?_;refine bq (ai ⟨⟨(m.both f s Af cf As cs,cS (m.N.arcs.zip f) m.N.snk,0),?_,aY 0 (by decide) rfl,by unfold dn;simp only;omega⟩,⟨rfl,rfl,an⟩,aH.picks [0,1,2,3,5,6,7,8] (by decide) rfl⟩);unfold hZ ex;rw[hl,if_neg (by decide),if_pos hk,if_neg (show ¬ (0:Int)≠0 by decide)];exact⟨f,s,hS,hF,rfl,rfl⟩
   ·refine ap (fst:=[]) (cap:=[]) [] (zh m ha p (x.toNat:Int) hk) rfl (by kernel_rfl) ⟨⟨6,_,by simp,rfl,aF _ _ _ (0,0),.inr rfl⟩,an⟩ (λ _=>rfl) ?_;rintro v H' ⟨rfl,rfl⟩;refine⟨rfl,ai ⟨⟨[1,5],by decide,rfl⟩,?_⟩⟩;refine aB [] rfl ?_;refine bq (ai ⟨⟨(m,0,1),?_,aY 1 (by decide) rfl,e0⟩,⟨rfl,rfl,an⟩,aH.picks [6,7,8,9,2,3,4,5] (by decide) rfl⟩);unfold hZ ex;rw[hl,if_neg (by decide),if_neg hk,if_pos (show (1:Int)≠0 by decide)];exact⟨rfl,rfl⟩
 rintro⟨⟨m',v,e⟩,hr,he,hv⟩;simp only at hr he hv ⊢;refine ad (aa (ah [] rfl ?_));refine bF rfl rfl rfl rfl rfl rfl rfl (λ _=>rfl) λ g0=>?_;refine ap [] (sd V oo (by decide) [v] (λ z hz=>by rw[Gy.1 hz];exact hv) (by simp) (some ⟨g0,0,none⟩) 1 1 g0 0 (λ _=>rfl) rfl) rfl (by kernel_rfl) ⟨⟨0,_,by simp,rfl,aF _ _ _ (0,0),.inr rfl⟩,⟨5,by simp[eM],rfl⟩,⟨6,by simp[eM],rfl⟩,⟨7,by simp[eM],rfl⟩,an⟩ (λ _=>rfl) ?_;rintro u H' ⟨rfl,rfl⟩;refine⟨rfl,?_⟩;refine bF rfl rfl rfl rfl rfl rfl rfl (λ _=>rfl) λ g=>?_;refine fb 1 1 (by rfl) (by decide) ?_;refine ap [] (o7 V e he.inB (some ⟨g,0,none⟩) 1 1) rfl (by kernel_rfl) ⟨⟨6,by simp[eM],rfl⟩,⟨7,by simp[eM],rfl⟩,⟨8,by simp[eM],rfl⟩,an⟩ (λ _=>rfl) ?_;rintro u H' (⟨h0,rfl,rfl⟩|⟨h0,A2,c2,rfl,rfl⟩)
 ·refine⟨rfl,?_⟩;refine ae [] rfl ?_;have hto:ex e [fF oo [v]]=[fF oo [v]]:=by unfold ex;rw[if_neg (fun h=>h h0)]
  rw[hto] at hr;refine az [0,9,2,3,4,5] (by decide) rfl (ay ⟨_,rfl,[fF oo [v]],m',t,some ⟨g,0,none⟩,1,⟨rfl,?_⟩,rfl,rfl⟩);rw[if_pos ⟨rfl,rfl⟩];exact hr
 ·refine⟨rfl,?_⟩;refine ae [] rfl ?_;have hto:ex e [fF oo [v]]=oU e:=by unfold ex;rw[if_pos h0]
  rw[hto] at hr;refine az [0,10,3,4,5,6] (by decide) rfl (ay ⟨_,rfl,oU e,m',t,A2,c2,⟨rfl,?_⟩,rfl,rfl⟩);rw[if_pos ⟨rfl,rfl⟩];exact hr
open Lib
end Go.Proofs.YtmcnpaelaieniaaGreatDoor
