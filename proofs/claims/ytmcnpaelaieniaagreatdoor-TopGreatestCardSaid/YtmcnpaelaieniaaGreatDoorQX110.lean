import Derived.Test.YtmcnpaelaieniaaGreatDoorQX112
import Derived.Test.YtmcnpaelaieniaaGreatDoorScrK
import Derived.Lib.CutLaws
/- A part of the proof; see NOTES.md. -/
set_option linter.unusedVariables false
set_option linter.unusedSimpArgs false
namespace Go.Proofs.YtmcnpaelaieniaaGreatDoor
open Go.RowKit
open Lib
def EM(q:dp)(t:cN)(P:List cN->Prop)(o:List cN)(q':dp)(t':cN):Prop:=q'=q/\t'=t/\P o
theorem xY(V:b5)(pp p:Nat)(m:cD)(t:cN)(ht:t.length<=9999999):Fn 71 [.pointer (some ⟨pp,0,none⟩),dF [108,111,97,100]] (aL (dy pp p m t)) (V.heap++dy pp p m t) (zM pp p (fg m.sta t [108,111,97,100])):=by
 have TL:=AC V pp p m t ht
 generalize hM:aL _=M at TL ⊢
 refine aJ Tryz.func71 rfl rfl λ w0=>?_;refine ad (aa (ae [] rfl ?_));refine ad (ad (aa (ae [] rfl ?_)));refine au (ad (aa (ae [] rfl ?_)));refine a7 12 (v':=.bool true) rfl (Gt Value.bool ((de _ [108,111,97,100]).trans (aR rfl))) ?_;refine bi rfl ?_;refine ad (aa (ah [] rfl ?_));subst hM;refine aw (fst:=[]) (cap:=[]) [] TL rfl rfl rfl rfl (by kernel_rfl) (K:=V.heap) (aH.picks [3,4,5,6,7,0,1,2] (by decide) rfl) ⟨⟨0,by simp,rfl⟩,⟨1,by simp,rfl⟩,⟨2,by simp,rfl⟩,an⟩ (λ _=>rfl) ?_;rintro v H' ⟨o,m',t',A,c,h,rfl,rfl⟩;refine⟨rfl,?_⟩;refine ae [] rfl ?_;exact az [0,1,2,3,4,5] (by decide) rfl (ay ⟨_,rfl,o,m',t',A,c,h,rfl,rfl⟩)
theorem zr(V:b5)(pp p:Nat)(m:cD)(hm:m.sta.OK)(t:cN):Fn 71 [.pointer (some ⟨pp,0,none⟩),dF [99,104,101,99,107]] (aL (dy pp p m t)) (V.heap++dy pp p m t) (zM pp p (EM m.sta t λ o=>o=ex m.sta.checkZ xp)):=by
 generalize hM:aL _=M
 refine aJ Tryz.func71 rfl rfl λ w0=>?_;refine ad (aa (ae [] rfl ?_));refine bh (aW 5 rfl) λ ⟨_,_,hB1,hn1⟩=>?_;obtain⟨w1,hB1⟩:=bL hB1 hn1;refine bh (aW 6 rfl) λ ⟨_,_,hB2,hn2⟩=>?_;obtain⟨w2,hB2⟩:=bL hB2 hn2;refine bh (aW 7 rfl) λ ⟨_,_,hB3,hn3⟩=>?_;obtain⟨w3,hB3⟩:=bL hB3 hn3;have hat:m.At w1 w2 w3:=⟨gJ hB1,du hB2,du hB3⟩;refine ad (ad (aa (ae [] rfl ?_)));refine au (ad (aa (ae [] rfl ?_)));refine a7 12 (v':=.bool false) rfl (Gt Value.bool ((de _ [108,111,97,100]).trans (a6 (by first|assumption|decide)))) ?_;refine bG rfl ?_;refine ad (aa (ae [] rfl ?_));refine a7 16 (v':=.bool true) rfl (Gt Value.bool ((de _ [99,104,101,99,107]).trans (aR rfl))) ?_;refine bi rfl ?_;refine ad (aa (ah [] rfl ?_));refine ab [] (v:=.pointer (some ⟨p,0,none⟩)) (af 3 rfl) rfl ?_;refine ap [] (yT m hm.ses p w1 w2 w3 hat) rfl (by kernel_rfl) ⟨⟨4,_,by simp[dy,eM],rfl,aF _ _ _ (0,0),.inr rfl⟩,⟨5,_,by simp[dy,eM],rfl,aE hB1,aM hB1⟩,⟨6,_,by simp[dy,eM],rfl,aE hB2,aM hB2⟩,⟨7,_,by simp[dy,eM],rfl,aE hB3,aM hB3⟩,an⟩ (λ _=>rfl) ?_;rintro v H' ⟨rfl,rfl⟩;refine⟨rfl,?_⟩;refine bF rfl rfl rfl rfl rfl rfl rfl (λ _=>rfl) λ g=>?_;refine fb 1 1 (by rfl) (by decide) ?_;refine ap [] (o7 V (m.sta.checkZ) ((m.sta.check_code).inB) (some ⟨g,0,none⟩) 1 1) rfl (by kernel_rfl) ⟨⟨1,by simp,rfl⟩,⟨2,by simp,rfl⟩,⟨3,by simp,rfl⟩,an⟩ (λ _=>rfl) ?_;rintro v H' (⟨h0,rfl,rfl⟩|⟨h0,A2,c2,rfl,rfl⟩)
 ·refine⟨rfl,?_⟩;refine ae [] rfl ?_;refine az [0,4,5,6,7,8] (by decide) rfl (ay ⟨_,rfl,xp,m,t,some ⟨g,0,none⟩,1,⟨rfl,rfl,?_⟩,rfl,rfl⟩);unfold ex;rw[if_neg (λ h=>h h0)]
 ·refine⟨rfl,?_⟩;refine ae [] rfl ?_;refine az [0,5,6,7,8,9] (by decide) rfl (ay ⟨_,rfl,oU m.sta.checkZ,m,t,A2,c2,⟨rfl,rfl,?_⟩,rfl,rfl⟩);unfold ex;rw[if_pos h0]
theorem yZ(V:b5)(pp p:Nat)(m:cD)(hm:m.sta.OK)(t:cN):Fn 71 [.pointer (some ⟨pp,0,none⟩),dF [105,116,101,109,115]] (aL (dy pp p m t)) (V.heap++dy pp p m t) (zM pp p (EM m.sta t λ o=>o=m.sta.itemsT)):=by
 generalize hM:aL _=M
 refine aJ Tryz.func71 rfl rfl λ w0=>?_;refine ad (aa (ae [] rfl ?_));refine bh (aW 5 rfl) λ ⟨_,_,hB1,hn1⟩=>?_;obtain⟨w1,hB1⟩:=bL hB1 hn1;refine bh (aW 6 rfl) λ ⟨_,_,hB2,hn2⟩=>?_;obtain⟨w2,hB2⟩:=bL hB2 hn2;refine bh (aW 7 rfl) λ ⟨_,_,hB3,hn3⟩=>?_;obtain⟨w3,hB3⟩:=bL hB3 hn3;have hat:m.At w1 w2 w3:=⟨gJ hB1,du hB2,du hB3⟩;refine ad (ad (aa (ae [] rfl ?_)));refine au (ad (aa (ae [] rfl ?_)));refine a7 12 (v':=.bool false) rfl (Gt Value.bool ((de _ [108,111,97,100]).trans (a6 (by first|assumption|decide)))) ?_;refine bG rfl ?_;refine ad (aa (ae [] rfl ?_));refine a7 16 (v':=.bool false) rfl (Gt Value.bool ((de _ [99,104,101,99,107]).trans (a6 (by first|assumption|decide)))) ?_;refine bG rfl ?_;refine ad (aa (ae [] rfl ?_));refine a7 25 (v':=.bool false) rfl (Gt Value.bool ((de _ [118,97,108,117,101]).trans (a6 (by first|assumption|decide)))) ?_;refine bG rfl ?_;refine ad (aa (ae [] rfl ?_));refine a7 41 (v':=.bool true) rfl (Gt Value.bool ((de _ [105,116,101,109,115]).trans (aR rfl))) ?_;refine bi rfl ?_;refine ad (aa (ah [] rfl ?_));refine ap [] (zA V pp p m hm t w1 w2 w3 hat) rfl (by kernel_rfl) ⟨⟨3,_,by simp[dy,eM],rfl,aF _ _ _ (0,0),.inr rfl⟩,⟨4,_,by simp[dy,eM],rfl,aF _ _ _ (0,0),.inr rfl⟩,⟨5,_,by simp[dy,eM],rfl,aE hB1,aM hB1⟩,⟨6,_,by simp[dy,eM],rfl,aE hB2,aM hB2⟩,⟨7,_,by simp[dy,eM],rfl,aE hB3,aM hB3⟩,⟨0,by simp[dy,eM],rfl⟩,⟨1,by simp[dy,eM],rfl⟩,⟨2,by simp[dy,eM],rfl⟩,an⟩ (λ _=>rfl) ?_;rintro v H' ⟨A2,c2,rfl,rfl⟩;refine⟨rfl,?_⟩;refine ae [] rfl ?_;exact az [0,4,5,6,7,8] (by decide) rfl (ay ⟨_,rfl,m.sta.itemsT,m,t,A2,c2,⟨rfl,rfl,rfl⟩,rfl,rfl⟩)
open Lib
theorem nj:∀ {l:LU} {i:Nat},l[i]?=some 124->(∀ k,k<i->l[k]?≠some 124)->l.dropWhile (λ b=>decide (b≠124))=l.drop i
 |[],i,h,_=>by simp at h
 |b::l,0,h,_=>by
  simp only[HB,Gs] at h;subst h;rw[IY,if_neg (by decide)];rfl
 |b::l,i+1,h,hk=>by
  have hb:b≠124:=λ e=>hk 0 (by omega) (by rw[e];rfl);rw[IY,if_pos (by simpa using hb)];exact nj (by simpa using h) λ k hk'=>by have:=hk (k+1) (by omega);simpa using this
theorem ww(l:LU):(Lib.cut l [124]).2.1=(l.dropWhile (λ b=>decide (b≠124))).drop 1:=by
 unfold Lib.cut;rw[index_one];have hge:=indexByte_ge l 124;by_cases h:0<=indexByte l 124
 ·rw[if_pos h];obtain⟨i,hi⟩:∃ i:Nat,indexByte l 124=i:=⟨(indexByte l 124).toNat,by omega⟩;obtain⟨h1,h2⟩:=indexByte_some hi;rw[nj h1 h2,List.drop_drop,hi];simp
 ·rw[if_neg h];have h2:=indexByte_none (show indexByte l 124=-1 by omega)
  have:l.dropWhile (λ b=>decide (b≠124))=[]:=by
   have key:∀ m:LU,(∀ x∈m,x≠124)->m.dropWhile (λ b=>decide (b≠124))=[]:=λ m=>by
    induction m with
    |nil=>intro _;rfl
    |cons b m ih=>intro hm;rw[IY,if_pos (by simpa using hm b (by simp))];exact ih λ x hx=>hm x (by simp[hx])
   refine key l λ x hx e=>?_;obtain⟨j,hj⟩:=HA.1 hx;exact h2 j (by rw[hj,e])
  rw[this];rfl
theorem El{X:Cx}{ops:List Oper}{l:LN}{k0:Nat}{rest:List (Nat×Bool)}{Sf:Heap}{K:Env->Heap->Prop}{E:Env}{H:Heap}(t:Nat){v v':Value}(hv:fW E t=some v)(e:v=v')(h:JE X ops l k0 rest Sf K ((t,v')::E) H):JE X ops l k0 rest Sf K E H:=λ a w hA hH=>h a w (hA.set hv e) hH
theorem yJ(V:b5)(l p:LU)(hl:l.length<4294967281):Fn 64 [dF l,dF p] [] V.heap λ v H'=>v=.tuple #[dF (Lib.cut l p).1,dF (Lib.cut l p).2.1,.bool (Lib.cut l p).2.2]/\H'=[]:=by
 refine Fn.of_below λ w hw=>?_;have hm:=V.cellM (hw.holds (.tab _ V.oM) (by simp[b5.heap]));exact (Any.strings_Cut Tryz.lays145 ⟨l.toArray⟩ ⟨p.toArray⟩ V.m w (by rw[cC];exact hl) hm).mono λ e w' ⟨he,n,hw'⟩=>⟨_,he,hw'▸⟨rfl,rfl,rfl,GF _,λ _ _=>rfl⟩,rfl,rfl⟩
def lM(bb ob:Nat)(w:cN)(T:Ws)(V:b5):Heap:=[.seg bb ob (cK (w::T))]++V.heap
set_option maxHeartbeats 1000000 in
theorem Be(V:b5)(pp p:Nat)(m:cD)(t line:cN)(ht:t.length<=9999999)(hline:line.length<=3000)(T:Ws)(hwe:∀ x∈T,x.length<=10000000)(hTl:T.length<=3000)(cb bb ob:Nat)(hnc:T.length+1<=cb):
 Fn 36 [.pointer (some ⟨pp,0,none⟩),dF line,.slice (some ⟨bb,ob,none⟩) (T.length+1) cb] (aL (dy pp p m t)) (lM bb ob [124] T V++dy pp p m t) (zM pp p λ o q' t'=>q'=m.sta/\t'=t++(kC line++[10])/\o=[]):=by
 have hrl:=tB line
 generalize hM:aL _=M
 refine aJ Tryz.func36 rfl rfl λ w0=>?_;refine ad (aa (ae [] rfl ?_));refine ad (aa (ah [] rfl ?_));refine ab [] (dE (i:=1) rfl rfl rfl rfl rfl (by simp)) rfl ?_;refine aI 16 (v':=.slice (gj (some ⟨bb,ob,none⟩) cb 1 1) T.length (cb-1)) rfl (by show Value.slice _ _ _=_;simp) ?_
 refine b9 [] (kH V T (λ y hy=>hwe y hy) (by omega) (gj (some ⟨bb,ob,none⟩) cb 1 1) T.length (cb-1) bb (ob+1) (λ hne=>by
  have:=Hc.2 hne;rw[fT (b:=bb) (o:=ob) (n:=T.length+1) (λ _=>rfl) (by omega) (by omega)]) rfl) rfl rfl rfl rfl (by kernel_rfl) ⟨⟨0,_,by simp[b5.heap],rfl,ep (ak bb ob (cK ([124]::T))) 1,.inr rfl⟩,⟨1,by simp[b5.heap],rfl⟩,⟨2,by simp[b5.heap],rfl⟩,⟨3,by simp[b5.heap],rfl⟩,an⟩ (λ _=>rfl) ?_
 rintro v H' ⟨An,cn,rfl,rfl⟩;refine⟨rfl,?_⟩;refine ae [] rfl ?_;refine ad (ad (aa (ah [] rfl ?_)));refine ab [] (v:=.pointer (some ⟨bb,ob+0,none⟩)) (bR (m:=0) rfl (by simp)) rfl ?_;refine ab [] (v:=dF [124]) (a8 (i:=0) 1 rfl rfl rfl) rfl ?_;refine ae [] rfl ?_;refine au (ad (aa (ae [] rfl ?_)));refine a7 31 (v':=.bool true) rfl (Gt Value.bool ((de _ [124]).trans (aR rfl))) ?_;refine bi rfl ?_;refine ad (aa ?_);refine am (gs:=[999]) rfl ?_;refine ap [] (yJ V line [124] (by omega)) rfl (by kernel_rfl) ⟨⟨2,by simp[lM,b5.heap],rfl⟩,⟨3,by simp[lM,b5.heap],rfl⟩,⟨4,by simp[lM,b5.heap],rfl⟩,an⟩ (λ _=>rfl) ?_;rintro v H' ⟨rfl,rfl⟩;refine⟨rfl,?_⟩;refine ae [] rfl ?_;refine ad ?_;refine eK 14 [0,1,2,3,4,5,6,7,8,9,10,11,12] 13 [] (by kernel_rfl) ?_
 (repeat' (first|refine ev (gs:=[999]) rfl rfl ?_|refine bA [999] (v:=dF t) rfl rfl (af 5 rfl) rfl ?_))
 have hcs:=ww line
 generalize (Lib.cut line [124]).2.1=r at hcs ⊢
 have hrr:r.drop (min 1 r.length)=kC line:=by
  unfold kC;rw[<- hcs]
  cases r with
  |nil=>rfl
  |cons b r=>rfl
 refine El 46 (v':=.int .i64 ((min 1 r.length:Nat):Int)) rfl (Gt (Value.int .i64) (by rw[cC];split<;>omega)) ?_;refine bA [] (v:=dF (r.drop (min 1 r.length))) rfl rfl (BA rfl rfl rfl rfl (Nat.min_le_right _ _)) rfl ?_;rw[hrr];refine bA [] rfl rfl (gA (l:=kC line) (m:=[10]) rfl rfl rfl (by simp;omega)) rfl ?_;refine bA [] rfl rfl (gA (l:=t) (m:=kC line++[10]) rfl rfl rfl (by simp;omega)) rfl ?_
 (repeat' (refine ev (gs:=[999]) rfl rfl ?_))
 refine d6 rfl ?_;refine aA 5 rfl [] rfl ?_;refine ai ⟨⟨[],by decide,rfl⟩,?_⟩;refine bq ?_;refine ai ?_;refine ad (aa (ae [] rfl ?_));refine cd 9 1 ?_;exact az [0,6,7,8,9,10] (by decide) rfl (ay ⟨_,rfl,[],m,t++(kC line++[10]),none,0,⟨rfl,rfl,rfl⟩,rfl,rfl⟩)
end Go.Proofs.YtmcnpaelaieniaaGreatDoor
