import Derived.Test.YtmcnpaelaieniaaGreatDoorQX113
import Derived.Test.YtmcnpaelaieniaaGreatDoorScrK
import Derived.Lib.CutLaws
/- A part of the proof; see NOTES.md. -/
set_option linter.unusedVariables false
set_option linter.unusedSimpArgs false
namespace Go.Proofs.YtmcnpaelaieniaaGreatDoor
open Go.RowKit
open Lib
def EL(q:du)(t:cR)(P:List cR->Prop)(o:List cR)(q':du)(t':cR):Prop:=q'=q/\t'=t/\P o
theorem yf(V:cj)(pp p:Nat)(m:cF)(t:cR)(ht:t.length<=9999999):Fn 71 [.pointer (some ⟨pp,0,none⟩),dK [108,111,97,100]] (aJ (dA pp p m t)) (V.heap++dA pp p m t) (zK pp p (fd m.sta t [108,111,97,100])):=by
 have TL:=AV V pp p m t ht
 generalize hM:aJ _=M at TL ⊢
 refine aH Tryz.func71 rfl rfl λ w0=>?_;refine ad (aa (ae [] rfl ?_));refine ad (ad (aa (ae [] rfl ?_)));refine av (ad (aa (ae [] rfl ?_)));refine aX 12 (v':=.bool true) rfl (Gz Value.bool ((dh _ [108,111,97,100]).trans (aT rfl))) ?_;refine bh rfl ?_;refine ad (aa (ah [] rfl ?_));subst hM;refine aw (fst:=[]) (cap:=[]) [] TL rfl rfl rfl rfl (by kernel_rfl) (K:=V.heap) (aF.picks [3,4,5,6,7,0,1,2] (by decide) rfl) ⟨⟨0,by simp,rfl⟩,⟨1,by simp,rfl⟩,⟨2,by simp,rfl⟩,an⟩ (λ _=>rfl) ?_;rintro v H' ⟨o,m',t',A,c,h,rfl,rfl⟩;refine⟨rfl,?_⟩;refine ae [] rfl ?_;exact aA [0,1,2,3,4,5] (by decide) rfl (ax ⟨_,rfl,o,m',t',A,c,h,rfl,rfl⟩)
theorem y9(V:cj)(pp p:Nat)(m:cF)(hm:m.sta.OK)(t:cR):Fn 71 [.pointer (some ⟨pp,0,none⟩),dK [99,104,101,99,107]] (aJ (dA pp p m t)) (V.heap++dA pp p m t) (zK pp p (EL m.sta t λ o=>o=ey m.sta.checkZ w5)):=by
 generalize hM:aJ _=M
 refine aH Tryz.func71 rfl rfl λ w0=>?_;refine ad (aa (ae [] rfl ?_));refine bv (a8 5 rfl) λ ⟨_,_,hB1,hn1⟩=>?_;obtain⟨w1,hB1⟩:=bQ hB1 hn1;refine bv (a8 6 rfl) λ ⟨_,_,hB2,hn2⟩=>?_;obtain⟨w2,hB2⟩:=bQ hB2 hn2;refine bv (a8 7 rfl) λ ⟨_,_,hB3,hn3⟩=>?_;obtain⟨w3,hB3⟩:=bQ hB3 hn3;have hat:m.At w1 w2 w3:=⟨gQ hB1,iA hB2,iA hB3⟩;refine ad (ad (aa (ae [] rfl ?_)));refine av (ad (aa (ae [] rfl ?_)));refine aX 12 (v':=.bool false) rfl (Gz Value.bool ((dh _ [108,111,97,100]).trans (aZ (by first|assumption|decide)))) ?_;refine bG rfl ?_;refine ad (aa (ae [] rfl ?_));refine aX 16 (v':=.bool true) rfl (Gz Value.bool ((dh _ [99,104,101,99,107]).trans (aT rfl))) ?_;refine bh rfl ?_;refine ad (aa (ah [] rfl ?_));refine ab [] (v:=.pointer (some ⟨p,0,none⟩)) (af 3 rfl) rfl ?_;refine ao [] (y7 m hm.ses p w1 w2 w3 hat) rfl (by kernel_rfl) ⟨⟨4,_,by simp[dA,eO],rfl,aD _ _ _ (0,0),.inr rfl⟩,⟨5,_,by simp[dA,eO],rfl,aL hB1,a7 hB1⟩,⟨6,_,by simp[dA,eO],rfl,aL hB2,a7 hB2⟩,⟨7,_,by simp[dA,eO],rfl,aL hB3,a7 hB3⟩,an⟩ (λ _=>rfl) ?_;rintro v H' ⟨rfl,rfl⟩;refine⟨rfl,?_⟩;refine bC rfl rfl rfl rfl rfl rfl rfl (λ _=>rfl) λ g=>?_;refine fk 1 1 (by rfl) (by decide) ?_;refine ao [] (oX V (m.sta.checkZ) ((m.sta.check_code).inB) (some ⟨g,0,none⟩) 1 1) rfl (by kernel_rfl) ⟨⟨1,by simp,rfl⟩,⟨2,by simp,rfl⟩,⟨3,by simp,rfl⟩,an⟩ (λ _=>rfl) ?_;rintro v H' (⟨h0,rfl,rfl⟩|⟨h0,A2,c2,rfl,rfl⟩)
 ·refine⟨rfl,?_⟩;refine ae [] rfl ?_;refine aA [0,4,5,6,7,8] (by decide) rfl (ax ⟨_,rfl,w5,m,t,some ⟨g,0,none⟩,1,⟨rfl,rfl,?_⟩,rfl,rfl⟩);unfold ey;rw[if_neg (λ h=>h h0)]
 ·refine⟨rfl,?_⟩;refine ae [] rfl ?_;refine aA [0,5,6,7,8,9] (by decide) rfl (ax ⟨_,rfl,oK m.sta.checkZ,m,t,A2,c2,⟨rfl,rfl,?_⟩,rfl,rfl⟩);unfold ey;rw[if_pos h0]
theorem xV(V:cj)(pp p:Nat)(m:cF)(hm:m.sta.OK)(t:cR):Fn 71 [.pointer (some ⟨pp,0,none⟩),dK [105,116,101,109,115]] (aJ (dA pp p m t)) (V.heap++dA pp p m t) (zK pp p (EL m.sta t λ o=>o=m.sta.itemsT)):=by
 generalize hM:aJ _=M
 refine aH Tryz.func71 rfl rfl λ w0=>?_;refine ad (aa (ae [] rfl ?_));refine bv (a8 5 rfl) λ ⟨_,_,hB1,hn1⟩=>?_;obtain⟨w1,hB1⟩:=bQ hB1 hn1;refine bv (a8 6 rfl) λ ⟨_,_,hB2,hn2⟩=>?_;obtain⟨w2,hB2⟩:=bQ hB2 hn2;refine bv (a8 7 rfl) λ ⟨_,_,hB3,hn3⟩=>?_;obtain⟨w3,hB3⟩:=bQ hB3 hn3;have hat:m.At w1 w2 w3:=⟨gQ hB1,iA hB2,iA hB3⟩;refine ad (ad (aa (ae [] rfl ?_)));refine av (ad (aa (ae [] rfl ?_)));refine aX 12 (v':=.bool false) rfl (Gz Value.bool ((dh _ [108,111,97,100]).trans (aZ (by first|assumption|decide)))) ?_;refine bG rfl ?_;refine ad (aa (ae [] rfl ?_));refine aX 16 (v':=.bool false) rfl (Gz Value.bool ((dh _ [99,104,101,99,107]).trans (aZ (by first|assumption|decide)))) ?_;refine bG rfl ?_;refine ad (aa (ae [] rfl ?_));refine aX 25 (v':=.bool false) rfl (Gz Value.bool ((dh _ [118,97,108,117,101]).trans (aZ (by first|assumption|decide)))) ?_;refine bG rfl ?_;refine ad (aa (ae [] rfl ?_));refine aX 41 (v':=.bool true) rfl (Gz Value.bool ((dh _ [105,116,101,109,115]).trans (aT rfl))) ?_;refine bh rfl ?_;refine ad (aa (ah [] rfl ?_));refine ao [] (zB V pp p m hm t w1 w2 w3 hat) rfl (by kernel_rfl) ⟨⟨3,_,by simp[dA,eO],rfl,aD _ _ _ (0,0),.inr rfl⟩,⟨4,_,by simp[dA,eO],rfl,aD _ _ _ (0,0),.inr rfl⟩,⟨5,_,by simp[dA,eO],rfl,aL hB1,a7 hB1⟩,⟨6,_,by simp[dA,eO],rfl,aL hB2,a7 hB2⟩,⟨7,_,by simp[dA,eO],rfl,aL hB3,a7 hB3⟩,⟨0,by simp[dA,eO],rfl⟩,⟨1,by simp[dA,eO],rfl⟩,⟨2,by simp[dA,eO],rfl⟩,an⟩ (λ _=>rfl) ?_;rintro v H' ⟨A2,c2,rfl,rfl⟩;refine⟨rfl,?_⟩;refine ae [] rfl ?_;exact aA [0,4,5,6,7,8] (by decide) rfl (ax ⟨_,rfl,m.sta.itemsT,m,t,A2,c2,⟨rfl,rfl,rfl⟩,rfl,rfl⟩)
open Lib
theorem mW:∀ {l:LU} {i:Nat},l[i]?=some 124->(∀ k,k<i->l[k]?≠some 124)->l.dropWhile (λ b=>decide (b≠124))=l.drop i
 |[],i,h,_=>by simp at h
 |b::l,0,h,_=>by
  simp only[HP,GA] at h;subst h;rw[I6,if_neg (by decide)];rfl
 |b::l,i+1,h,hk=>by
  have hb:b≠124:=λ e=>hk 0 (by omega) (by rw[e];rfl);rw[I6,if_pos (by simpa using hb)];exact mW (by simpa using h) λ k hk'=>by have:=hk (k+1) (by omega);simpa using this
theorem wb(l:LU):(Lib.cut l [124]).2.1=(l.dropWhile (λ b=>decide (b≠124))).drop 1:=by
 unfold Lib.cut;rw[index_one];have hge:=indexByte_ge l 124;by_cases h:0<=indexByte l 124
 ·rw[if_pos h];obtain⟨i,hi⟩:∃ i:Nat,indexByte l 124=i:=⟨(indexByte l 124).toNat,by omega⟩;obtain⟨h1,h2⟩:=indexByte_some hi;rw[mW h1 h2,List.drop_drop,hi];simp
 ·rw[if_neg h];have h2:=indexByte_none (show indexByte l 124=-1 by omega)
  have:l.dropWhile (λ b=>decide (b≠124))=[]:=by
   have key:∀ m:LU,(∀ x∈m,x≠124)->m.dropWhile (λ b=>decide (b≠124))=[]:=λ m=>by
    induction m with
    |nil=>intro _;rfl
    |cons b m ih=>intro hm;rw[I6,if_pos (by simpa using hm b (by simp))];exact ih λ x hx=>hm x (by simp[hx])
   refine key l λ x hx e=>?_;obtain⟨j,hj⟩:=HJ.1 hx;exact h2 j (by rw[hj,e])
  rw[this];rfl
theorem EQ{X:Cx}{ops:List Oper}{l:LN}{k0:Nat}{rest:List (Nat×Bool)}{Sf:Heap}{K:Env->Heap->Prop}{E:Env}{H:Heap}(t:Nat){v v':Value}(hv:fT E t=some v)(e:v=v')(h:JE X ops l k0 rest Sf K ((t,v')::E) H):JE X ops l k0 rest Sf K E H:=λ a w hA hH=>h a w (hA.set hv e) hH
theorem xN(V:cj)(l p:LU)(hl:l.length<4294967281):Fn 64 [dK l,dK p] [] V.heap λ v H'=>v=.tuple #[dK (Lib.cut l p).1,dK (Lib.cut l p).2.1,.bool (Lib.cut l p).2.2]/\H'=[]:=by
 refine Fn.of_below λ w hw=>?_;have hm:=V.cellM (hw.holds (.tab _ V.oM) (by simp[cj.heap]));exact (Any.strings_Cut Tryz.lays145 ⟨l.toArray⟩ ⟨p.toArray⟩ V.m w (by rw[cP];exact hl) hm).mono λ e w' ⟨he,n,hw'⟩=>⟨_,he,hw'▸⟨rfl,rfl,rfl,GN _,λ _ _=>rfl⟩,rfl,rfl⟩
def lO(bb ob:Nat)(w:cR)(T:Ws)(V:cj):Heap:=[.seg bb ob (cO (w::T))]++V.heap
set_option maxHeartbeats 1000000 in
theorem AJ(V:cj)(pp p:Nat)(m:cF)(t line:cR)(ht:t.length<=9999999)(hline:line.length<=3000)(T:Ws)(hwe:∀ x∈T,x.length<=10000000)(hTl:T.length<=3000)(cb bb ob:Nat)(hnc:T.length+1<=cb):
 Fn 36 [.pointer (some ⟨pp,0,none⟩),dK line,.slice (some ⟨bb,ob,none⟩) (T.length+1) cb] (aJ (dA pp p m t)) (lO bb ob [124] T V++dA pp p m t) (zK pp p λ o q' t'=>q'=m.sta/\t'=t++(kx line++[10])/\o=[]):=by
 have hrl:=tF line
 generalize hM:aJ _=M
 refine aH Tryz.func36 rfl rfl λ w0=>?_;refine ad (aa (ae [] rfl ?_));refine ad (aa (ah [] rfl ?_));refine ab [] (dJ (i:=1) rfl rfl rfl rfl rfl (by simp)) rfl ?_;refine aI 16 (v':=.slice (gb (some ⟨bb,ob,none⟩) cb 1 1) T.length (cb-1)) rfl (by show Value.slice _ _ _=_;simp) ?_
 refine cL [] (kF V T (λ y hy=>hwe y hy) (by omega) (gb (some ⟨bb,ob,none⟩) cb 1 1) T.length (cb-1) bb (ob+1) (λ hne=>by
  have:=Hj.2 hne;rw[fO (b:=bb) (o:=ob) (n:=T.length+1) (λ _=>rfl) (by omega) (by omega)]) rfl) rfl rfl rfl rfl (by kernel_rfl) ⟨⟨0,_,by simp[cj.heap],rfl,ex (ak bb ob (cO ([124]::T))) 1,.inr rfl⟩,⟨1,by simp[cj.heap],rfl⟩,⟨2,by simp[cj.heap],rfl⟩,⟨3,by simp[cj.heap],rfl⟩,an⟩ (λ _=>rfl) ?_
 rintro v H' ⟨An,cn,rfl,rfl⟩;refine⟨rfl,?_⟩;refine ae [] rfl ?_;refine ad (ad (aa (ah [] rfl ?_)));refine ab [] (v:=.pointer (some ⟨bb,ob+0,none⟩)) (bZ (m:=0) rfl (by simp)) rfl ?_;refine ab [] (v:=dK [124]) (bc (i:=0) 1 rfl rfl rfl) rfl ?_;refine ae [] rfl ?_;refine av (ad (aa (ae [] rfl ?_)));refine aX 31 (v':=.bool true) rfl (Gz Value.bool ((dh _ [124]).trans (aT rfl))) ?_;refine bh rfl ?_;refine ad (aa ?_);refine am (gs:=[999]) rfl ?_;refine ao [] (xN V line [124] (by omega)) rfl (by kernel_rfl) ⟨⟨2,by simp[lO,cj.heap],rfl⟩,⟨3,by simp[lO,cj.heap],rfl⟩,⟨4,by simp[lO,cj.heap],rfl⟩,an⟩ (λ _=>rfl) ?_;rintro v H' ⟨rfl,rfl⟩;refine⟨rfl,?_⟩;refine ae [] rfl ?_;refine ad ?_;refine eK 14 [0,1,2,3,4,5,6,7,8,9,10,11,12] 13 [] (by kernel_rfl) ?_
 (repeat' (first|refine ep (gs:=[999]) rfl rfl ?_|refine bA [999] (v:=dK t) rfl rfl (af 5 rfl) rfl ?_))
 have hcs:=wb line
 generalize (Lib.cut line [124]).2.1=r at hcs ⊢
 have hrr:r.drop (min 1 r.length)=kx line:=by
  unfold kx;rw[<- hcs]
  cases r with
  |nil=>rfl
  |cons b r=>rfl
 refine EQ 46 (v':=.int .i64 ((min 1 r.length:Nat):Int)) rfl (Gz (Value.int .i64) (by rw[cP];split<;>omega)) ?_;refine bA [] (v:=dK (r.drop (min 1 r.length))) rfl rfl (zR rfl rfl rfl rfl (Nat.min_le_right _ _)) rfl ?_;rw[hrr];refine bA [] rfl rfl (gi (l:=kx line) (m:=[10]) rfl rfl rfl (by simp;omega)) rfl ?_;refine bA [] rfl rfl (gi (l:=t) (m:=kx line++[10]) rfl rfl rfl (by simp;omega)) rfl ?_
 (repeat' (refine ep (gs:=[999]) rfl rfl ?_))
 refine dZ rfl ?_;refine aB 5 rfl [] rfl ?_;refine ai ⟨⟨[],by decide,rfl⟩,?_⟩;refine bp ?_;refine ai ?_;refine ad (aa (ae [] rfl ?_));refine cd 9 1 ?_;exact aA [0,6,7,8,9,10] (by decide) rfl (ax ⟨_,rfl,[],m,t++(kx line++[10]),none,0,⟨rfl,rfl,rfl⟩,rfl,rfl⟩)
end Go.Proofs.YtmcnpaelaieniaaGreatDoor
