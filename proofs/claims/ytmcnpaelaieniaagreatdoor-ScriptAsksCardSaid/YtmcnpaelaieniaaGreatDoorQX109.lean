import Derived.Test.YtmcnpaelaieniaaGreatDoorQX138
import Derived.Lib.CutLaws
/- A part of the proof. -/
set_option linter.unusedVariables false
set_option linter.unusedSimpArgs false
set_option maxHeartbeats 8000000
namespace Go.Proofs.YtmcnpaelaieniaaGreatDoor
open Go.RowKit
open Lib
def x7(q:c9)(t:bP)(P:List bP->Prop)(o:List bP)(q':c9)(t':bP):Prop:=q'=q/\t'=t/\P o
theorem vQ(V:LibV)(pp p:Nat)(m:cO)(t:bP)(b:t.length<=9999999):Fn 71 [.pointer (some ⟨pp,0,none⟩),du [108,111,97,100]] (ay (bN pp p m t)) (V.heap++bN pp p m t) (vy pp p (eJ m.sta t [108,111,97,100])):=by
 have a:=F9 V pp p m t b
 generalize hM:ay _=M at a ⊢
 refine aT Tryz.func71 λ w0=>?_;refine mI ?_;refine ao ?_;refine sY 12 [108,111,97,100] ?_;refine pZ ?_;subst hM;refine bJ (fst:=[]) (cap:=[]) [] a rfl rfl rfl rfl aW (K:=V.heap) (aw.picks [3,4,5,6,7,0,1,2] ab rfl) ⟨⟨0,ai,rfl⟩,⟨1,ai,rfl⟩,⟨2,ai,rfl⟩,be⟩ aE ?_;rintro v H' ⟨o,d,e,A,c,h,rfl,rfl⟩;refine ef ?_;exact aL [0,1,2,3,4,5] ⟨_,rfl,o,d,e,A,c,h,rfl,rfl⟩
theorem ww(V:LibV)(pp p:Nat)(m:cO)(hm:m.sta.OK)(t:bP):Fn 71 [.pointer (some ⟨pp,0,none⟩),du [99,104,101,99,107]] (ay (bN pp p m t)) (V.heap++bN pp p m t) (vy pp p (x7 m.sta t λ o=>o=cL m.sta.checkZ nn)):=by
 generalize hM:ay _=M
 refine aT Tryz.func71 λ w0=>?_;refine ao ?_;refine aP (aH 5 rfl) λ ⟨_,_,a,d⟩=>?_;obtain⟨k,a⟩:=bo a d;refine aP (aH 6 rfl) λ ⟨_,_,b,e⟩=>?_;obtain⟨l,b⟩:=bo b e;refine aP (aH 7 rfl) λ ⟨_,_,c,f⟩=>?_;obtain⟨n,c⟩:=bo c f;have i:m.At k l n:=⟨fH a,dN b,dN c⟩;refine jZ ?_;refine ao ?_;refine lF 12 [108,111,97,100] ?_;refine fD ?_;refine sY 16 [99,104,101,99,107] ?_;refine dy ?_;refine xd ?_;refine cH (EU m hm.ses p k l n i) rfl ⟨⟨4,_,by simp[bN,dq],rfl,aQ _ _ _ (0,0),.inr rfl⟩,⟨5,_,by simp[bN,dq],rfl,bi a,bO a⟩,⟨6,_,by simp[bN,dq],rfl,bi b,bO b⟩,⟨7,_,by simp[bN,dq],rfl,bi c,bO c⟩,be⟩ ?_;refine dp λ g=>?_;refine ji ?_;refine dB (jy V (m.sta.checkZ) ((m.sta.check_code).inB) (aJ g 0) 1 1) rfl ⟨⟨1,ai,rfl⟩,⟨2,ai,rfl⟩,⟨3,ai,rfl⟩,be⟩ ?_;rintro v H' (⟨j,rfl,rfl⟩|⟨j,q,c2,rfl,rfl⟩)
 ·refine ef ?_;refine aL [0,4,5,6,7,8] ⟨_,rfl,nn,m,t,aJ g 0,1,⟨rfl,rfl,?_⟩,rfl,rfl⟩;unfold cL;rw[if_neg (λ h=>h j)]
 ·refine ef ?_;refine aL [0,5,6,7,8,9] ⟨_,rfl,j0 m.sta.checkZ,m,t,q,c2,⟨rfl,rfl,?_⟩,rfl,rfl⟩;unfold cL;rw[if_pos j]
theorem D6(V:LibV)(pp p:Nat)(m:cO)(hm:m.sta.OK)(t:bP):Fn 71 [.pointer (some ⟨pp,0,none⟩),du [118,97,108,117,101]] (ay (bN pp p m t)) (V.heap++bN pp p m t) (vy pp p (x7 m.sta t λ o=>o=cL m.sta.valZ.2 [gG jK [m.sta.valZ.1]])):=by
 generalize hM:ay _=M
 refine aT Tryz.func71 λ w0=>?_;refine ao ?_;refine aP (aH 5 rfl) λ ⟨_,_,a,d⟩=>?_;obtain⟨l,a⟩:=bo a d;refine aP (aH 6 rfl) λ ⟨_,_,b,e⟩=>?_;obtain⟨n,b⟩:=bo b e;refine aP (aH 7 rfl) λ ⟨_,_,c,f⟩=>?_;obtain⟨q,c⟩:=bo c f;have i:m.At l n q:=⟨fH a,dN b,dN c⟩;refine jZ ?_;refine ao ?_;refine lF 12 [108,111,97,100] ?_;refine fD ?_;refine lF 16 [99,104,101,99,107] ?_;refine fD ?_;refine sY 25 [118,97,108,117,101] ?_;refine dy ?_;have j:=m.sta.val_in hm;refine xd ?_;refine cH (DN m hm p l n q i) rfl ⟨⟨4,_,by simp[bN,dq],rfl,aQ _ _ _ (0,0),.inr rfl⟩,⟨5,_,by simp[bN,dq],rfl,bi a,bO a⟩,⟨6,_,by simp[bN,dq],rfl,bi b,bO b⟩,⟨7,_,by simp[bN,dq],rfl,bi c,bO c⟩,be⟩ ?_;refine ew ?_;refine dp λ g0=>?_;refine cH (fq V jK ab [m.sta.valZ.1] (λ x r=>by rw[Nh.1 r];exact j) ai (aJ g0 0) 1 1 g0 0 aE rfl) rfl ⟨en 0 rfl,⟨1,ai,rfl⟩,⟨2,ai,rfl⟩,⟨3,ai,rfl⟩,be⟩ ?_;refine cK (aw.picks (K:=V.heap++bN pp p m t) [1,2,3,4,5,6,7,8] ab rfl)<|dp λ g=>?_;refine ji ?_;refine dB (jy V (m.sta.valZ.2) ((m.sta.val_code).inB) (aJ g 0) 1 1) rfl ⟨⟨1,ai,rfl⟩,⟨2,ai,rfl⟩,⟨3,ai,rfl⟩,be⟩ ?_;rintro v H' (⟨k,rfl,rfl⟩|⟨k,s,c2,rfl,rfl⟩)
 ·refine ef ?_;refine aL [0,4,5,6,7,8] ⟨_,rfl,[gG jK [m.sta.valZ.1]],m,t,aJ g 0,1,⟨rfl,rfl,?_⟩,rfl,rfl⟩;unfold cL;rw[if_neg (λ h=>h k)]
 ·refine ef ?_;refine aL [0,5,6,7,8,9] ⟨_,rfl,j0 m.sta.valZ.2,m,t,s,c2,⟨rfl,rfl,?_⟩,rfl,rfl⟩;unfold cL;rw[if_pos k]
theorem wd(V:LibV)(pp p:Nat)(m:cO)(hm:m.sta.OK)(t:bP):Fn 71 [.pointer (some ⟨pp,0,none⟩),du [105,116,101,109,115]] (ay (bN pp p m t)) (V.heap++bN pp p m t) (vy pp p (x7 m.sta t λ o=>o=m.sta.itemsT)):=by
 generalize hM:ay _=M
 refine aT Tryz.func71 λ w0=>?_;refine ao ?_;refine aP (aH 5 rfl) λ ⟨_,_,a,d⟩=>?_;obtain⟨i,a⟩:=bo a d;refine aP (aH 6 rfl) λ ⟨_,_,b,e⟩=>?_;obtain⟨j,b⟩:=bo b e;refine aP (aH 7 rfl) λ ⟨_,_,c,f⟩=>?_;obtain⟨k,c⟩:=bo c f;have g:m.At i j k:=⟨fH a,dN b,dN c⟩;refine If ?_;refine sY 41 [105,116,101,109,115] ?_;refine pZ ?_;refine fh (E7 V pp p m hm t i j k g) rfl ⟨⟨3,_,by simp[bN,dq],rfl,aQ _ _ _ (0,0),.inr rfl⟩,⟨4,_,by simp[bN,dq],rfl,aQ _ _ _ (0,0),.inr rfl⟩,⟨5,_,by simp[bN,dq],rfl,bi a,bO a⟩,⟨6,_,by simp[bN,dq],rfl,bi b,bO b⟩,⟨7,_,by simp[bN,dq],rfl,bi c,bO c⟩,⟨0,by simp[bN,dq],rfl⟩,⟨1,by simp[bN,dq],rfl⟩,⟨2,by simp[bN,dq],rfl⟩,be⟩ ?_;rintro v H' ⟨l,c2,rfl,rfl⟩;refine aN ?_;exact aL [0,4,5,6,7,8] ⟨_,rfl,m.sta.itemsT,m,t,l,c2,gY,rfl,rfl⟩
theorem DI(V:LibV)(pp p:Nat)(m:cO)(hm:m.sta.OK)(t:bP):Fn 71 [.pointer (some ⟨pp,0,none⟩),du [99,111,117,110,116]] (ay (bN pp p m t)) (V.heap++bN pp p m t) (vy pp p (x7 m.sta t λ o=>m.sta.countR o)):=by
 generalize hM:ay _=M
 refine aT Tryz.func71 λ w0=>?_;refine ao ?_;refine aP (aH 5 rfl) λ ⟨_,_,a,d⟩=>?_;obtain⟨i,a⟩:=bo a d;refine aP (aH 6 rfl) λ ⟨_,_,b,e⟩=>?_;obtain⟨j,b⟩:=bo b e;refine aP (aH 7 rfl) λ ⟨_,_,c,f⟩=>?_;obtain⟨k,c⟩:=bo c f;have g:m.At i j k:=⟨fH a,dN b,dN c⟩;refine Az ?_;refine lF 59 [112,114,105,110,116] ?_;refine fD ?_;refine sY 73 [99,111,117,110,116] ?_;refine pZ ?_;refine fh (Er V pp p m hm t i j k g) rfl ⟨⟨3,_,by simp[bN,dq],rfl,aQ _ _ _ (0,0),.inr rfl⟩,⟨4,_,by simp[bN,dq],rfl,aQ _ _ _ (0,0),.inr rfl⟩,⟨5,_,by simp[bN,dq],rfl,bi a,bO a⟩,⟨6,_,by simp[bN,dq],rfl,bi b,bO b⟩,⟨7,_,by simp[bN,dq],rfl,bi c,bO c⟩,⟨0,by simp[bN,dq],rfl⟩,⟨1,by simp[bN,dq],rfl⟩,⟨2,by simp[bN,dq],rfl⟩,be⟩ ?_;rintro v H' ⟨o,l,n,c2,rfl,rfl⟩;refine aN ?_;exact aL [0,4,5,6,7,8] ⟨_,rfl,o,m,t,n,c2,⟨rfl,rfl,l⟩,rfl,rfl⟩
theorem Ek(V:LibV)(pp p:Nat)(m:cO)(hm:m.sta.OK)(t:bP):Fn 71 [.pointer (some ⟨pp,0,none⟩),du [114,101,112,111,114,116]] (ay (bN pp p m t)) (V.heap++bN pp p m t) (vy pp p (x7 m.sta t λ o=>o=cL m.sta.repZ.2 (aK m.sta.repZ.1))):=by
 generalize hM:ay _=M
 refine aT Tryz.func71 λ w0=>?_;refine ao ?_;refine aP (aH 5 rfl) λ ⟨_,_,a,d⟩=>?_;obtain⟨j,a⟩:=bo a d;refine aP (aH 6 rfl) λ ⟨_,_,b,e⟩=>?_;obtain⟨k,b⟩:=bo b e;refine aP (aH 7 rfl) λ ⟨_,_,c,f⟩=>?_;obtain⟨l,c⟩:=bo c f;have g:m.At j k l:=⟨fH a,dN b,dN c⟩;refine If ?_;refine lF 41 [105,116,101,109,115] ?_;refine fD ?_;refine sY 45 [114,101,112,111,114,116] ?_;refine dy ?_;have r:=m.sta.rep_len hm;refine xd ?_;refine cH (Bb V m hm p j k l g) rfl ⟨⟨4,_,by simp[bN,dq],rfl,aQ _ _ _ (0,0),.inr rfl⟩,⟨5,_,by simp[bN,dq],rfl,bi a,bO a⟩,⟨6,_,by simp[bN,dq],rfl,bi b,bO b⟩,⟨7,_,by simp[bN,dq],rfl,bi c,bO c⟩,⟨0,by simp[bN,dq],rfl⟩,⟨1,by simp[bN,dq],rfl⟩,⟨2,by simp[bN,dq],rfl⟩,be⟩ ?_;refine ew ?_;refine dB (lZ V m.sta.repZ.1 aa) rfl ⟨⟨0,by simp[bN,dq],rfl⟩,⟨1,by simp[bN,dq],rfl⟩,⟨2,by simp[bN,dq],rfl⟩,be⟩ ?_;rintro v H' ⟨q,n,s,rfl,rfl⟩;subst s;refine dE ?_;refine dB (jy V m.sta.repZ.2 (m.sta.rep_code).inB q _ _) rfl ⟨⟨1,ai,rfl⟩,⟨2,ai,rfl⟩,⟨3,ai,rfl⟩,be⟩ ?_;rintro v H' (⟨i,rfl,rfl⟩|⟨i,u,c2,rfl,rfl⟩)
 ·refine ef ?_;refine aL [0,4,5,6,7,8] ⟨_,rfl,aK m.sta.repZ.1,m,t,q,_,⟨rfl,rfl,?_⟩,rfl,rfl⟩;unfold cL;rw[if_neg (λ h=>h i)]
 ·refine ef ?_;refine aL [0,5,6,7,8,9] ⟨_,rfl,j0 m.sta.repZ.2,m,t,u,c2,⟨rfl,rfl,?_⟩,rfl,rfl⟩;unfold cL;rw[if_pos i]
theorem DT(V:LibV)(pp p:Nat)(m:cO)(hm:m.sta.OK)(t:bP):Fn 71 [.pointer (some ⟨pp,0,none⟩),du [112,114,105,110,116]] (ay (bN pp p m t)) (V.heap++bN pp p m t) (vy pp p (x7 m.sta t λ o=>o=cL m.sta.printZ.2 (aK m.sta.printZ.1))):=by
 generalize hM:ay _=M
 refine aT Tryz.func71 λ w0=>?_;refine ao ?_;refine aP (aH 5 rfl) λ ⟨_,_,a,d⟩=>?_;obtain⟨j,a⟩:=bo a d;refine aP (aH 6 rfl) λ ⟨_,_,b,e⟩=>?_;obtain⟨k,b⟩:=bo b e;refine aP (aH 7 rfl) λ ⟨_,_,c,f⟩=>?_;obtain⟨l,c⟩:=bo c f;have g:m.At j k l:=⟨fH a,dN b,dN c⟩;refine Az ?_;refine sY 59 [112,114,105,110,116] ?_;refine dy ?_;have r:=m.sta.print_len hm;refine xd ?_;refine cH (rV V m hm p j k l g) rfl ⟨⟨4,_,by simp[bN,dq],rfl,aQ _ _ _ (0,0),.inr rfl⟩,⟨5,_,by simp[bN,dq],rfl,bi a,bO a⟩,⟨6,_,by simp[bN,dq],rfl,bi b,bO b⟩,⟨7,_,by simp[bN,dq],rfl,bi c,bO c⟩,⟨0,by simp[bN,dq],rfl⟩,⟨1,by simp[bN,dq],rfl⟩,⟨2,by simp[bN,dq],rfl⟩,be⟩ ?_;refine ew ?_;refine dB (lZ V m.sta.printZ.1 aa) rfl ⟨⟨0,by simp[bN,dq],rfl⟩,⟨1,by simp[bN,dq],rfl⟩,⟨2,by simp[bN,dq],rfl⟩,be⟩ ?_;rintro v H' ⟨q,n,s,rfl,rfl⟩;subst s;refine dE ?_;refine dB (jy V m.sta.printZ.2 (m.sta.print_code).inB q _ _) rfl ⟨⟨1,ai,rfl⟩,⟨2,ai,rfl⟩,⟨3,ai,rfl⟩,be⟩ ?_;rintro v H' (⟨i,rfl,rfl⟩|⟨i,u,c2,rfl,rfl⟩)
 ·refine ef ?_;refine aL [0,4,5,6,7,8] ⟨_,rfl,aK m.sta.printZ.1,m,t,q,_,⟨rfl,rfl,?_⟩,rfl,rfl⟩;unfold cL;rw[if_neg (λ h=>h i)]
 ·refine ef ?_;refine aL [0,5,6,7,8,9] ⟨_,rfl,j0 m.sta.printZ.2,m,t,u,c2,⟨rfl,rfl,?_⟩,rfl,rfl⟩;unfold cL;rw[if_pos i]
theorem Ei(V:LibV)(pp p:Nat)(m:cO)(t:bP)(w:bP)(n:w≠[108,111,97,100])(q:w≠[99,104,101,99,107])(r:w≠[118,97,108,117,101])(s:w≠[105,116,101,109,115])(u:w≠[114,101,112,111,114,116])(x:w≠[112,114,105,110,116])(y:w≠[99,111,117,110,116]):Fn 71 [.pointer (some ⟨pp,0,none⟩),du w] (ay (bN pp p m t)) (V.heap++bN pp p m t) (vy pp p (x7 m.sta t λ o=>o=eH)):=by
 generalize hM:ay _=M
 refine aT Tryz.func71 λ w0=>?_;refine ao ?_;refine aP (aH 5 rfl) λ ⟨_,_,a,d⟩=>?_;obtain⟨g,a⟩:=bo a d;refine aP (aH 6 rfl) λ ⟨_,_,b,e⟩=>?_;obtain⟨i,b⟩:=bo b e;refine aP (aH 7 rfl) λ ⟨_,_,c,f⟩=>?_;obtain⟨j,c⟩:=bo c f;have k:m.At g i j:=⟨fH a,dN b,dN c⟩;refine Az ?_;refine lF 59 [112,114,105,110,116] ?_;refine fD ?_;refine lF 73 [99,111,117,110,116] ?_;refine bu rfl<|cA ?_;refine pA ?_;rintro v H' ⟨l,c2,rfl,rfl⟩;refine aN ?_;exact aL [0,4,5,6,7,8] ⟨_,rfl,eH,m,t,l,c2,gY,rfl,rfl⟩
open Lib
theorem ru:∀ {l:LU_} {i:Nat},l[i]?=some 124->(∀ k,k<i->l[k]?≠some 124)->l.dropWhile (λ b=>decide (b≠124))=l.drop i
 |[],i,h,_=>by simp at h
 |b::l,0,h,_=>by
  simp only[Oe,Na] at h;subst h;rw[PP,if_neg ab];rfl
 |b::l,i+1,h,hk=>by
  have hb:b≠124:=λ e=>hk 0 aa (by rw[e];rfl);rw[PP,if_pos (by simpa using hb)];exact ru (by simpa using h) λ k hk'=>by have:=hk (k+1) aa;simpa using this
theorem BX(l:LU_):(Lib.cut l [124]).2.1=(l.dropWhile (λ b=>decide (b≠124))).drop 1:=by
 unfold Lib.cut;rw[index_one];have hge:=indexByte_ge l 124;by_cases h:0<=indexByte l 124
 ·rw[if_pos h];obtain⟨i,hi⟩:∃ i:Nat,indexByte l 124=i:=⟨(indexByte l 124).toNat,aa⟩;obtain⟨h1,h2⟩:=indexByte_some hi;rw[ru h1 h2,List.drop_drop,hi];simp
 ·rw[if_neg h];have h2:=indexByte_none (show indexByte l 124=-1 by omega)
  have:l.dropWhile (λ b=>decide (b≠124))=[]:=by
   have key:∀ m:LU_,(∀ x∈m,x≠124)->m.dropWhile (λ b=>decide (b≠124))=[]:=λ m=>by
    induction m with
    |nil=>intro _;rfl
    |cons b m ih=>intro hm;rw[PP,if_pos (by simpa using hm b ai)];exact ih λ x hx=>hm x (by simp[hx])
   refine key l λ x hx e=>?_;obtain⟨j,hj⟩:=Oo.1 hx;exact h2 j (by rw[hj,e])
  rw[this];rfl
theorem Lf{X:Cx}{ops:List Oper}{l:LN_}{k0:Nat}{rest:List (Nat×Bool)}{Sf:Heap}{K:Env->Heap->Prop}{E:Env}{H:Heap}(t:Nat){v v':Value}(hv:ii E t=some v)(e:v=v')(h:JE X ops l k0 rest Sf K ((t,v')::E) H):JE X ops l k0 rest Sf K E H:=λ a w hA hH=>h a w (hA.set hv e) hH
theorem EB(V:LibV)(l p:LU_)(hl:l.length<4294967281):Fn 64 [du l,du p] [] V.heap λ v H'=>v=.tuple #[du (Lib.cut l p).1,du (Lib.cut l p).2.1,.bool (Lib.cut l p).2.2]/\H'=[]:=by
 refine Fn.of_below λ w hw=>?_;have hm:=V.cellM (hw.holds (.tab _ V.oM) I4);exact (Any.strings_Cut Tryz.lays145 ⟨l.toArray⟩ ⟨p.toArray⟩ V.m w (by rw[da];exact hl) hm).mono λ e w' ⟨he,n,hw'⟩=>⟨_,he,hw'▸⟨rfl,rfl,rfl,Np _,λ _ _=>rfl⟩,rfl,rfl⟩
def lf(bb ob:Nat)(w:bP)(T:Ws)(V:LibV):Heap:=[.seg bb ob (cj (w::T))]++V.heap
theorem yT(V:LibV)(pp p:Nat)(m:cO)(t line:bP)(ht:t.length<=9999999)(hline:line.length<=3000)(T:Ws)(hwe:∀ x∈T,x.length<=10000000)(hTl:T.length<=3000)(cb bb ob:Nat)(hnc:T.length+1<=cb):
 Fn 36 [.pointer (some ⟨pp,0,none⟩),du line,.slice (some ⟨bb,ob,none⟩) (T.length+1) cb] (ay (bN pp p m t)) (lf bb ob [124] T V++bN pp p m t) (vy pp p λ o q' t'=>q'=m.sta/\t'=t++(oo line++[10])/\o=[]):=by
 have hrl:=ya line
 generalize hM:ay _=M
 refine aT Tryz.func36 λ w0=>?_;refine we ?_
 refine bj [] (fM V T (λ y hy=>hwe y hy) aa (fT (aJ bb ob) cb 1 1) T.length (cb-1) bb (ob+1) (λ hne=>by
  have:=NP.2 hne;rw[e8 (b:=bb) (o:=ob) (n:=T.length+1) aE aa aa]) rfl) rfl rfl rfl rfl aW ⟨⟨0,_,by simp[LibV.heap],rfl,dI (bn bb ob (cj ([124]::T))) 1,.inr rfl⟩,⟨1,by simp[LibV.heap],rfl⟩,⟨2,by simp[LibV.heap],rfl⟩,⟨3,by simp[LibV.heap],rfl⟩,be⟩ aE ?_
 rintro v H' ⟨An,cn,rfl,rfl⟩;refine wM ?_;refine aG (v:=du [124]) (a7 (i:=0) 1 rfl rfl rfl) ?_;refine ik ?_;refine ao ?_;refine sY 31 [124] ?_;refine dy ?_;refine gD ?_;refine cH (EB V line [124] aa) rfl ⟨⟨2,by simp[lf,LibV.heap],rfl⟩,⟨3,by simp[lf,LibV.heap],rfl⟩,⟨4,by simp[lf,LibV.heap],rfl⟩,be⟩ ?_;refine iH ?_;refine fW 14 [0,1,2,3,4,5,6,7,8,9,10,11,12] 13 [] aW ?_
 (repeat' (first|refine jr (gs:=[999]) rfl rfl ?_|refine cV [999] (v:=du t) rfl rfl (ad 5 rfl) rfl ?_))
 have hcs:=BX line
 generalize (Lib.cut line [124]).2.1=r at hcs ⊢
 have hrr:r.drop (min 1 r.length)=oo line:=by
  unfold oo;rw[<- hcs]
  cases r with
  |nil=>rfl
  |cons b r=>rfl
 refine Lf 46 (v':=af ((min 1 r.length:Nat):Int)) rfl (M8 (Value.int .i64) (by rw[da];split<;>omega))<|cV [] (v:=du (r.drop (min 1 r.length))) rfl rfl (Hb rfl rfl rfl rfl (Nat.min_le_right _ _)) rfl<|?_;rw[hrr];refine cV [] rfl rfl (iv (l:=oo line) (m:=[10]) rfl rfl rfl eS) rfl<|cV [] rfl rfl (iv (l:=t) (m:=oo line++[10]) rfl rfl rfl eS) rfl<|?_
 (repeat' (refine jr (gs:=[999]) rfl rfl ?_))
 refine im rfl<|dz 5 ?_;refine bZ []<|cP<|dw ?_;exact b6 9 1<|aL [0,6,7,8,9,10] ⟨_,rfl,[],m,t++(oo line++[10]),none,0,gY,rfl,rfl⟩
theorem EI(V:LibV)(pp p:Nat)(m:cO)(t line:bP)(T:Ws)(hwe:∀ x∈T,x.length<=10000000)(hTl:T.length<=3000)(cb bb ob:Nat)(hnc:T.length+1<=cb):
 Fn 36 [.pointer (some ⟨pp,0,none⟩),du line,.slice (some ⟨bb,ob,none⟩) (T.length+1) cb] (ay (bN pp p m t)) (lf bb ob [102,108,111,119] T V++bN pp p m t) (vy pp p λ o q' t'=>t'=t/\(if (aS T).2=0 then j8 m.sta (aS T).1 o q' else q'=m.sta/\o=eH)):=by
 have hnl:=o5 T
 generalize hM:ay _=M
 refine aT Tryz.func36 λ w0=>?_;refine we ?_
 refine bj [] (fM V T (λ y hy=>hwe y hy) aa (fT (aJ bb ob) cb 1 1) T.length (cb-1) bb (ob+1) (λ hne=>by
  have:=NP.2 hne;rw[e8 (b:=bb) (o:=ob) (n:=T.length+1) aE aa aa]) rfl) rfl rfl rfl rfl aW ⟨⟨0,_,by simp[LibV.heap],rfl,dI (bn bb ob (cj ([102,108,111,119]::T))) 1,.inr rfl⟩,⟨1,by simp[LibV.heap],rfl⟩,⟨2,by simp[LibV.heap],rfl⟩,⟨3,by simp[LibV.heap],rfl⟩,be⟩ aE ?_
 rintro v H' ⟨An,cn,rfl,rfl⟩;refine wM ?_;refine aG (v:=du [102,108,111,119]) (a7 (i:=0) 1 rfl rfl rfl) ?_;refine ik ?_;refine ao ?_;refine lF 31 [124] ?_;refine fD ?_;refine sY 52 [102,108,111,119] ?_;refine dy ?_
 cases hok:sS T with
 |false=>
  refine ao ?_;refine bu rfl (ag ?_);refine cA ?_;refine pA ?_;rintro v H' ⟨A2,c2,rfl,rfl⟩;refine aN ?_;refine aL [0,6,7,8,9,10] ⟨_,rfl,eH,m,t,A2,c2,?_,rfl,rfl⟩;exact⟨rfl,by rw[if_neg (vc hok)];exact gY⟩
 |true=>
  refine ao ?_;refine dy ?_;refine aP (aH 0 rfl) λ ⟨_,_,hA1,hl1⟩=>?_;obtain⟨gn,hA1⟩:=bo hA1 hl1;refine aI ?_;refine bh (v:=ap p 0) 5 ?_;refine az ?_;refine bJ (fst:=[]) (cap:=[]) [] (IN p m (aS T).1 aa An _ cn gn 0 (dN hA1) rfl) rfl rfl rfl rfl aW (K:=[.own (.slice An (aS T).1.length cn) 2 1 (aS T).1.length (aj (aS T).1)]++(V.heap++[blk pp 80 [ap p 0,du t]])) (aw.picks [6,7,8,9,0,2,3,4,5] ab rfl) ⟨gy 0 rfl hA1,be⟩ aE ?_;rintro v H' ⟨m',e,rfl,rfl,hr,he⟩;refine dE ?_;refine dp λ g=>?_;refine ji ?_;refine zl ?_;rintro v H' (⟨h0,rfl,rfl⟩|⟨h0,A2,c2,rfl,rfl⟩)
  ·refine ef ?_;have hto:cL e nn=nn:=by unfold cL;rw[if_neg (fun h=>h h0)]
   rw[hto] at hr;exact aL [0,9,1,2,3,4] ⟨_,rfl,nn,m',t,aJ g 0,1,⟨rfl,by rw[if_pos (gR hok)];exact hr⟩,rfl,rfl⟩
  ·refine ef ?_;have hto:cL e nn=j0 e:=by unfold cL;rw[if_pos h0]
   rw[hto] at hr;exact aL [0,10,2,3,4,5] ⟨_,rfl,j0 e,m',t,A2,c2,⟨rfl,by rw[if_pos (gR hok)];exact hr⟩,rfl,rfl⟩
theorem Hf(V:LibV)(pp p:Nat)(m:cO)(t line:bP)(T:Ws)(hwe:∀ x∈T,x.length<=10000000)(hTl:T.length<=3000)(cb bb ob:Nat)(hnc:T.length+1<=cb):
 Fn 36 [.pointer (some ⟨pp,0,none⟩),du line,.slice (some ⟨bb,ob,none⟩) (T.length+1) cb] (ay (bN pp p m t)) (lf bb ob [99,117,116] T V++bN pp p m t) (vy pp p λ o q' t'=>t'=t/\(if (aS T).2=0 then kB m.sta (aS T).1 o q' else q'=m.sta/\o=eH)):=by
 have hnl:=o5 T
 generalize hM:ay _=M
 refine aT Tryz.func36 λ w0=>?_;refine we ?_
 refine bj [] (fM V T (λ y hy=>hwe y hy) aa (fT (aJ bb ob) cb 1 1) T.length (cb-1) bb (ob+1) (λ hne=>by
  have:=NP.2 hne;rw[e8 (b:=bb) (o:=ob) (n:=T.length+1) aE aa aa]) rfl) rfl rfl rfl rfl aW ⟨⟨0,_,by simp[LibV.heap],rfl,dI (bn bb ob (cj ([99,117,116]::T))) 1,.inr rfl⟩,⟨1,by simp[LibV.heap],rfl⟩,⟨2,by simp[LibV.heap],rfl⟩,⟨3,by simp[LibV.heap],rfl⟩,be⟩ aE ?_
 rintro v H' ⟨An,cn,rfl,rfl⟩;refine wM ?_;refine aG (v:=du [99,117,116]) (a7 (i:=0) 1 rfl rfl rfl) ?_;refine ik ?_;refine ao ?_;refine lF 31 [124] ?_;refine fD ?_;refine lF 52 [102,108,111,119] ?_;refine fD ?_;refine sY 63 [99,117,116] ?_;refine dy ?_
 cases hok:sS T with
 |false=>
  refine ao ?_;refine bu rfl (ag ?_);refine cA ?_;refine pA ?_;rintro v H' ⟨A2,c2,rfl,rfl⟩;refine aN ?_;refine aL [0,6,7,8,9,10] ⟨_,rfl,eH,m,t,A2,c2,?_,rfl,rfl⟩;exact⟨rfl,by rw[if_neg (vc hok)];exact gY⟩
 |true=>
  refine ao ?_;refine dy ?_;refine aP (aH 0 rfl) λ ⟨_,_,hA1,hl1⟩=>?_;obtain⟨gn,hA1⟩:=bo hA1 hl1;refine cA ?_;refine lz (Sf:=[blk pp 80 [ap p 0,du t]])<|jY [0,1,2,3,4] bC [5] ab rfl<|m8 ?_;refine aF [999] (v:=ap p 0) rfl (ad 0 rfl) rfl<|m8 ?_;refine cP ?_;have TI:=Hh (aS T).1 aa An _ cn gn 0 (dN hA1) rfl;refine av 5 [7] bC ab ⟨⟨_,rfl,?_⟩,⟨_,rfl,?_⟩,be⟩
  ·refine dB TI rfl ⟨gy 0 rfl hA1,trivial⟩ ?_;rintro v H' ⟨gi,rfl,rfl⟩;refine⟨rfl,ah ⟨⟨[6],by decide,rfl⟩,?_⟩⟩;refine av 6 [7] bC ab ⟨⟨_,rfl,?_⟩,⟨_,rfl,?_⟩,trivial⟩
   ·refine bJ (fst:=[]) (cap:=[]) [] (xp p m (aS T).1 aa (aJ gi 0) _ _ gi 0 aE rfl) rfl rfl rfl rfl aW (K:=[.own (ax gi 0 (aS T).1.length (aS T).1.length) 3 1 (aS T).1.length (aj (aS T).1)]++(V.heap++[blk pp 80 [ap p 0,du t]])) (aw.picks [7,8,9,10,0,3,4,5,6] ab rfl) ⟨gC 0 rfl b8 (.inr rfl),trivial⟩ aE ?_;rintro v H' ⟨m',e,rfl,rfl,hr,he⟩;refine dE ?_;refine ah ⟨⟨[8],by decide,rfl⟩,?_⟩;refine av 7 [] bC ab ⟨⟨_,rfl,?_⟩,trivial⟩;refine dp fun g=>?_;refine lH 1 1 (by rfl) (by decide) (ah ⟨⟨[9],by decide,rfl⟩,?_⟩);refine av 8 [] bC ab ⟨⟨_,rfl,?_⟩,trivial⟩;refine zl ?_;rintro v H' (⟨h0,rfl,rfl⟩|⟨h0,A2,c2,rfl,rfl⟩)
    ·refine⟨rfl,ah ⟨⟨[9],by decide,rfl⟩,?_⟩⟩;refine av 9 [] bC ab ⟨⟨_,rfl,?_⟩,trivial⟩;refine c8 [] rfl ⟨⟨[9],ab,rfl⟩,fb bC ?_⟩;have hto:cL e nn=nn:=by unfold cL;rw[if_neg (fun h=>h h0)]
     rw[hto] at hr;exact aL [0,9,1,2,3,4] ⟨_,rfl,nn,m',t,aJ g 0,1,⟨rfl,by rw[if_pos (gR hok)];exact hr⟩,rfl,rfl⟩
    ·refine⟨rfl,ah ⟨⟨[10],by decide,rfl⟩,?_⟩⟩;refine av 9 [] bC ab ⟨⟨_,rfl,?_⟩,trivial⟩;refine c8 [] rfl ⟨⟨[10],ab,rfl⟩,fb bC ?_⟩;have hto:cL e nn=j0 e:=by unfold cL;rw[if_pos h0]
     rw[hto] at hr;exact aL [0,10,2,3,4,5] ⟨_,rfl,j0 e,m',t,A2,c2,⟨rfl,by rw[if_pos (gR hok)];exact hr⟩,rfl,rfl⟩
   ·refine dp fun g=>?_;refine lH 1 1 (by rfl) (by decide) (ah ⟨⟨[7],by decide,rfl⟩,?_⟩);refine av 6 [] bC ab ⟨⟨_,rfl,?_⟩,trivial⟩;refine bJ (fst:=[]) (cap:=[]) [] (xp p m (aS T).1 aa (aJ gi 0) _ _ gi 0 aE rfl) rfl rfl rfl rfl aW (K:=[.own (ax gi 0 (aS T).1.length (aS T).1.length) 3 1 (aS T).1.length (aj (aS T).1),.own (ax g 0 1 1) 9 1 1 (cj nn)]++(V.heap++[blk pp 80 [ap p 0,du t]])) (aw.picks [8,9,10,11,1,0,4,5,6,7] ab rfl) ⟨gC 0 rfl b8 (.inr rfl),trivial⟩ aE ?_;rintro v H' ⟨m',e,rfl,rfl,hr,he⟩;refine dE ?_;refine ah ⟨⟨[9],by decide,rfl⟩,?_⟩;refine av 8 [] bC ab ⟨⟨_,rfl,?_⟩,trivial⟩;refine zl ?_;rintro v H' (⟨h0,rfl,rfl⟩|⟨h0,A2,c2,rfl,rfl⟩)
    ·refine⟨rfl,ah ⟨⟨[9],by decide,rfl⟩,?_⟩⟩;refine av 9 [] bC ab ⟨⟨_,rfl,?_⟩,trivial⟩;refine c8 [] rfl ⟨⟨[9],ab,rfl⟩,fb bC ?_⟩;have hto:cL e nn=nn:=by unfold cL;rw[if_neg (fun h=>h h0)]
     rw[hto] at hr;exact aL [5,9,0,1,2,3] ⟨_,rfl,nn,m',t,aJ g 0,1,⟨rfl,by rw[if_pos (gR hok)];exact hr⟩,rfl,rfl⟩
    ·refine⟨rfl,ah ⟨⟨[10],by decide,rfl⟩,?_⟩⟩;refine av 9 [] bC ab ⟨⟨_,rfl,?_⟩,trivial⟩;refine c8 [] rfl ⟨⟨[10],ab,rfl⟩,fb bC ?_⟩;have hto:cL e nn=j0 e:=by unfold cL;rw[if_pos h0]
     rw[hto] at hr;exact aL [0,10,1,2,3,4] ⟨_,rfl,j0 e,m',t,A2,c2,⟨rfl,by rw[if_pos (gR hok)];exact hr⟩,rfl,rfl⟩
  ·refine dp fun g=>?_;refine lH 1 1 (by rfl) (by decide) (ah ⟨⟨[6],by decide,rfl⟩,?_⟩);refine av 5 [] bC ab ⟨⟨_,rfl,?_⟩,trivial⟩;refine dB TI rfl ⟨gy 1 rfl hA1,trivial⟩ ?_;rintro v H' ⟨gi,rfl,rfl⟩;refine⟨rfl,ah ⟨⟨[7],by decide,rfl⟩,?_⟩⟩;refine av 6 [] bC ab ⟨⟨_,rfl,?_⟩,trivial⟩;refine bJ (fst:=[]) (cap:=[]) [] (xp p m (aS T).1 aa (aJ gi 0) _ _ gi 0 aE rfl) rfl rfl rfl rfl aW (K:=[.own (ax gi 0 (aS T).1.length (aS T).1.length) 3 1 (aS T).1.length (aj (aS T).1),.own (ax g 0 1 1) 9 1 1 (cj nn)]++(V.heap++[blk pp 80 [ap p 0,du t]])) (aw.picks [8,9,10,11,0,1,4,5,6,7] ab rfl) ⟨gC 0 rfl b8 (.inr rfl),trivial⟩ aE ?_;rintro v H' ⟨m',e,rfl,rfl,hr,he⟩;refine dE ?_;refine ah ⟨⟨[9],by decide,rfl⟩,?_⟩;refine av 8 [] bC ab ⟨⟨_,rfl,?_⟩,trivial⟩;refine zl ?_;rintro v H' (⟨h0,rfl,rfl⟩|⟨h0,A2,c2,rfl,rfl⟩)
   ·refine⟨rfl,ah ⟨⟨[9],by decide,rfl⟩,?_⟩⟩;refine av 9 [] bC ab ⟨⟨_,rfl,?_⟩,trivial⟩;refine c8 [] rfl ⟨⟨[9],ab,rfl⟩,fb bC ?_⟩;have hto:cL e nn=nn:=by unfold cL;rw[if_neg (fun h=>h h0)]
    rw[hto] at hr;exact aL [5,9,0,1,2,3] ⟨_,rfl,nn,m',t,aJ g 0,1,⟨rfl,by rw[if_pos (gR hok)];exact hr⟩,rfl,rfl⟩
   ·refine⟨rfl,ah ⟨⟨[10],by decide,rfl⟩,?_⟩⟩;refine av 9 [] bC ab ⟨⟨_,rfl,?_⟩,trivial⟩;refine c8 [] rfl ⟨⟨[10],ab,rfl⟩,fb bC ?_⟩;have hto:cL e nn=j0 e:=by unfold cL;rw[if_pos h0]
    rw[hto] at hr;exact aL [0,10,1,2,3,4] ⟨_,rfl,j0 e,m',t,A2,c2,⟨rfl,by rw[if_pos (gR hok)];exact hr⟩,rfl,rfl⟩
open Lib
theorem vh(V:LibV)(pp p:Nat)(m:cO)(hm:m.sta.OK)(t line:bP)(T:Ws)(w:∀ x∈T,x.length<=10000000)(P:T.length<=3000)(cb bb ob:Nat)(Q:T.length+1<=cb):
 Fn 36 [.pointer (some ⟨pp,0,none⟩),du line,.slice (some ⟨bb,ob,none⟩) (T.length+1) cb] (ay (bN pp p m t)) (lf bb ob [115,111,108,118,101] T V++bN pp p m t) (vy pp p λ o E R=>R=t/\(if T.length=1/\(T.getD 0 []).length=1 then ga m.sta (((T.getD 0 []).getD 0 0).toNat:Int) o E else E=m.sta/\o=eH)):=by
 generalize hM:ay _=M
 refine aT Tryz.func36 λ w0=>?_;refine we ?_
 refine bj [] (fM V T (λ y S=>w y S) aa (fT (aJ bb ob) cb 1 1) T.length (cb-1) bb (ob+1) (λ A=>by
  have:=NP.2 A;rw[e8 (b:=bb) (o:=ob) (n:=T.length+1) aE aa aa]) rfl) rfl rfl rfl rfl aW ⟨⟨0,_,by simp[LibV.heap],rfl,dI (bn bb ob (cj ([115,111,108,118,101]::T))) 1,.inr rfl⟩,⟨1,by simp[LibV.heap],rfl⟩,⟨2,by simp[LibV.heap],rfl⟩,⟨3,by simp[LibV.heap],rfl⟩,be⟩ aE ?_
 rintro v H' ⟨An,cn,rfl,rfl⟩;refine wM ?_;refine aG (v:=du [115,111,108,118,101]) (a7 (i:=0) 1 rfl rfl rfl) ?_;refine Im ?_;refine sY 75 [115,111,108,118,101] ?_;refine pZ ?_;by_cases F:T.length=1
 case neg=>
  refine dD 80 rfl aa<|dY ?_;refine ah<|bu rfl (ag ?_);refine cA ?_;refine pA ?_;rintro v H' ⟨k,c2,rfl,rfl⟩;refine aN ?_;refine aL [0,6,7,8,9,10] ⟨_,rfl,eH,m,t,k,c2,?_,rfl,rfl⟩;exact⟨rfl,by rw[if_neg (λ h=>F h.1)];exact gY⟩
 obtain⟨c,rfl⟩:∃ c,T=[c]:=by
  match T,F with
  |[c],_=>exact⟨c,rfl⟩
 refine d7 80 rfl ai<|dY ?_;refine ae [3] (v:=ap bb (ob+1)) (hU (m:=1) rfl ai) rfl<|ae [3] (v:=du c) (a7 (i:=1) 1 rfl rfl rfl) rfl<|dY ?_;by_cases H:c.length=1
 case neg=>
  refine dD 86 rfl (by rw[da];omega)<|ah<|bu rfl (ag ?_);refine cA ?_;refine pA ?_;rintro v H' ⟨k,c2,rfl,rfl⟩;refine aN ?_;refine aL [0,6,7,8,9,10] ⟨_,rfl,eH,m,t,k,c2,?_,rfl,rfl⟩;exact⟨rfl,by rw[if_neg (λ h=>H h.2)];exact gY⟩
 obtain⟨x,rfl⟩:∃ x,c=[x]:=by
  match c,H with
  |[x],_=>exact⟨x,rfl⟩
 refine d7 86 rfl (by rw[da];rfl)<|ah<|dy ?_
 refine iB (σ:={ q:cO×Int×Int//ga m.sta (x.toNat:Int) (cL q.2.2 [gG jK [q.2.1]]) q.1.sta/\e9 q.2.2/\b9 q.2.1 }) (λ q=>[(12,af q.1.2.1),(13,af q.1.2.2)])
  (λ q=>dq p q.1.1++(V.heap++[blk pp 80 [ap p 0,du t]])) ?_ ?_
 ·refine cA ?_;refine bK 14 (dS [0,1,2,3,4,5,6,7]++[(8,false)]++dS [9,10,11,12,13]) [1,5] aW ab rfl<|a6 ?_;refine bc (v:=ap p 0) rfl (ad 1 rfl) ?_;refine a6 ?_;refine bc (v:=ap bb (ob+1)) rfl (hU (m:=1) rfl ai) ?_;refine bc (v:=du [x]) rfl (a7 (i:=1) 0 rfl rfl rfl) ?_;refine bc (v:=.int .u8 (x.toNat:Int)) rfl (xe (i:=0) rfl rfl rfl rfl rfl) ?_;refine cz ?_;have I:b9 0:=by unfold b9;omega
  cases j:m.a with
  |false=>
   refine dB (fst:=[]) (cap:=[]) (Ea m j p (x.toNat:Int)) rfl ⟨en 6 rfl,be⟩ ?_;refine jH ?_;refine⟨rfl,bZ [1,5] ?_⟩;refine a6 ?_;refine cP (ah ⟨⟨(m,0,9),?_,aM 9 ab rfl,I⟩,a8,aw.picks [6,7,8,9,2,3,4,5] ab rfl⟩);have hl:m.sta.lack []=9:=KO j [];unfold ga cL;rw[hl,if_pos ab,if_pos (show (9:Int)≠0 by decide)];exact gY
  |true=>
   have B:m.N.Right:=hm.net j;have hl:m.sta.lack []=0:=vi j;by_cases r:(x.toNat:Int)=112\/(x.toNat:Int)=116\/(x.toNat:Int)=115
   ·refine bJ (fst:=[]) (cap:=[]) [] (Hp p m j B (x.toNat:Int) r) rfl rfl rfl rfl aW (K:=[.seg bb ob (cj [[115,111,108,118,101],[x]])]++(V.heap++[blk pp 80 [ap p 0,du t]])) (aw.picks [6,7,8,9,1,2,3,4,5] ab rfl) be aE ?_;rintro v H' ⟨f,s,Af,cf,As,cs,L,U,rfl,rfl⟩;have C:=dl B (L.max B).1.toRanged m.N.snk;refine⟨rfl,bZ [4,8] ?_⟩;refine a6 ?_;refine cP (ah ⟨⟨(m.both f s Af cf As cs,dJ (m.N.arcs.zip f) m.N.snk,0),?_,aM 0 ab rfl,by unfold b9;simp only;omega⟩,a8,aw.picks [0,1,2,3,5,6,7,8] ab rfl⟩);unfold ga cL;rw[hl,if_neg ab,if_pos r,if_neg (show ¬ (0:Int)≠0 by decide)];exact⟨f,s,L,U,rfl,rfl⟩
   ·refine dB (fst:=[]) (cap:=[]) (Ft m j p (x.toNat:Int) r) rfl ⟨en 6 rfl,be⟩ ?_;refine jH ?_;refine⟨rfl,bZ [1,5] ?_⟩;refine a6 ?_;refine cP (ah ⟨⟨(m,0,1),?_,aM 1 ab rfl,I⟩,a8,aw.picks [6,7,8,9,2,3,4,5] ab rfl⟩);unfold ga cL;rw[hl,if_neg ab,if_neg r,if_pos (show (1:Int)≠0 by decide)];exact gY
 rintro⟨⟨O,v,e⟩,l,he,C⟩;simp only at l he C ⊢;refine aI ?_;refine dp λ g0=>?_;refine cH (fq V jK ab [v] (λ z X=>by rw[Nh.1 X];exact C) ai (aJ g0 0) 1 1 g0 0 aE rfl) rfl ⟨en 0 rfl,⟨5,by simp[dq],rfl⟩,⟨6,by simp[dq],rfl⟩,⟨7,by simp[dq],rfl⟩,be⟩ ?_;refine dp λ g=>?_;refine ji ?_;refine zl ?_;rintro u H' (⟨D,rfl,rfl⟩|⟨D,k,c2,rfl,rfl⟩)
 ·refine ef ?_;have d:cL e [gG jK [v]]=[gG jK [v]]:=by unfold cL;rw[if_neg (fun h=>h D)]
  rw[d] at l;refine aL [0,9,2,3,4,5] ⟨_,rfl,[gG jK [v]],O,t,aJ g 0,1,⟨rfl,?_⟩,rfl,rfl⟩;rw[if_pos ⟨rfl,rfl⟩];exact l
 ·refine ef ?_;have d:cL e [gG jK [v]]=j0 e:=by unfold cL;rw[if_pos D]
  rw[d] at l;refine aL [0,10,3,4,5,6] ⟨_,rfl,j0 e,O,t,k,c2,⟨rfl,?_⟩,rfl,rfl⟩;rw[if_pos ⟨rfl,rfl⟩];exact l
end Go.Proofs.YtmcnpaelaieniaaGreatDoor
