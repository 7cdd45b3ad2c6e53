import Derived.Test.YtmcnpaelaieniaaGreatDoorQX139
import Derived.Lib.CutLaws
/- A part of the proof. -/
set_option linter.unusedVariables false
set_option linter.unusedSimpArgs false
set_option maxHeartbeats 8000000
namespace Go.Proofs.YtmcnpaelaieniaaGreatDoor
open Go.RowKit
open Lib
def x6(q:du)(t:cP)(P:List cP->Prop)(o:List cP)(q':du)(t':cP):Prop:=q'=q/\t'=t/\P o
theorem vN(V:LibV)(pp p:Nat)(m:cO)(t:cP)(b:t.length<=9999999):Fn 71 [.pointer (some ⟨pp,0,none⟩),dk [108,111,97,100]] (aC (bO pp p m t)) (V.heap++bO pp p m t) (vx pp p (fU m.sta t [108,111,97,100])):=by
 have a:=HS V pp p m t b
 generalize hM:aC _=M at a ⊢
 refine aT Tryz.func71 λ w0=>?_;refine mG ?_;refine ao ?_;refine tm 12 [108,111,97,100] ?_;refine nJ ?_;subst hM;refine bK (fst:=[]) (cap:=[]) [] a rfl rfl rfl rfl aX (K:=V.heap) (ay.picks [3,4,5,6,7,0,1,2] ab rfl) ⟨⟨0,ai,rfl⟩,⟨1,ai,rfl⟩,⟨2,ai,rfl⟩,an⟩ aK ?_;rintro v H' ⟨o,d,e,A,c,h,rfl,rfl⟩;refine ec ?_;exact aM [0,1,2,3,4,5] ⟨_,rfl,o,d,e,A,c,h,rfl,rfl⟩
theorem wL(V:LibV)(pp p:Nat)(m:cO)(hm:m.sta.OK)(t:cP):Fn 71 [.pointer (some ⟨pp,0,none⟩),dk [99,104,101,99,107]] (aC (bO pp p m t)) (V.heap++bO pp p m t) (vx pp p (x6 m.sta t λ o=>o=cG m.sta.checkZ nj)):=by
 generalize hM:aC _=M
 refine aT Tryz.func71 λ w0=>?_;refine ao ?_;refine aR (aH 5 rfl) λ ⟨_,_,a,d⟩=>?_;obtain⟨k,a⟩:=bg a d;refine aR (aH 6 rfl) λ ⟨_,_,b,e⟩=>?_;obtain⟨l,b⟩:=bg b e;refine aR (aH 7 rfl) λ ⟨_,_,c,f⟩=>?_;obtain⟨n,c⟩:=bg c f;have i:m.At k l n:=⟨e7 a,dx b,dx c⟩;refine jN ?_;refine ao ?_;refine lF 12 [108,111,97,100] ?_;refine fL ?_;refine tm 16 [99,104,101,99,107] ?_;refine dr ?_;refine wZ ?_;refine cj (C8 m hm.ses p k l n i) rfl ⟨⟨4,_,by simp[bO,dq],rfl,aS _ _ _ (0,0),.inr rfl⟩,⟨5,_,by simp[bO,dq],rfl,bC a,bW a⟩,⟨6,_,by simp[bO,dq],rfl,bC b,bW b⟩,⟨7,_,by simp[bO,dq],rfl,bC c,bW c⟩,an⟩ ?_;refine dp λ g=>?_;refine jg ?_;refine dG (jA V (m.sta.checkZ) ((m.sta.check_code).inB) (aL g 0) 1 1) rfl ⟨⟨1,ai,rfl⟩,⟨2,ai,rfl⟩,⟨3,ai,rfl⟩,an⟩ ?_;rintro v H' (⟨j,rfl,rfl⟩|⟨j,q,c2,rfl,rfl⟩)
 ·refine ec ?_;refine aM [0,4,5,6,7,8] ⟨_,rfl,nj,m,t,aL g 0,1,⟨rfl,rfl,?_⟩,rfl,rfl⟩;unfold cG;rw[if_neg (λ h=>h j)]
 ·refine ec ?_;refine aM [0,5,6,7,8,9] ⟨_,rfl,jX m.sta.checkZ,m,t,q,c2,⟨rfl,rfl,?_⟩,rfl,rfl⟩;unfold cG;rw[if_pos j]
theorem Eb(V:LibV)(pp p:Nat)(m:cO)(hm:m.sta.OK)(t:cP):Fn 71 [.pointer (some ⟨pp,0,none⟩),dk [118,97,108,117,101]] (aC (bO pp p m t)) (V.heap++bO pp p m t) (vx pp p (x6 m.sta t λ o=>o=cG m.sta.valZ.2 [gD kz [m.sta.valZ.1]])):=by
 generalize hM:aC _=M
 refine aT Tryz.func71 λ w0=>?_;refine ao ?_;refine aR (aH 5 rfl) λ ⟨_,_,a,d⟩=>?_;obtain⟨l,a⟩:=bg a d;refine aR (aH 6 rfl) λ ⟨_,_,b,e⟩=>?_;obtain⟨n,b⟩:=bg b e;refine aR (aH 7 rfl) λ ⟨_,_,c,f⟩=>?_;obtain⟨q,c⟩:=bg c f;have i:m.At l n q:=⟨e7 a,dx b,dx c⟩;refine jN ?_;refine ao ?_;refine lF 12 [108,111,97,100] ?_;refine fL ?_;refine lF 16 [99,104,101,99,107] ?_;refine fL ?_;refine tm 25 [118,97,108,117,101] ?_;refine dr ?_;have j:=m.sta.val_in hm;refine wZ ?_;refine cj (Dc m hm p l n q i) rfl ⟨⟨4,_,by simp[bO,dq],rfl,aS _ _ _ (0,0),.inr rfl⟩,⟨5,_,by simp[bO,dq],rfl,bC a,bW a⟩,⟨6,_,by simp[bO,dq],rfl,bC b,bW b⟩,⟨7,_,by simp[bO,dq],rfl,bC c,bW c⟩,an⟩ ?_;refine dQ ?_;refine dp λ g0=>?_;refine cj (ft V kz ab [m.sta.valZ.1] (λ x r=>by rw[Ni.1 r];exact j) ai (aL g0 0) 1 1 g0 0 aK rfl) rfl ⟨ew 0 rfl,⟨1,ai,rfl⟩,⟨2,ai,rfl⟩,⟨3,ai,rfl⟩,an⟩ ?_;refine cD (ay.picks (K:=V.heap++bO pp p m t) [1,2,3,4,5,6,7,8] ab rfl)<|dp λ g=>?_;refine jg ?_;refine dG (jA V (m.sta.valZ.2) ((m.sta.val_code).inB) (aL g 0) 1 1) rfl ⟨⟨1,ai,rfl⟩,⟨2,ai,rfl⟩,⟨3,ai,rfl⟩,an⟩ ?_;rintro v H' (⟨k,rfl,rfl⟩|⟨k,s,c2,rfl,rfl⟩)
 ·refine ec ?_;refine aM [0,4,5,6,7,8] ⟨_,rfl,[gD kz [m.sta.valZ.1]],m,t,aL g 0,1,⟨rfl,rfl,?_⟩,rfl,rfl⟩;unfold cG;rw[if_neg (λ h=>h k)]
 ·refine ec ?_;refine aM [0,5,6,7,8,9] ⟨_,rfl,jX m.sta.valZ.2,m,t,s,c2,⟨rfl,rfl,?_⟩,rfl,rfl⟩;unfold cG;rw[if_pos k]
theorem vQ(V:LibV)(pp p:Nat)(m:cO)(hm:m.sta.OK)(t:cP):Fn 71 [.pointer (some ⟨pp,0,none⟩),dk [105,116,101,109,115]] (aC (bO pp p m t)) (V.heap++bO pp p m t) (vx pp p (x6 m.sta t λ o=>o=m.sta.itemsT)):=by
 generalize hM:aC _=M
 refine aT Tryz.func71 λ w0=>?_;refine ao ?_;refine aR (aH 5 rfl) λ ⟨_,_,a,d⟩=>?_;obtain⟨i,a⟩:=bg a d;refine aR (aH 6 rfl) λ ⟨_,_,b,e⟩=>?_;obtain⟨j,b⟩:=bg b e;refine aR (aH 7 rfl) λ ⟨_,_,c,f⟩=>?_;obtain⟨k,c⟩:=bg c f;have g:m.At i j k:=⟨e7 a,dx b,dx c⟩;refine F8 ?_;refine tm 41 [105,116,101,109,115] ?_;refine nJ ?_;refine eW (DT V pp p m hm t i j k g) rfl ⟨⟨3,_,by simp[bO,dq],rfl,aS _ _ _ (0,0),.inr rfl⟩,⟨4,_,by simp[bO,dq],rfl,aS _ _ _ (0,0),.inr rfl⟩,⟨5,_,by simp[bO,dq],rfl,bC a,bW a⟩,⟨6,_,by simp[bO,dq],rfl,bC b,bW b⟩,⟨7,_,by simp[bO,dq],rfl,bC c,bW c⟩,⟨0,by simp[bO,dq],rfl⟩,⟨1,by simp[bO,dq],rfl⟩,⟨2,by simp[bO,dq],rfl⟩,an⟩ ?_;rintro v H' ⟨l,c2,rfl,rfl⟩;refine aN ?_;exact aM [0,4,5,6,7,8] ⟨_,rfl,m.sta.itemsT,m,t,l,c2,ji,rfl,rfl⟩
theorem DZ(V:LibV)(pp p:Nat)(m:cO)(hm:m.sta.OK)(t:cP):Fn 71 [.pointer (some ⟨pp,0,none⟩),dk [99,111,117,110,116]] (aC (bO pp p m t)) (V.heap++bO pp p m t) (vx pp p (x6 m.sta t λ o=>m.sta.countR o)):=by
 generalize hM:aC _=M
 refine aT Tryz.func71 λ w0=>?_;refine ao ?_;refine aR (aH 5 rfl) λ ⟨_,_,a,d⟩=>?_;obtain⟨i,a⟩:=bg a d;refine aR (aH 6 rfl) λ ⟨_,_,b,e⟩=>?_;obtain⟨j,b⟩:=bg b e;refine aR (aH 7 rfl) λ ⟨_,_,c,f⟩=>?_;obtain⟨k,c⟩:=bg c f;have g:m.At i j k:=⟨e7 a,dx b,dx c⟩;refine Bm ?_;refine lF 59 [112,114,105,110,116] ?_;refine fL ?_;refine tm 73 [99,111,117,110,116] ?_;refine nJ ?_;refine eW (D9 V pp p m hm t i j k g) rfl ⟨⟨3,_,by simp[bO,dq],rfl,aS _ _ _ (0,0),.inr rfl⟩,⟨4,_,by simp[bO,dq],rfl,aS _ _ _ (0,0),.inr rfl⟩,⟨5,_,by simp[bO,dq],rfl,bC a,bW a⟩,⟨6,_,by simp[bO,dq],rfl,bC b,bW b⟩,⟨7,_,by simp[bO,dq],rfl,bC c,bW c⟩,⟨0,by simp[bO,dq],rfl⟩,⟨1,by simp[bO,dq],rfl⟩,⟨2,by simp[bO,dq],rfl⟩,an⟩ ?_;rintro v H' ⟨o,l,n,c2,rfl,rfl⟩;refine aN ?_;exact aM [0,4,5,6,7,8] ⟨_,rfl,o,m,t,n,c2,⟨rfl,rfl,l⟩,rfl,rfl⟩
theorem Df(V:LibV)(pp p:Nat)(m:cO)(hm:m.sta.OK)(t:cP):Fn 71 [.pointer (some ⟨pp,0,none⟩),dk [114,101,112,111,114,116]] (aC (bO pp p m t)) (V.heap++bO pp p m t) (vx pp p (x6 m.sta t λ o=>o=cG m.sta.repZ.2 (aB m.sta.repZ.1))):=by
 generalize hM:aC _=M
 refine aT Tryz.func71 λ w0=>?_;refine ao ?_;refine aR (aH 5 rfl) λ ⟨_,_,a,d⟩=>?_;obtain⟨j,a⟩:=bg a d;refine aR (aH 6 rfl) λ ⟨_,_,b,e⟩=>?_;obtain⟨k,b⟩:=bg b e;refine aR (aH 7 rfl) λ ⟨_,_,c,f⟩=>?_;obtain⟨l,c⟩:=bg c f;have g:m.At j k l:=⟨e7 a,dx b,dx c⟩;refine F8 ?_;refine lF 41 [105,116,101,109,115] ?_;refine fL ?_;refine tm 45 [114,101,112,111,114,116] ?_;refine dr ?_;have r:=m.sta.rep_len hm;refine wZ ?_;refine cj (AN V m hm p j k l g) rfl ⟨⟨4,_,by simp[bO,dq],rfl,aS _ _ _ (0,0),.inr rfl⟩,⟨5,_,by simp[bO,dq],rfl,bC a,bW a⟩,⟨6,_,by simp[bO,dq],rfl,bC b,bW b⟩,⟨7,_,by simp[bO,dq],rfl,bC c,bW c⟩,⟨0,by simp[bO,dq],rfl⟩,⟨1,by simp[bO,dq],rfl⟩,⟨2,by simp[bO,dq],rfl⟩,an⟩ ?_;refine dQ ?_;refine dG (kJ V m.sta.repZ.1 aa) rfl ⟨⟨0,by simp[bO,dq],rfl⟩,⟨1,by simp[bO,dq],rfl⟩,⟨2,by simp[bO,dq],rfl⟩,an⟩ ?_;rintro v H' ⟨q,n,s,rfl,rfl⟩;subst s;refine dw ?_;refine dG (jA V m.sta.repZ.2 (m.sta.rep_code).inB q _ _) rfl ⟨⟨1,ai,rfl⟩,⟨2,ai,rfl⟩,⟨3,ai,rfl⟩,an⟩ ?_;rintro v H' (⟨i,rfl,rfl⟩|⟨i,u,c2,rfl,rfl⟩)
 ·refine ec ?_;refine aM [0,4,5,6,7,8] ⟨_,rfl,aB m.sta.repZ.1,m,t,q,_,⟨rfl,rfl,?_⟩,rfl,rfl⟩;unfold cG;rw[if_neg (λ h=>h i)]
 ·refine ec ?_;refine aM [0,5,6,7,8,9] ⟨_,rfl,jX m.sta.repZ.2,m,t,u,c2,⟨rfl,rfl,?_⟩,rfl,rfl⟩;unfold cG;rw[if_pos i]
theorem Da(V:LibV)(pp p:Nat)(m:cO)(hm:m.sta.OK)(t:cP):Fn 71 [.pointer (some ⟨pp,0,none⟩),dk [112,114,105,110,116]] (aC (bO pp p m t)) (V.heap++bO pp p m t) (vx pp p (x6 m.sta t λ o=>o=cG m.sta.printZ.2 (aB m.sta.printZ.1))):=by
 generalize hM:aC _=M
 refine aT Tryz.func71 λ w0=>?_;refine ao ?_;refine aR (aH 5 rfl) λ ⟨_,_,a,d⟩=>?_;obtain⟨j,a⟩:=bg a d;refine aR (aH 6 rfl) λ ⟨_,_,b,e⟩=>?_;obtain⟨k,b⟩:=bg b e;refine aR (aH 7 rfl) λ ⟨_,_,c,f⟩=>?_;obtain⟨l,c⟩:=bg c f;have g:m.At j k l:=⟨e7 a,dx b,dx c⟩;refine Bm ?_;refine tm 59 [112,114,105,110,116] ?_;refine dr ?_;have r:=m.sta.print_len hm;refine wZ ?_;refine cj (rU V m hm p j k l g) rfl ⟨⟨4,_,by simp[bO,dq],rfl,aS _ _ _ (0,0),.inr rfl⟩,⟨5,_,by simp[bO,dq],rfl,bC a,bW a⟩,⟨6,_,by simp[bO,dq],rfl,bC b,bW b⟩,⟨7,_,by simp[bO,dq],rfl,bC c,bW c⟩,⟨0,by simp[bO,dq],rfl⟩,⟨1,by simp[bO,dq],rfl⟩,⟨2,by simp[bO,dq],rfl⟩,an⟩ ?_;refine dQ ?_;refine dG (kJ V m.sta.printZ.1 aa) rfl ⟨⟨0,by simp[bO,dq],rfl⟩,⟨1,by simp[bO,dq],rfl⟩,⟨2,by simp[bO,dq],rfl⟩,an⟩ ?_;rintro v H' ⟨q,n,s,rfl,rfl⟩;subst s;refine dw ?_;refine dG (jA V m.sta.printZ.2 (m.sta.print_code).inB q _ _) rfl ⟨⟨1,ai,rfl⟩,⟨2,ai,rfl⟩,⟨3,ai,rfl⟩,an⟩ ?_;rintro v H' (⟨i,rfl,rfl⟩|⟨i,u,c2,rfl,rfl⟩)
 ·refine ec ?_;refine aM [0,4,5,6,7,8] ⟨_,rfl,aB m.sta.printZ.1,m,t,q,_,⟨rfl,rfl,?_⟩,rfl,rfl⟩;unfold cG;rw[if_neg (λ h=>h i)]
 ·refine ec ?_;refine aM [0,5,6,7,8,9] ⟨_,rfl,jX m.sta.printZ.2,m,t,u,c2,⟨rfl,rfl,?_⟩,rfl,rfl⟩;unfold cG;rw[if_pos i]
theorem Dh(V:LibV)(pp p:Nat)(m:cO)(t:cP)(w:cP)(n:w≠[108,111,97,100])(q:w≠[99,104,101,99,107])(r:w≠[118,97,108,117,101])(s:w≠[105,116,101,109,115])(u:w≠[114,101,112,111,114,116])(x:w≠[112,114,105,110,116])(y:w≠[99,111,117,110,116]):Fn 71 [.pointer (some ⟨pp,0,none⟩),dk w] (aC (bO pp p m t)) (V.heap++bO pp p m t) (vx pp p (x6 m.sta t λ o=>o=eL)):=by
 generalize hM:aC _=M
 refine aT Tryz.func71 λ w0=>?_;refine ao ?_;refine aR (aH 5 rfl) λ ⟨_,_,a,d⟩=>?_;obtain⟨g,a⟩:=bg a d;refine aR (aH 6 rfl) λ ⟨_,_,b,e⟩=>?_;obtain⟨i,b⟩:=bg b e;refine aR (aH 7 rfl) λ ⟨_,_,c,f⟩=>?_;obtain⟨j,c⟩:=bg c f;have k:m.At g i j:=⟨e7 a,dx b,dx c⟩;refine Bm ?_;refine lF 59 [112,114,105,110,116] ?_;refine fL ?_;refine lF 73 [99,111,117,110,116] ?_;refine bo rfl<|cq ?_;refine pD ?_;rintro v H' ⟨l,c2,rfl,rfl⟩;refine aN ?_;exact aM [0,4,5,6,7,8] ⟨_,rfl,eL,m,t,l,c2,ji,rfl,rfl⟩
open Lib
theorem qI:∀ {l:LU_} {i:Nat},l[i]?=some 124->(∀ k,k<i->l[k]?≠some 124)->l.dropWhile (λ b=>decide (b≠124))=l.drop i
 |[],i,h,_=>by simp at h
 |b::l,0,h,_=>by
  simp only[Ok,Nc] at h;subst h;rw[PR,if_neg ab];rfl
 |b::l,i+1,h,hk=>by
  have hb:b≠124:=λ e=>hk 0 aa (by rw[e];rfl);rw[PR,if_pos (by simpa using hb)];exact qI (by simpa using h) λ k hk'=>by have:=hk (k+1) aa;simpa using this
theorem AP(l:LU_):(Lib.cut l [124]).2.1=(l.dropWhile (λ b=>decide (b≠124))).drop 1:=by
 unfold Lib.cut;rw[index_one];have hge:=indexByte_ge l 124;by_cases h:0<=indexByte l 124
 ·rw[if_pos h];obtain⟨i,hi⟩:∃ i:Nat,indexByte l 124=i:=⟨(indexByte l 124).toNat,aa⟩;obtain⟨h1,h2⟩:=indexByte_some hi;rw[qI h1 h2,List.drop_drop,hi];simp
 ·rw[if_neg h];have h2:=indexByte_none (show indexByte l 124=-1 by omega)
  have:l.dropWhile (λ b=>decide (b≠124))=[]:=by
   have key:∀ m:LU_,(∀ x∈m,x≠124)->m.dropWhile (λ b=>decide (b≠124))=[]:=λ m=>by
    induction m with
    |nil=>intro _;rfl
    |cons b m ih=>intro hm;rw[PR,if_pos (by simpa using hm b ai)];exact ih λ x hx=>hm x (by simp[hx])
   refine key l λ x hx e=>?_;obtain⟨j,hj⟩:=On.1 hx;exact h2 j (by rw[hj,e])
  rw[this];rfl
theorem Lb{X:Cx}{ops:List Oper}{l:LN_}{k0:Nat}{rest:List (Nat×Bool)}{Sf:Heap}{K:Env->Heap->Prop}{E:Env}{H:Heap}(t:Nat){v v':Value}(hv:ij E t=some v)(e:v=v')(h:JE X ops l k0 rest Sf K ((t,v')::E) H):JE X ops l k0 rest Sf K E H:=λ a w hA hH=>h a w (hA.set hv e) hH
theorem Di(V:LibV)(l p:LU_)(hl:l.length<4294967281):Fn 64 [dk l,dk p] [] V.heap λ v H'=>v=.tuple #[dk (Lib.cut l p).1,dk (Lib.cut l p).2.1,.bool (Lib.cut l p).2.2]/\H'=[]:=by
 refine Fn.of_below λ w hw=>?_;have hm:=V.cellM (hw.holds (.tab _ V.oM) IS);exact (Any.strings_Cut Tryz.lays145 ⟨l.toArray⟩ ⟨p.toArray⟩ V.m w (by rw[cS];exact hl) hm).mono λ e w' ⟨he,n,hw'⟩=>⟨_,he,hw'▸⟨rfl,rfl,rfl,Nr _,λ _ _=>rfl⟩,rfl,rfl⟩
def kR(bb ob:Nat)(w:cP)(T:Ws)(V:LibV):Heap:=[.seg bb ob (cv (w::T))]++V.heap
theorem yO(V:LibV)(pp p:Nat)(m:cO)(t line:cP)(ht:t.length<=9999999)(hline:line.length<=3000)(T:Ws)(hwe:∀ x∈T,x.length<=10000000)(hTl:T.length<=3000)(cb bb ob:Nat)(hnc:T.length+1<=cb):
 Fn 36 [.pointer (some ⟨pp,0,none⟩),dk line,.slice (some ⟨bb,ob,none⟩) (T.length+1) cb] (aC (bO pp p m t)) (kR bb ob [124] T V++bO pp p m t) (vx pp p λ o q' t'=>q'=m.sta/\t'=t++(nX line++[10])/\o=[]):=by
 have hrl:=zG line
 generalize hM:aC _=M
 refine aT Tryz.func36 λ w0=>?_;refine v7 ?_
 refine bA [] (fS V T (λ y hy=>hwe y hy) aa (fA (aL bb ob) cb 1 1) T.length (cb-1) bb (ob+1) (λ hne=>by
  have:=NM.2 hne;rw[eS (b:=bb) (o:=ob) (n:=T.length+1) aK aa aa]) rfl) rfl rfl rfl rfl aX ⟨⟨0,_,by simp[LibV.heap],rfl,dz (bq bb ob (cv ([124]::T))) 1,.inr rfl⟩,⟨1,by simp[LibV.heap],rfl⟩,⟨2,by simp[LibV.heap],rfl⟩,⟨3,by simp[LibV.heap],rfl⟩,an⟩ aK ?_
 rintro v H' ⟨An,cn,rfl,rfl⟩;refine wg ?_;refine aF (v:=dk [124]) (aZ (i:=0) 1 rfl rfl rfl) ?_;refine im ?_;refine ao ?_;refine tm 31 [124] ?_;refine dr ?_;refine gN ?_;refine cj (Di V line [124] aa) rfl ⟨⟨2,by simp[kR,LibV.heap],rfl⟩,⟨3,by simp[kR,LibV.heap],rfl⟩,⟨4,by simp[kR,LibV.heap],rfl⟩,an⟩ ?_;refine ii ?_;refine fZ 14 [0,1,2,3,4,5,6,7,8,9,10,11,12] 13 [] aX ?_
 (repeat' (first|refine js (gs:=[999]) rfl rfl ?_|refine cV [999] (v:=dk t) rfl rfl (ad 5 rfl) rfl ?_))
 have hcs:=AP line
 generalize (Lib.cut line [124]).2.1=r at hcs ⊢
 have hrr:r.drop (min 1 r.length)=nX line:=by
  unfold nX;rw[<- hcs]
  cases r with
  |nil=>rfl
  |cons b r=>rfl
 refine Lb 46 (v':=af ((min 1 r.length:Nat):Int)) rfl (Na (Value.int .i64) (by rw[cS];split<;>omega))<|cV [] (v:=dk (r.drop (min 1 r.length))) rfl rfl (Gi rfl rfl rfl rfl (Nat.min_le_right _ _)) rfl<|?_;rw[hrr];refine cV [] rfl rfl (iW (l:=nX line) (m:=[10]) rfl rfl rfl eK) rfl<|cV [] rfl rfl (iW (l:=t) (m:=nX line++[10]) rfl rfl rfl eK) rfl<|?_
 (repeat' (refine js (gs:=[999]) rfl rfl ?_))
 refine il rfl<|dE 5 ?_;refine b6 []<|cM<|dv ?_;exact bX 9 1<|aM [0,6,7,8,9,10] ⟨_,rfl,[],m,t++(nX line++[10]),none,0,ji,rfl,rfl⟩
theorem ED(V:LibV)(pp p:Nat)(m:cO)(t line:cP)(T:Ws)(hwe:∀ x∈T,x.length<=10000000)(hTl:T.length<=3000)(cb bb ob:Nat)(hnc:T.length+1<=cb):
 Fn 36 [.pointer (some ⟨pp,0,none⟩),dk line,.slice (some ⟨bb,ob,none⟩) (T.length+1) cb] (aC (bO pp p m t)) (kR bb ob [102,108,111,119] T V++bO pp p m t) (vx pp p λ o q' t'=>t'=t/\(if (aJ T).2=0 then nC m.sta (aJ T).1 o q' else q'=m.sta/\o=eL)):=by
 have hnl:=rD T
 generalize hM:aC _=M
 refine aT Tryz.func36 λ w0=>?_;refine v7 ?_
 refine bA [] (fS V T (λ y hy=>hwe y hy) aa (fA (aL bb ob) cb 1 1) T.length (cb-1) bb (ob+1) (λ hne=>by
  have:=NM.2 hne;rw[eS (b:=bb) (o:=ob) (n:=T.length+1) aK aa aa]) rfl) rfl rfl rfl rfl aX ⟨⟨0,_,by simp[LibV.heap],rfl,dz (bq bb ob (cv ([102,108,111,119]::T))) 1,.inr rfl⟩,⟨1,by simp[LibV.heap],rfl⟩,⟨2,by simp[LibV.heap],rfl⟩,⟨3,by simp[LibV.heap],rfl⟩,an⟩ aK ?_
 rintro v H' ⟨An,cn,rfl,rfl⟩;refine wg ?_;refine aF (v:=dk [102,108,111,119]) (aZ (i:=0) 1 rfl rfl rfl) ?_;refine im ?_;refine ao ?_;refine lF 31 [124] ?_;refine fL ?_;refine tm 52 [102,108,111,119] ?_;refine dr ?_
 cases hok:i7 T with
 |false=>
  refine ao ?_;refine bo rfl (ag ?_);refine cq ?_;refine pD ?_;rintro v H' ⟨A2,c2,rfl,rfl⟩;refine aN ?_;refine aM [0,6,7,8,9,10] ⟨_,rfl,eL,m,t,A2,c2,?_,rfl,rfl⟩;exact⟨rfl,by rw[if_neg (uj hok)];exact ji⟩
 |true=>
  refine ao ?_;refine dr ?_;refine aR (aH 0 rfl) λ ⟨_,_,hA1,hl1⟩=>?_;obtain⟨gn,hA1⟩:=bg hA1 hl1;refine aI ?_;refine bj (v:=ap p 0) 5 ?_;refine az ?_;refine bK (fst:=[]) (cap:=[]) [] (Fq p m (aJ T).1 aa An _ cn gn 0 (dx hA1) rfl) rfl rfl rfl rfl aX (K:=[.own (.slice An (aJ T).1.length cn) 2 1 (aJ T).1.length (aj (aJ T).1)]++(V.heap++[blk pp 80 [ap p 0,dk t]])) (ay.picks [6,7,8,9,0,2,3,4,5] ab rfl) ⟨ff 0 rfl hA1,an⟩ aK ?_;rintro v H' ⟨m',e,rfl,rfl,hr,he⟩;refine dw ?_;refine dp λ g=>?_;refine jg ?_;refine zc ?_;rintro v H' (⟨h0,rfl,rfl⟩|⟨h0,A2,c2,rfl,rfl⟩)
  ·refine ec ?_;have hto:cG e nj=nj:=by unfold cG;rw[if_neg (fun h=>h h0)]
   rw[hto] at hr;exact aM [0,9,1,2,3,4] ⟨_,rfl,nj,m',t,aL g 0,1,⟨rfl,by rw[if_pos (gV hok)];exact hr⟩,rfl,rfl⟩
  ·refine ec ?_;have hto:cG e nj=jX e:=by unfold cG;rw[if_pos h0]
   rw[hto] at hr;exact aM [0,10,2,3,4,5] ⟨_,rfl,jX e,m',t,A2,c2,⟨rfl,by rw[if_pos (gV hok)];exact hr⟩,rfl,rfl⟩
theorem Gk(V:LibV)(pp p:Nat)(m:cO)(t line:cP)(T:Ws)(hwe:∀ x∈T,x.length<=10000000)(hTl:T.length<=3000)(cb bb ob:Nat)(hnc:T.length+1<=cb):
 Fn 36 [.pointer (some ⟨pp,0,none⟩),dk line,.slice (some ⟨bb,ob,none⟩) (T.length+1) cb] (aC (bO pp p m t)) (kR bb ob [99,117,116] T V++bO pp p m t) (vx pp p λ o q' t'=>t'=t/\(if (aJ T).2=0 then pL m.sta (aJ T).1 o q' else q'=m.sta/\o=eL)):=by
 have hnl:=rD T
 generalize hM:aC _=M
 refine aT Tryz.func36 λ w0=>?_;refine v7 ?_
 refine bA [] (fS V T (λ y hy=>hwe y hy) aa (fA (aL bb ob) cb 1 1) T.length (cb-1) bb (ob+1) (λ hne=>by
  have:=NM.2 hne;rw[eS (b:=bb) (o:=ob) (n:=T.length+1) aK aa aa]) rfl) rfl rfl rfl rfl aX ⟨⟨0,_,by simp[LibV.heap],rfl,dz (bq bb ob (cv ([99,117,116]::T))) 1,.inr rfl⟩,⟨1,by simp[LibV.heap],rfl⟩,⟨2,by simp[LibV.heap],rfl⟩,⟨3,by simp[LibV.heap],rfl⟩,an⟩ aK ?_
 rintro v H' ⟨An,cn,rfl,rfl⟩;refine wg ?_;refine aF (v:=dk [99,117,116]) (aZ (i:=0) 1 rfl rfl rfl) ?_;refine im ?_;refine ao ?_;refine lF 31 [124] ?_;refine fL ?_;refine lF 52 [102,108,111,119] ?_;refine fL ?_;refine tm 63 [99,117,116] ?_;refine dr ?_
 cases hok:i7 T with
 |false=>
  refine ao ?_;refine bo rfl (ag ?_);refine cq ?_;refine pD ?_;rintro v H' ⟨A2,c2,rfl,rfl⟩;refine aN ?_;refine aM [0,6,7,8,9,10] ⟨_,rfl,eL,m,t,A2,c2,?_,rfl,rfl⟩;exact⟨rfl,by rw[if_neg (uj hok)];exact ji⟩
 |true=>
  refine ao ?_;refine dr ?_;refine aR (aH 0 rfl) λ ⟨_,_,hA1,hl1⟩=>?_;obtain⟨gn,hA1⟩:=bg hA1 hl1;refine cq ?_;refine ly (Sf:=[blk pp 80 [ap p 0,dk t]])<|jU [0,1,2,3,4] bG [5] ab rfl<|m8 ?_;refine aG [999] (v:=ap p 0) rfl (ad 0 rfl) rfl<|m8 ?_;refine cM ?_;have TI:=Ih (aJ T).1 aa An _ cn gn 0 (dx hA1) rfl;refine av 5 [7] bG ab ⟨⟨_,rfl,?_⟩,⟨_,rfl,?_⟩,an⟩
  ·refine dG TI rfl ⟨ff 0 rfl hA1,trivial⟩ ?_;rintro v H' ⟨gi,rfl,rfl⟩;refine⟨rfl,ah ⟨⟨[6],by decide,rfl⟩,?_⟩⟩;refine av 6 [7] bG ab ⟨⟨_,rfl,?_⟩,⟨_,rfl,?_⟩,trivial⟩
   ·refine bK (fst:=[]) (cap:=[]) [] (wP p m (aJ T).1 aa (aL gi 0) _ _ gi 0 aK rfl) rfl rfl rfl rfl aX (K:=[.own (ax gi 0 (aJ T).1.length (aJ T).1.length) 3 1 (aJ T).1.length (aj (aJ T).1)]++(V.heap++[blk pp 80 [ap p 0,dk t]])) (ay.picks [7,8,9,10,0,3,4,5,6] ab rfl) ⟨fX 0 rfl ca (.inr rfl),trivial⟩ aK ?_;rintro v H' ⟨m',e,rfl,rfl,hr,he⟩;refine dw ?_;refine ah ⟨⟨[8],by decide,rfl⟩,?_⟩;refine av 7 [] bG ab ⟨⟨_,rfl,?_⟩,trivial⟩;refine dp fun g=>?_;refine lx 1 1 (by rfl) (by decide) (ah ⟨⟨[9],by decide,rfl⟩,?_⟩);refine av 8 [] bG ab ⟨⟨_,rfl,?_⟩,trivial⟩;refine zc ?_;rintro v H' (⟨h0,rfl,rfl⟩|⟨h0,A2,c2,rfl,rfl⟩)
    ·refine⟨rfl,ah ⟨⟨[9],by decide,rfl⟩,?_⟩⟩;refine av 9 [] bG ab ⟨⟨_,rfl,?_⟩,trivial⟩;refine db [] rfl ⟨⟨[9],ab,rfl⟩,fd bG ?_⟩;have hto:cG e nj=nj:=by unfold cG;rw[if_neg (fun h=>h h0)]
     rw[hto] at hr;exact aM [0,9,1,2,3,4] ⟨_,rfl,nj,m',t,aL g 0,1,⟨rfl,by rw[if_pos (gV hok)];exact hr⟩,rfl,rfl⟩
    ·refine⟨rfl,ah ⟨⟨[10],by decide,rfl⟩,?_⟩⟩;refine av 9 [] bG ab ⟨⟨_,rfl,?_⟩,trivial⟩;refine db [] rfl ⟨⟨[10],ab,rfl⟩,fd bG ?_⟩;have hto:cG e nj=jX e:=by unfold cG;rw[if_pos h0]
     rw[hto] at hr;exact aM [0,10,2,3,4,5] ⟨_,rfl,jX e,m',t,A2,c2,⟨rfl,by rw[if_pos (gV hok)];exact hr⟩,rfl,rfl⟩
   ·refine dp fun g=>?_;refine lx 1 1 (by rfl) (by decide) (ah ⟨⟨[7],by decide,rfl⟩,?_⟩);refine av 6 [] bG ab ⟨⟨_,rfl,?_⟩,trivial⟩;refine bK (fst:=[]) (cap:=[]) [] (wP p m (aJ T).1 aa (aL gi 0) _ _ gi 0 aK rfl) rfl rfl rfl rfl aX (K:=[.own (ax gi 0 (aJ T).1.length (aJ T).1.length) 3 1 (aJ T).1.length (aj (aJ T).1),.own (ax g 0 1 1) 9 1 1 (cv nj)]++(V.heap++[blk pp 80 [ap p 0,dk t]])) (ay.picks [8,9,10,11,1,0,4,5,6,7] ab rfl) ⟨fX 0 rfl ca (.inr rfl),trivial⟩ aK ?_;rintro v H' ⟨m',e,rfl,rfl,hr,he⟩;refine dw ?_;refine ah ⟨⟨[9],by decide,rfl⟩,?_⟩;refine av 8 [] bG ab ⟨⟨_,rfl,?_⟩,trivial⟩;refine zc ?_;rintro v H' (⟨h0,rfl,rfl⟩|⟨h0,A2,c2,rfl,rfl⟩)
    ·refine⟨rfl,ah ⟨⟨[9],by decide,rfl⟩,?_⟩⟩;refine av 9 [] bG ab ⟨⟨_,rfl,?_⟩,trivial⟩;refine db [] rfl ⟨⟨[9],ab,rfl⟩,fd bG ?_⟩;have hto:cG e nj=nj:=by unfold cG;rw[if_neg (fun h=>h h0)]
     rw[hto] at hr;exact aM [5,9,0,1,2,3] ⟨_,rfl,nj,m',t,aL g 0,1,⟨rfl,by rw[if_pos (gV hok)];exact hr⟩,rfl,rfl⟩
    ·refine⟨rfl,ah ⟨⟨[10],by decide,rfl⟩,?_⟩⟩;refine av 9 [] bG ab ⟨⟨_,rfl,?_⟩,trivial⟩;refine db [] rfl ⟨⟨[10],ab,rfl⟩,fd bG ?_⟩;have hto:cG e nj=jX e:=by unfold cG;rw[if_pos h0]
     rw[hto] at hr;exact aM [0,10,1,2,3,4] ⟨_,rfl,jX e,m',t,A2,c2,⟨rfl,by rw[if_pos (gV hok)];exact hr⟩,rfl,rfl⟩
  ·refine dp fun g=>?_;refine lx 1 1 (by rfl) (by decide) (ah ⟨⟨[6],by decide,rfl⟩,?_⟩);refine av 5 [] bG ab ⟨⟨_,rfl,?_⟩,trivial⟩;refine dG TI rfl ⟨ff 1 rfl hA1,trivial⟩ ?_;rintro v H' ⟨gi,rfl,rfl⟩;refine⟨rfl,ah ⟨⟨[7],by decide,rfl⟩,?_⟩⟩;refine av 6 [] bG ab ⟨⟨_,rfl,?_⟩,trivial⟩;refine bK (fst:=[]) (cap:=[]) [] (wP p m (aJ T).1 aa (aL gi 0) _ _ gi 0 aK rfl) rfl rfl rfl rfl aX (K:=[.own (ax gi 0 (aJ T).1.length (aJ T).1.length) 3 1 (aJ T).1.length (aj (aJ T).1),.own (ax g 0 1 1) 9 1 1 (cv nj)]++(V.heap++[blk pp 80 [ap p 0,dk t]])) (ay.picks [8,9,10,11,0,1,4,5,6,7] ab rfl) ⟨fX 0 rfl ca (.inr rfl),trivial⟩ aK ?_;rintro v H' ⟨m',e,rfl,rfl,hr,he⟩;refine dw ?_;refine ah ⟨⟨[9],by decide,rfl⟩,?_⟩;refine av 8 [] bG ab ⟨⟨_,rfl,?_⟩,trivial⟩;refine zc ?_;rintro v H' (⟨h0,rfl,rfl⟩|⟨h0,A2,c2,rfl,rfl⟩)
   ·refine⟨rfl,ah ⟨⟨[9],by decide,rfl⟩,?_⟩⟩;refine av 9 [] bG ab ⟨⟨_,rfl,?_⟩,trivial⟩;refine db [] rfl ⟨⟨[9],ab,rfl⟩,fd bG ?_⟩;have hto:cG e nj=nj:=by unfold cG;rw[if_neg (fun h=>h h0)]
    rw[hto] at hr;exact aM [5,9,0,1,2,3] ⟨_,rfl,nj,m',t,aL g 0,1,⟨rfl,by rw[if_pos (gV hok)];exact hr⟩,rfl,rfl⟩
   ·refine⟨rfl,ah ⟨⟨[10],by decide,rfl⟩,?_⟩⟩;refine av 9 [] bG ab ⟨⟨_,rfl,?_⟩,trivial⟩;refine db [] rfl ⟨⟨[10],ab,rfl⟩,fd bG ?_⟩;have hto:cG e nj=jX e:=by unfold cG;rw[if_pos h0]
    rw[hto] at hr;exact aM [0,10,1,2,3,4] ⟨_,rfl,jX e,m',t,A2,c2,⟨rfl,by rw[if_pos (gV hok)];exact hr⟩,rfl,rfl⟩
open Lib
theorem vt(V:LibV)(pp p:Nat)(m:cO)(hm:m.sta.OK)(t line:cP)(T:Ws)(w:∀ x∈T,x.length<=10000000)(P:T.length<=3000)(cb bb ob:Nat)(Q:T.length+1<=cb):
 Fn 36 [.pointer (some ⟨pp,0,none⟩),dk line,.slice (some ⟨bb,ob,none⟩) (T.length+1) cb] (aC (bO pp p m t)) (kR bb ob [115,111,108,118,101] T V++bO pp p m t) (vx pp p λ o E R=>R=t/\(if T.length=1/\(T.getD 0 []).length=1 then jl m.sta (((T.getD 0 []).getD 0 0).toNat:Int) o E else E=m.sta/\o=eL)):=by
 generalize hM:aC _=M
 refine aT Tryz.func36 λ w0=>?_;refine v7 ?_
 refine bA [] (fS V T (λ y S=>w y S) aa (fA (aL bb ob) cb 1 1) T.length (cb-1) bb (ob+1) (λ A=>by
  have:=NM.2 A;rw[eS (b:=bb) (o:=ob) (n:=T.length+1) aK aa aa]) rfl) rfl rfl rfl rfl aX ⟨⟨0,_,by simp[LibV.heap],rfl,dz (bq bb ob (cv ([115,111,108,118,101]::T))) 1,.inr rfl⟩,⟨1,by simp[LibV.heap],rfl⟩,⟨2,by simp[LibV.heap],rfl⟩,⟨3,by simp[LibV.heap],rfl⟩,an⟩ aK ?_
 rintro v H' ⟨An,cn,rfl,rfl⟩;refine wg ?_;refine aF (v:=dk [115,111,108,118,101]) (aZ (i:=0) 1 rfl rfl rfl) ?_;refine Gv ?_;refine tm 75 [115,111,108,118,101] ?_;refine nJ ?_;by_cases F:T.length=1
 case neg=>
  refine dc 80 rfl aa<|ek ?_;refine ah<|bo rfl (ag ?_);refine cq ?_;refine pD ?_;rintro v H' ⟨k,c2,rfl,rfl⟩;refine aN ?_;refine aM [0,6,7,8,9,10] ⟨_,rfl,eL,m,t,k,c2,?_,rfl,rfl⟩;exact⟨rfl,by rw[if_neg (λ h=>F h.1)];exact ji⟩
 obtain⟨c,rfl⟩:∃ c,T=[c]:=by
  match T,F with
  |[c],_=>exact⟨c,rfl⟩
 refine dt 80 rfl ai<|ek ?_;refine ae [3] (v:=ap bb (ob+1)) (gq (m:=1) rfl ai) rfl<|ae [3] (v:=dk c) (aZ (i:=1) 1 rfl rfl rfl) rfl<|ek ?_;by_cases H:c.length=1
 case neg=>
  refine dc 86 rfl (by rw[cS];omega)<|ah<|bo rfl (ag ?_);refine cq ?_;refine pD ?_;rintro v H' ⟨k,c2,rfl,rfl⟩;refine aN ?_;refine aM [0,6,7,8,9,10] ⟨_,rfl,eL,m,t,k,c2,?_,rfl,rfl⟩;exact⟨rfl,by rw[if_neg (λ h=>H h.2)];exact ji⟩
 obtain⟨x,rfl⟩:∃ x,c=[x]:=by
  match c,H with
  |[x],_=>exact⟨x,rfl⟩
 refine dt 86 rfl (by rw[cS];rfl)<|ah<|dr ?_
 refine iv (σ:={ q:cO×Int×Int//jl m.sta (x.toNat:Int) (cG q.2.2 [gD kz [q.2.1]]) q.1.sta/\e9 q.2.2/\b7 q.2.1 }) (λ q=>[(12,af q.1.2.1),(13,af q.1.2.2)])
  (λ q=>dq p q.1.1++(V.heap++[blk pp 80 [ap p 0,dk t]])) ?_ ?_
 ·refine cq ?_;refine bM 14 (dT [0,1,2,3,4,5,6,7]++[(8,false)]++dT [9,10,11,12,13]) [1,5] aX ab rfl<|a9 ?_;refine bh (v:=ap p 0) rfl (ad 1 rfl) ?_;refine a9 ?_;refine bh (v:=ap bb (ob+1)) rfl (gq (m:=1) rfl ai) ?_;refine bh (v:=dk [x]) rfl (aZ (i:=1) 0 rfl rfl rfl) ?_;refine bh (v:=.int .u8 (x.toNat:Int)) rfl (tx (i:=0) rfl rfl rfl rfl rfl) ?_;refine cz ?_;have I:b7 0:=by unfold b7;omega
  cases j:m.a with
  |false=>
   refine dG (fst:=[]) (cap:=[]) (Ep m j p (x.toNat:Int)) rfl ⟨ew 6 rfl,an⟩ ?_;refine j2 ?_;refine⟨rfl,b6 [1,5] ?_⟩;refine a9 ?_;refine cM (ah ⟨⟨(m,0,9),?_,aP 9 ab rfl,I⟩,a7,ay.picks [6,7,8,9,2,3,4,5] ab rfl⟩);have hl:m.sta.lack []=9:=Kw j [];unfold jl cG;rw[hl,if_pos ab,if_pos (show (9:Int)≠0 by decide)];exact ji
  |true=>
   have B:m.N.Right:=hm.net j;have hl:m.sta.lack []=0:=uO j;by_cases r:(x.toNat:Int)=112\/(x.toNat:Int)=116\/(x.toNat:Int)=115
   ·refine bK (fst:=[]) (cap:=[]) [] (Fj p m j B (x.toNat:Int) r) rfl rfl rfl rfl aX (K:=[.seg bb ob (cv [[115,111,108,118,101],[x]])]++(V.heap++[blk pp 80 [ap p 0,dk t]])) (ay.picks [6,7,8,9,1,2,3,4,5] ab rfl) an aK ?_;rintro v H' ⟨f,s,Af,cf,As,cs,L,U,rfl,rfl⟩;have C:=dm B (L.max B).1.toRanged m.N.snk;refine⟨rfl,b6 [4,8] ?_⟩;refine a9 ?_;refine cM (ah ⟨⟨(m.both f s Af cf As cs,dH (m.N.arcs.zip f) m.N.snk,0),?_,aP 0 ab rfl,by unfold b7;simp only;omega⟩,a7,ay.picks [0,1,2,3,5,6,7,8] ab rfl⟩);unfold jl cG;rw[hl,if_neg ab,if_pos r,if_neg (show ¬ (0:Int)≠0 by decide)];exact⟨f,s,L,U,rfl,rfl⟩
   ·refine dG (fst:=[]) (cap:=[]) (Dj m j p (x.toNat:Int) r) rfl ⟨ew 6 rfl,an⟩ ?_;refine j2 ?_;refine⟨rfl,b6 [1,5] ?_⟩;refine a9 ?_;refine cM (ah ⟨⟨(m,0,1),?_,aP 1 ab rfl,I⟩,a7,ay.picks [6,7,8,9,2,3,4,5] ab rfl⟩);unfold jl cG;rw[hl,if_neg ab,if_neg r,if_pos (show (1:Int)≠0 by decide)];exact ji
 rintro⟨⟨O,v,e⟩,l,he,C⟩;simp only at l he C ⊢;refine aI ?_;refine dp λ g0=>?_;refine cj (ft V kz ab [v] (λ z X=>by rw[Ni.1 X];exact C) ai (aL g0 0) 1 1 g0 0 aK rfl) rfl ⟨ew 0 rfl,⟨5,by simp[dq],rfl⟩,⟨6,by simp[dq],rfl⟩,⟨7,by simp[dq],rfl⟩,an⟩ ?_;refine dp λ g=>?_;refine jg ?_;refine zc ?_;rintro u H' (⟨D,rfl,rfl⟩|⟨D,k,c2,rfl,rfl⟩)
 ·refine ec ?_;have d:cG e [gD kz [v]]=[gD kz [v]]:=by unfold cG;rw[if_neg (fun h=>h D)]
  rw[d] at l;refine aM [0,9,2,3,4,5] ⟨_,rfl,[gD kz [v]],O,t,aL g 0,1,⟨rfl,?_⟩,rfl,rfl⟩;rw[if_pos ⟨rfl,rfl⟩];exact l
 ·refine ec ?_;have d:cG e [gD kz [v]]=jX e:=by unfold cG;rw[if_pos D]
  rw[d] at l;refine aM [0,10,3,4,5,6] ⟨_,rfl,jX e,O,t,k,c2,⟨rfl,?_⟩,rfl,rfl⟩;rw[if_pos ⟨rfl,rfl⟩];exact l
end Go.Proofs.YtmcnpaelaieniaaGreatDoor
