import Derived.Test.YtmcnpaelaieniaaGreatDoorQX110
import Derived.Test.YtmcnpaelaieniaaGreatDoorScrJ
import Derived.Test.YtmcnpaelaieniaaGreatDoorQX85
import Derived.Test.YtmcnpaelaieniaaGreatDoorQX98
import Derived.Test.YtmcnpaelaieniaaGreatDoorQX112
import Derived.Test.YtmcnpaelaieniaaGreatDoorQX88
/- A part of the proof; see NOTES.md. -/
set_option linter.unusedVariables false
set_option linter.unusedSimpArgs false
namespace Go.Proofs.YtmcnpaelaieniaaGreatDoor
open Go.RowKit
open Lib
theorem l7(V:b5)(pp p:Nat)(m:cD)(t line w:cN)(n1:w≠[124])(n2:w≠[102,108,111,119])(n3:w≠[99,117,116])(n4:w≠[115,111,108,118,101])(n5:w≠[112,97,105,114,115]){R:List cN->dp->cN->Prop}
 (TA:Fn 71 [.pointer (some ⟨pp,0,none⟩),dF w] (aL (dy pp p m t)) (V.heap++dy pp p m t) (zM pp p R)) (cb bb ob:Nat) (hnc:1<=cb):
 Fn 36 [.pointer (some ⟨pp,0,none⟩),dF line,.slice (some ⟨bb,ob,none⟩) 1 cb] (aL (dy pp p m t)) (lM bb ob w [] V++dy pp p m t) (zM pp p R):=by
 have T:Ws:=[];have hwe:∀ x∈([]:Ws),x.length<=10000000:=λ x h=>absurd h GP;have hM2:=hnc
 generalize hM:aL _=M at TA ⊢
 refine aJ Tryz.func36 rfl rfl λ w0=>?_;refine ad (aa (ae [] rfl ?_));refine ad (aa (ah [] rfl ?_));refine ab [] (dE (i:=1) rfl rfl rfl rfl rfl (by decide)) rfl ?_;refine ap [] (kH V [] hwe (by simp) _ 0 (cb-1) 0 0 (λ hne=>absurd rfl hne) rfl) rfl (by kernel_rfl) ⟨⟨0,_,by simp[lM,b5.heap],rfl,ge,.inl rfl⟩,⟨1,by simp[lM,b5.heap],rfl⟩,⟨2,by simp[lM,b5.heap],rfl⟩,⟨3,by simp[lM,b5.heap],rfl⟩,an⟩ (λ _=>rfl) ?_;rintro v H' ⟨An,cn,rfl,rfl⟩;refine⟨rfl,?_⟩;refine ae [] rfl ?_;refine ad (ad (aa (ah [] rfl ?_)));refine ab [] (v:=.pointer (some ⟨bb,ob+0,none⟩)) (bR (m:=0) rfl (by decide)) rfl ?_;refine ab [] (v:=dF w) (a8 (i:=0) 1 rfl rfl rfl) rfl ?_;refine ae [] rfl ?_;refine au (ad (aa (ae [] rfl ?_)));refine a7 31 (v':=.bool false) rfl (Gt Value.bool ((de _ [124]).trans (a6 (by first|assumption|decide)))) ?_;refine bG rfl ?_;refine ad (aa (ae [] rfl ?_));refine a7 52 (v':=.bool false) rfl (Gt Value.bool ((de _ [102,108,111,119]).trans (a6 (by first|assumption|decide)))) ?_;refine bG rfl ?_;refine ad (aa (ae [] rfl ?_));refine a7 63 (v':=.bool false) rfl (Gt Value.bool ((de _ [99,117,116]).trans (a6 (by first|assumption|decide)))) ?_;refine bG rfl ?_;refine ad (aa (ae [] rfl ?_));refine a7 75 (v':=.bool false) rfl (Gt Value.bool ((de _ [115,111,108,118,101]).trans (a6 (by first|assumption|decide)))) ?_;refine bG rfl ?_;refine ad (aa (ae [] rfl ?_));refine a7 105 (v':=.bool false) rfl (Gt Value.bool ((de _ [112,97,105,114,115]).trans (a6 (by first|assumption|decide)))) ?_;refine bG rfl ?_;refine ad (aa (ae [] rfl ?_));refine aC rfl (λ _=>?_) (λ h=>absurd rfl h);refine ad (aa (ah [] rfl ?_));refine ab [] (v:=.pointer (some ⟨bb,ob+0,none⟩)) (bR (m:=0) rfl (by decide)) rfl ?_;refine ab [] (v:=dF w) (a8 (i:=0) 1 rfl rfl rfl) rfl ?_;subst hM;refine aw (fst:=[]) (cap:=[]) [] TA rfl rfl rfl rfl (by kernel_rfl) (K:=V.heap) (aH.picks [5,6,7,8,9,2,3,4] (by decide) rfl) ⟨⟨0,by simp,rfl⟩,⟨1,by simp,rfl⟩,⟨2,by simp,rfl⟩,an⟩ (λ _=>rfl) ?_;rintro v H' ⟨o,m',t',A2,c2,h,rfl,rfl⟩;refine⟨rfl,?_⟩;refine ae [] rfl ?_;exact az [0,1,2,3,4,5] (by decide) rfl (ay ⟨_,rfl,o,m',t',A2,c2,h,rfl,rfl⟩)
open Lib
def pB:aU:=⟨2,1,2,[⟨1,2,5⟩]⟩
theorem oc:pB.Right:=⟨by decide,by decide,by decide,by decide,by decide,by
 intro a ha;rw[Gy.1 ha]
 decide,by decide⟩
def E8:List cN:=[[124,32,112,32,109,97,120,32,50,32,49],[124,32,110,32,49,32,115],[124,32,110,32,50,32,116],[124,32,97,32,49,32,50,32,53]]
def Fd:List cN:=[[108,111,97,100],[115,111,108,118,101,32,116],[99,104,101,99,107]]
def D0:cN:=[105,116,101,109,115]
def Ff:cN:=[118,97,108,117,101,32,53]
def E9:cN:=[112,97,116,104,32,53,32,49,32,50]
def Gd:cN:=[112,32,109,97,120,32,50,32,49,10,110,32,49,32,115,10,110,32,50,32,116,10,97,32,49,32,50,32,53,10]
theorem Dv:bW Gd=(pB,0,0):=by kernel_rfl
theorem nn{q:dp}{t line:cN}{ws:Ws}{o:List cN}{q1:dp}{t1 r:cN}(h:dS q t line o q1 t1)(hw:bw line=[124]::ws)(hr:kC line=r):q1=q/\t1=t++(r++[10])/\o=[]:=by
 unfold dS at h;rw[hw] at h;simp only at h;rw[if_neg (by decide)] at h;unfold r5 at h;rw[if_pos rfl,hr] at h;exact h
theorem nh{d:Nat}(h:d<10):itoa (d:Int)=[UInt8.ofNat (48+d)]:=by
 unfold itoa;rw[if_neg (by omega),GW,tX h]
theorem EI{f:LI}(h:gD pB f):f=[5]:=by
 have hl:=h.1.len
 obtain⟨x,rfl⟩:∃ x,f=[x]:=by
  cases f with
  |nil=>exact absurd hl (by decide)
  |cons x r=>
   cases r with
   |nil=>exact⟨x,rfl⟩
   |cons y r=>simp[pB] at hl
 have h1:=h.1.all (⟨1,2,5⟩,x) (by simp[pB])
 have h5:aK pB [5]:=by
  refine⟨⟨rfl,λ p hp=>?_⟩,λ v hv k1 k2=>?_⟩
  ·have:p=(⟨1,2,5⟩,5):=by simpa [pB] using hp
   subst this
   decide
  ·have h1:1<=v:=hv.1;have h2:v<=2:=hv.2;have k1:v≠1:=k1;have k2:v≠2:=k2;omega
 have:=zG oc h h5;have e:∀ y:Int,cS (pB.arcs.zip [y]) pB.snk=y:=λ y=>by simp[cS,pB]
 rw[e,e] at this;simp only at h1;rw[show x=5 by omega]
theorem zF{N:aU}(hR:N.Right){f s:LI}(h:gD N f)(hs:nI N f s):oI N f s=0:=by
 obtain⟨hc,hcl,_⟩:=hs.cut hR h;unfold oI;rw[if_pos h.1,if_pos hc,if_pos ((iE hR h.1 hc).2 hcl).symm]
theorem C1:mz pB [5]=[(112,[0],5)]:=by kernel_rfl
theorem FR:l5 pB [(112,[0],5)]=0:=by kernel_rfl
theorem Ei:cY pB [(112,[0],5)]=E9++[10]:=by
 unfold cY jy ic;rw[GG,Hy,HR,List.flatten_nil,G5,mn];show (kz 112++([5,1,2].map λ n=>32::itoa n).flatten)++[10]=_;simp only[GG,Hy];rw[show itoa 5=[53] from nh (d:=5) (by decide),show itoa 1=[49] from nh (d:=1) (by decide),show itoa 2=[50] from nh (d:=2) (by decide)]
 decide
theorem F2:fF oo [5]=Ff:=by
 rw[mn];simp only[GG,Hy];rw[show itoa 5=[53] from nh (d:=5) (by decide)]
 decide
theorem Cl(q:dp)(ha:q.a=true)(hb:q.b=true)(hd:q.d=true)(l:LB):q.lack l=0:=by
 unfold dp.lack;rw[if_neg (by rw[ha];decide),if_pos];intro c _
 cases c
 ·exact hb
 ·exact hd
theorem CT{os:List (List cN)}{q2:dp}{t2:cN}(h:iS zp [] (E8++Fd) os q2 t2):os=[[],[],[],[],xp,[Ff],xp]/\∃ s,q2=⟨pB,[5],s,true,true,true⟩/\nI pB [5] s:=by
 obtain⟨o1,_,q1,t1,h1,⟨o2,_,q3,t3,h3,⟨o4,_,q5,t5,h5,⟨o6,_,q7,t7,h7,⟨o8,_,q9,t9,h9,⟨o10,_,q11,t11,h11,⟨o12,_,q13,t13,h13,⟨rfl,rfl,rfl⟩,rfl⟩,rfl⟩,rfl⟩,rfl⟩,rfl⟩,rfl⟩,rfl⟩:=h;obtain⟨rfl,rfl,rfl⟩:=nn (ws:=[[112],[109,97,120],[50],[49]]) (r:=[112,32,109,97,120,32,50,32,49]) h1 (by decide) (by decide);obtain⟨rfl,rfl,rfl⟩:=nn (ws:=[[110],[49],[115]]) (r:=[110,32,49,32,115]) h3 (by decide) (by decide);obtain⟨rfl,rfl,rfl⟩:=nn (ws:=[[110],[50],[116]]) (r:=[110,32,50,32,116]) h5 (by decide) (by decide);obtain⟨rfl,rfl,rfl⟩:=nn (ws:=[[97],[49],[50],[53]]) (r:=[97,32,49,32,50,32,53]) h7 (by decide) (by decide);have hp:bW (((([]++([112,32,109,97,120,32,50,32,49]++[10]))++([110,32,49,32,115]++[10]))++([110,32,50,32,116]++[10]))++([97,32,49,32,50,32,53]++[10]))=(pB,0,0):=Dv
 -- load
 unfold dS at h9;rw[show bw [108,111,97,100]=[[108,111,97,100]] by decide] at h9;simp only at h9;rw[if_neg (by decide)] at h9;unfold r5 at h9;rw[if_neg (by decide),if_neg (by decide),if_neg (by decide),if_neg (by decide),if_neg (by decide),if_pos rfl] at h9;unfold fg at h9;rw[if_pos rfl,hp] at h9;obtain⟨rfl,⟨h0,_⟩|⟨_,rfl,rfl⟩⟩:=h9
 ·exact absurd rfl h0
 -- solve
 unfold dS at h11;rw[show bw [115,111,108,118,101,32,116]=[[115,111,108,118,101],[116]] by decide] at h11;simp only at h11;rw[if_neg (by decide)] at h11;unfold r5 at h11;rw[if_neg (by decide),if_neg (by decide),if_neg (by decide),if_pos rfl] at h11;obtain⟨rfl,h11⟩:=h11;rw[if_pos (by decide)] at h11;unfold hZ at h11;rw[if_neg (by decide),if_pos (by decide)] at h11;obtain⟨f,s,hf,hs,rfl,rfl⟩:=h11;simp only at hf hs ⊢;have hm:=hf.max oc;obtain rfl:=EI hm
 -- check
 unfold dS at h13;rw[show bw [99,104,101,99,107]=[[99,104,101,99,107]] by decide] at h13;simp only at h13;rw[if_neg (by decide)] at h13;unfold r5 at h13;rw[if_neg (by decide),if_neg (by decide),if_neg (by decide),if_neg (by decide),if_neg (by decide),if_pos rfl] at h13;unfold fg at h13;rw[if_neg (by decide)] at h13;obtain⟨rfl,rfl,h13⟩:=h13;rw[if_pos rfl] at h13
 have hc:(dp.mk pB [5] s true true true).checkZ=0:=by
  unfold dp.checkZ;rw[Cl _ rfl rfl rfl,if_neg (λ h=>h rfl)];exact zF oc hm hs
 rw[hc] at h13;subst h13;refine⟨?_,s,rfl,hs⟩;rw[show cS (pB.arcs.zip [5]) pB.snk=5 by decide,F2];rfl
theorem Co{q:dp}{s:LI}(hq:q=⟨pB,[5],s,true,true,true⟩){t:cN}{o:List cN}{q1:dp}{t1:cN}(h:dS q t D0 o q1 t1):o=[E9]:=by
 subst hq;unfold dS at h;rw[show bw D0=[D0] by decide] at h;simp only at h;rw[if_neg (by decide)] at h;unfold r5 at h;rw[if_neg (by decide),if_neg (by decide),if_neg (by decide),if_neg (by decide),if_neg (by decide),if_pos rfl] at h;unfold fg at h;rw[if_neg (by decide)] at h;obtain⟨_,_,h⟩:=h;rw[if_neg (by decide),if_neg (by decide),if_pos (by decide)] at h
 have h5:aK pB [5]:=by
  refine⟨⟨rfl,λ p hp=>?_⟩,λ v hv k1 k2=>?_⟩
  ·have:p=(⟨1,2,5⟩,5):=by simpa [pB] using hp
   subst this
   decide
  ·have h1:1<=v:=hv.1;have h2:v<=2:=hv.2;have k1:v≠1:=k1;have k2:v≠2:=k2;omega
 have hz:(dp.mk pB [5] s true true true).itemsZ=([(112,[0],5)],0):=by
  unfold dp.itemsZ;rw[Cl _ rfl rfl rfl,if_neg (λ h=>h rfl),if_pos h5,C1]
 unfold dp.itemsT at h;rw[hz] at h;simp only at h;rw[if_neg (λ h=>h rfl),FR,Ei] at h;rw[h];unfold ex;rw[if_neg (λ h=>h rfl)]
 decide
theorem v6{os:List (List cN)}{q2:dp}{t2:cN}(h:iS zp [] (E8++Fd++[D0]) os q2 t2):os=[[],[],[],[],xp,[Ff],xp,[E9]]:=by
 have key:∀ {ls ms:List cN} {q:dp} {t:cN} {os:List (List cN)} {q2:dp} {t2:cN},iS q t (ls++ms) os q2 t2->∃ o1 o2 q1 t1,iS q t ls o1 q1 t1/\iS q1 t1 ms o2 q2 t2/\os=o1++o2:=by
  intro ls
  induction ls with
  |nil=>intro ms q t os q2 t2 h;exact⟨[],os,q,t,⟨rfl,rfl,rfl⟩,h,rfl⟩
  |cons l ls ih=>
   rintro ms q t os q2 t2 ⟨o,os1,q1,t1,h1,h2,rfl⟩;obtain⟨o1,o2,q3,t3,h3,h4,rfl⟩:=ih h2;exact⟨o::o1,o2,q3,t3,⟨o,o1,q1,t1,h1,h3,rfl⟩,h4,rfl⟩
 obtain⟨o1,o2,q1,t1,h1,⟨o,_,q3,t3,h3,⟨rfl,rfl,rfl⟩,rfl⟩,rfl⟩:=key h;obtain⟨rfl,s,hs,_⟩:=CT h1;rw[Co hs h3];rfl
open Lib
theorem kr{pp p:Nat}{R R':List cN->dp->cN->Prop}(h:∀ o q t,R o q t->R' o q t)(v:Value)(H':Heap)(hd:zM pp p R v H'):zM pp p R' v H':=by
 obtain⟨o,m',t',A,c,h1,h2,h3⟩:=hd;exact⟨o,m',t',A,c,h _ _ _ h1,h2,h3⟩
theorem rH{q:dp}{t w:cN}{P:List cN->Prop}(hw:w≠[108,111,97,100])(h:∀ o,P o->(if w=[99,104,101,99,107] then o=ex q.checkZ xp
 else if w=oo then o=ex q.valZ.2 [fF oo [q.valZ.1]]
 else if w=[105,116,101,109,115] then o=q.itemsT
 else if w=[114,101,112,111,114,116] then o=ex q.repZ.2 (aT q.repZ.1)
 else if w=[112,114,105,110,116] then o=ex q.printZ.2 (aT q.printZ.1)
 else if w=[99,111,117,110,116] then q.countR o
 else o=gZ)) (o:List cN) (q':dp) (t':cN) (ha:EM q t P o q' t'):fg q t w o q' t':=by
 obtain⟨h1,h2,h3⟩:=ha;unfold fg;rw[if_neg hw];exact⟨h1,h2,h o h3⟩
theorem pQ{q:dp}{t line w:cN}(n1:w≠[124])(n2:w≠[102,108,111,119])(n3:w≠[99,117,116])(n4:w≠[115,111,108,118,101])(n5:w≠[112,97,105,114,115])(o:List cN)(q':dp)(t':cN)(h:fg q t w o q' t'):r5 q t line w [] o q' t':=by
 unfold r5;rw[if_neg n1,if_neg n2,if_neg n3,if_neg n4,if_neg n5,if_pos rfl];exact h
theorem EK{q:dp}{t line:cN}{T:Ws}(o:List cN)(q':dp)(t':cN)(h:q'=q/\t'=t++(kC line++[10])/\o=[]):r5 q t line [124] T o q' t':=by
 unfold r5;rw[if_pos rfl];exact h
theorem Ch{q:dp}{t line:cN}{T:Ws}(o:List cN)(q':dp)(t':cN)(h:t'=t/\(if T.length=1/\(T.getD 0 []).length=1 then hZ q (((T.getD 0 []).getD 0 0).toNat:Int) o q' else q'=q/\o=gZ)):r5 q t line [115,111,108,118,101] T o q' t':=by
 unfold r5;rw[if_neg (by decide),if_neg (by decide),if_neg (by decide),if_pos rfl];exact h
theorem FE(V:b5):FB V λ l=>l∈E8++Fd++[D0]:=by
 intro pp p m t line w T cb bb ob hm hL hl ht hw hh hnc;have hwe:∀ x∈T,x.length<=10000000:=λ x hx=>by have:=mq line x (by rw[hw];simp[hx]);omega
 have hTl:T.length<=3000:=by have:=mK line;rw[hw,Gz] at this;omega
 have bar:w=[124]->Fn 36 [.pointer (some ⟨pp,0,none⟩),dF line,.slice (some ⟨bb,ob,none⟩) (T.length+1) cb] (aL (dy pp p m t)) ([.seg bb ob (cK (w::T))]++V.heap++dy pp p m t) (zM pp p (r5 m.sta t line w T)):=λ e=>by
  subst e;exact (Be V pp p m t line ht hl T hwe hTl cb bb ob hnc).mono (kr EK)
 simp only[E8,Fd,D0,Hp,Hz,GD,GP,or_false] at hL
 rcases hL with rfl|rfl|rfl|rfl|rfl|rfl|rfl|rfl
 ·rw[show bw [124,32,112,32,109,97,120,32,50,32,49]=[[124],[112],[109,97,120],[50],[49]] by decide] at hw;exact bar (Ix hw).1.symm
 ·rw[show bw [124,32,110,32,49,32,115]=[[124],[110],[49],[115]] by decide] at hw;exact bar (Ix hw).1.symm
 ·rw[show bw [124,32,110,32,50,32,116]=[[124],[110],[50],[116]] by decide] at hw;exact bar (Ix hw).1.symm
 ·rw[show bw [124,32,97,32,49,32,50,32,53]=[[124],[97],[49],[50],[53]] by decide] at hw;exact bar (Ix hw).1.symm
 ·rw[show bw [108,111,97,100]=[[108,111,97,100]] by decide] at hw;obtain⟨rfl,rfl⟩:=Ix hw;exact (l7 V pp p m t _ _ (by decide) (by decide) (by decide) (by decide) (by decide) (xY V pp p m t ht) cb bb ob hnc).mono (kr (pQ (by decide) (by decide) (by decide) (by decide) (by decide)))
 ·rw[show bw [115,111,108,118,101,32,116]=[[115,111,108,118,101],[116]] by decide] at hw;obtain⟨rfl,rfl⟩:=Ix hw;exact (wD V pp p m hm t _ [[116]] hwe hTl cb bb ob hnc).mono (kr Ch)
 ·rw[show bw [99,104,101,99,107]=[[99,104,101,99,107]] by decide] at hw;obtain⟨rfl,rfl⟩:=Ix hw;exact (l7 V pp p m t _ _ (by decide) (by decide) (by decide) (by decide) (by decide) (zr V pp p m hm t) cb bb ob hnc).mono (kr λ o q' t' h=>pQ (by decide) (by decide) (by decide) (by decide) (by decide) o q' t' (rH (by decide) (λ o h=>by rw[if_pos rfl];exact h) o q' t' h))
 ·rw[show bw [105,116,101,109,115]=[[105,116,101,109,115]] by decide] at hw;obtain⟨rfl,rfl⟩:=Ix hw;exact (l7 V pp p m t _ _ (by decide) (by decide) (by decide) (by decide) (by decide) (yZ V pp p m hm t) cb bb ob hnc).mono (kr λ o q' t' h=>pQ (by decide) (by decide) (by decide) (by decide) (by decide) o q' t' (rH (by decide) (λ o h=>by rw[if_neg (by decide),if_neg (by decide),if_pos rfl];exact h) o q' t' h))
open Lib
def EH:cN:=[124,32,112,32,109,97,120,32,50,32,49,10,124,32,110,32,49,32,115,10,124,32,110,32,50,32,116,10,124,32,97,32,49,32,50,32,53,10,108,111,97,100,10,115,111,108,118,101,32,116,10,99,104,101,99,107,10,105,116,101,109,115]
theorem nE:aT EH=E8++Fd++[D0]:=by decide+kernel
theorem Ck{v:Value}{H':Heap}(h:D9 EH v H'):∃ (A:OA) (c:Nat) (A0 A1 A2 A3 A4 A5 A6 A7:OA) (c0 c1 c2 c3 c4 c5 c6 c7:Nat),v=.slice A 8 c/\H'=Bn A c [⟨A0,c0,[]⟩,⟨A1,c1,[]⟩,⟨A2,c2,[]⟩,⟨A3,c3,[]⟩,⟨A4,c4,xp⟩,⟨A5,c5,[Ff]⟩,⟨A6,c6,xp⟩,⟨A7,c7,[E9]⟩]:=by
 obtain⟨rows,A,c,h1,_,rfl,rfl⟩:=h;obtain⟨q,t,ht⟩:=h1 (by decide) (by rw[nE];decide);rw[nE] at ht;have hr:=v6 ht
 match rows,hr with
 |[⟨A0,c0,_⟩,⟨A1,c1,_⟩,⟨A2,c2,_⟩,⟨A3,c3,_⟩,⟨A4,c4,_⟩,⟨A5,c5,_⟩,⟨A6,c6,_⟩,⟨A7,c7,_⟩],hr=>
  simp only[GG,Hy,HO,IR] at hr;obtain⟨rfl,rfl,rfl,rfl,rfl,rfl,rfl,rfl⟩:=hr;exact⟨A,c,A0,A1,A2,A3,A4,A5,A6,A7,c0,c1,c2,c3,c4,c5,c6,c7,rfl,rfl⟩
 |[],hr|[_],hr|[_,_],hr|[_,_,_],hr|[_,_,_,_],hr|[_,_,_,_,_],hr|[_,_,_,_,_,_],hr|[_,_,_,_,_,_,_],hr=>simp at hr
 |_::_::_::_::_::_::_::_::_::_,hr=>simp at hr
set_option maxHeartbeats 1000000 in
theorem AP(V:b5):Fn 11 [] [] V.heap λ v H'=>v=.bool true/\H'=[]:=by
 refine aJ Tryz.func11 rfl rfl λ w0=>?_;refine ad (aa (ae [] rfl ?_));refine ad (aa ?_)
 refine b9 [] (BW V (FE V) EH (by decide) (λ _ _ l hl=>by
  rw[nE] at hl;refine⟨hl,?_⟩;have:∀ x∈E8++Fd++[D0],x.length<=3000:=by decide
  exact this l hl)) rfl rfl rfl rfl (by kernel_rfl) ⟨⟨0,by simp[b5.heap],rfl⟩,⟨1,by simp[b5.heap],rfl⟩,⟨2,by simp[b5.heap],rfl⟩,an⟩ (λ _=>rfl) ?_
 rintro v H' hq;obtain⟨A,c,A0,A1,A2,A3,A4,A5,A6,A7,c0,c1,c2,c3,c4,c5,c6,c7,rfl,rfl⟩:=Ck hq;refine⟨rfl,?_⟩;refine ae [] rfl ?_;refine bh (aW 0 rfl) λ ⟨_,_,hA,_⟩=>?_;obtain⟨g,rfl⟩:=hA (Nat.succ_pos _);refine bh (aW 6 rfl) λ ⟨_,_,h5,_⟩=>?_;obtain⟨g5,rfl⟩:=h5 (Nat.succ_pos _);refine bh (aW 7 rfl) λ ⟨_,_,h6,_⟩=>?_;obtain⟨g6,rfl⟩:=h6 (Nat.succ_pos _);refine bh (aW 8 rfl) λ ⟨_,_,h7,_⟩=>?_;obtain⟨g7,rfl⟩:=h7 (Nat.succ_pos _);refine ad (aa (ah [] rfl ?_));refine bd 6 rfl (by decide) ?_;refine ah [3] rfl ?_;refine ab [3] (v:=.pointer (some ⟨g,5,none⟩)) (aG (m:=5) rfl (by decide)) rfl ?_;refine ab [3] (v:=.slice (some ⟨g5,0,none⟩) 1 c5) (aD 0 rfl rfl rfl rfl) rfl ?_;refine ah [3] rfl ?_;refine bd 13 rfl (by decide) ?_;refine ah [3,10] rfl ?_;refine ab [3,10] (v:=.pointer (some ⟨g,5,none⟩)) (aG (m:=5) rfl (by decide)) rfl ?_;refine ab [3,10] (v:=.slice (some ⟨g5,0,none⟩) 1 c5) (aD 0 rfl rfl rfl rfl) rfl ?_;refine ah [3,10] rfl ?_;refine ab [3,10] (v:=.pointer (some ⟨g5,0,none⟩)) (aG (m:=0) rfl (by decide)) rfl ?_;refine ab [3,10] (v:=dF Ff) (aD 6 rfl rfl rfl rfl) rfl ?_;refine ah [3,10] rfl ?_;refine aI 21 (v':=.bool true) rfl (Gt Value.bool ((de _ Ff).trans (aR rfl))) ?_;refine ah [3,10,18] rfl ?_;refine ab [3,10,18] (v:=.pointer (some ⟨g,6,none⟩)) (aG (m:=6) rfl (by decide)) rfl ?_;refine ab [3,10,18] (v:=.slice (some ⟨g6,0,none⟩) 1 c6) (aD 0 rfl rfl rfl rfl) rfl ?_;refine ah [3,10,18] rfl ?_;refine bd 28 rfl (by decide) ?_;refine ah [3,10,18,25] rfl ?_;refine ab [3,10,18,25] (v:=.pointer (some ⟨g,6,none⟩)) (aG (m:=6) rfl (by decide)) rfl ?_;refine ab [3,10,18,25] (v:=.slice (some ⟨g6,0,none⟩) 1 c6) (aD 0 rfl rfl rfl rfl) rfl ?_;refine ah [3,10,18,25] rfl ?_;refine ab [3,10,18,25] (v:=.pointer (some ⟨g6,0,none⟩)) (aG (m:=0) rfl (by decide)) rfl ?_;refine ab [3,10,18,25] (v:=dF [111,107]) (aD 7 rfl rfl rfl rfl) rfl ?_;refine ah [3,10,18,25] rfl ?_;refine aI 36 (v':=.bool true) rfl (Gt Value.bool ((de _ [111,107]).trans (aR rfl))) ?_;refine ah [3,10,18,25,33] rfl ?_;refine ab [3,10,18,25,33] (v:=.pointer (some ⟨g,7,none⟩)) (aG (m:=7) rfl (by decide)) rfl ?_;refine ab [3,10,18,25,33] (v:=.slice (some ⟨g7,0,none⟩) 1 c7) (aD 0 rfl rfl rfl rfl) rfl ?_;refine ah [3,10,18,25,33] rfl ?_;refine bd 43 rfl (by decide) ?_;refine ah [3,10,18,25,33,40] rfl ?_;refine ab [3,10,18,25,33,40] (v:=.pointer (some ⟨g,7,none⟩)) (aG (m:=7) rfl (by decide)) rfl ?_;refine ab [3,10,18,25,33,40] (v:=.slice (some ⟨g7,0,none⟩) 1 c7) (aD 0 rfl rfl rfl rfl) rfl ?_;refine ah [3,10,18,25,33,40] rfl ?_;refine ab [3,10,18,25,33,40] (v:=.pointer (some ⟨g7,0,none⟩)) (aG (m:=0) rfl (by decide)) rfl ?_;refine ab [3,10,18,25,33,40] (v:=dF E9) (aD 8 rfl rfl rfl rfl) rfl ?_;refine ah [3,10,18,25,33,40] rfl ?_;refine ai ?_;exact az [] (by decide) rfl (ay ⟨_,rfl,Gt Value.bool ((de _ E9).trans (aR rfl)),rfl⟩)
end Go.Proofs.YtmcnpaelaieniaaGreatDoor
