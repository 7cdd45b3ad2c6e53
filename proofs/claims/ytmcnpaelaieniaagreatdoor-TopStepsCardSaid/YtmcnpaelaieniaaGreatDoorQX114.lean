import Derived.Test.YtmcnpaelaieniaaGreatDoorQX113
import Derived.Test.YtmcnpaelaieniaaGreatDoorQX89
import Derived.Test.YtmcnpaelaieniaaGreatDoorQX111
import Derived.Test.YtmcnpaelaieniaaGreatDoorQX87
import Derived.Test.YtmcnpaelaieniaaGreatDoorQX100
/- A part of the proof; see NOTES.md. -/
set_option linter.unusedVariables false
set_option linter.unusedSimpArgs false
namespace Go.Proofs.YtmcnpaelaieniaaGreatDoor
open Go.RowKit
open Lib
open Lib
theorem l7(V:cj)(pp p:Nat)(m:cF)(t line w:cR)(n1:w≠[124])(n2:w≠[102,108,111,119])(n3:w≠[99,117,116])(n4:w≠[115,111,108,118,101])(n5:w≠[112,97,105,114,115]){R:List cR->du->cR->Prop}
 (TA:Fn 71 [.pointer (some ⟨pp,0,none⟩),dK w] (aJ (dA pp p m t)) (V.heap++dA pp p m t) (zK pp p R)) (cb bb ob:Nat) (hnc:1<=cb):
 Fn 36 [.pointer (some ⟨pp,0,none⟩),dK line,.slice (some ⟨bb,ob,none⟩) 1 cb] (aJ (dA pp p m t)) (lO bb ob w [] V++dA pp p m t) (zK pp p R):=by
 have T:Ws:=[];have hwe:∀ x∈([]:Ws),x.length<=10000000:=λ x h=>absurd h GV;have hM2:=hnc
 generalize hM:aJ _=M at TA ⊢
 refine aH Tryz.func36 rfl rfl λ w0=>?_;refine ad (aa (ae [] rfl ?_));refine ad (aa (ah [] rfl ?_));refine ab [] (dJ (i:=1) rfl rfl rfl rfl rfl (by decide)) rfl ?_;refine ao [] (kF V [] hwe (by simp) _ 0 (cb-1) 0 0 (λ hne=>absurd rfl hne) rfl) rfl (by kernel_rfl) ⟨⟨0,_,by simp[lO,cj.heap],rfl,f7,.inl rfl⟩,⟨1,by simp[lO,cj.heap],rfl⟩,⟨2,by simp[lO,cj.heap],rfl⟩,⟨3,by simp[lO,cj.heap],rfl⟩,an⟩ (λ _=>rfl) ?_;rintro v H' ⟨An,cn,rfl,rfl⟩;refine⟨rfl,?_⟩;refine ae [] rfl ?_;refine ad (ad (aa (ah [] rfl ?_)));refine ab [] (v:=.pointer (some ⟨bb,ob+0,none⟩)) (bZ (m:=0) rfl (by decide)) rfl ?_;refine ab [] (v:=dK w) (bc (i:=0) 1 rfl rfl rfl) rfl ?_;refine ae [] rfl ?_;refine av (ad (aa (ae [] rfl ?_)));refine aX 31 (v':=.bool false) rfl (Gz Value.bool ((dh _ [124]).trans (aZ (by first|assumption|decide)))) ?_;refine bG rfl ?_;refine ad (aa (ae [] rfl ?_));refine aX 52 (v':=.bool false) rfl (Gz Value.bool ((dh _ [102,108,111,119]).trans (aZ (by first|assumption|decide)))) ?_;refine bG rfl ?_;refine ad (aa (ae [] rfl ?_));refine aX 63 (v':=.bool false) rfl (Gz Value.bool ((dh _ [99,117,116]).trans (aZ (by first|assumption|decide)))) ?_;refine bG rfl ?_;refine ad (aa (ae [] rfl ?_));refine aX 75 (v':=.bool false) rfl (Gz Value.bool ((dh _ [115,111,108,118,101]).trans (aZ (by first|assumption|decide)))) ?_;refine bG rfl ?_;refine ad (aa (ae [] rfl ?_));refine aX 105 (v':=.bool false) rfl (Gz Value.bool ((dh _ [112,97,105,114,115]).trans (aZ (by first|assumption|decide)))) ?_;refine bG rfl ?_;refine ad (aa (ae [] rfl ?_));refine aC rfl (λ _=>?_) (λ h=>absurd rfl h);refine ad (aa (ah [] rfl ?_));refine ab [] (v:=.pointer (some ⟨bb,ob+0,none⟩)) (bZ (m:=0) rfl (by decide)) rfl ?_;refine ab [] (v:=dK w) (bc (i:=0) 1 rfl rfl rfl) rfl ?_;subst hM;refine aw (fst:=[]) (cap:=[]) [] TA rfl rfl rfl rfl (by kernel_rfl) (K:=V.heap) (aF.picks [5,6,7,8,9,2,3,4] (by decide) rfl) ⟨⟨0,by simp,rfl⟩,⟨1,by simp,rfl⟩,⟨2,by simp,rfl⟩,an⟩ (λ _=>rfl) ?_;rintro v H' ⟨o,m',t',A2,c2,h,rfl,rfl⟩;refine⟨rfl,?_⟩;refine ae [] rfl ?_;exact aA [0,1,2,3,4,5] (by decide) rfl (ax ⟨_,rfl,o,m',t',A2,c2,h,rfl,rfl⟩)
open Lib
def pa:aO:=⟨2,1,2,[⟨1,2,5⟩]⟩
theorem nB:pa.Right:=⟨by decide,by decide,by decide,by decide,by decide,by
 intro a ha;rw[GF.1 ha]
 decide,by decide⟩
def Fe:List cR:=[[124,32,112,32,109,97,120,32,50,32,49],[124,32,110,32,49,32,115],[124,32,110,32,50,32,116],[124,32,97,32,49,32,50,32,53]]
def Fi:List cR:=[[108,111,97,100],[115,111,108,118,101,32,116],[99,104,101,99,107]]
def Ed:cR:=[105,116,101,109,115]
def Fl:cR:=[118,97,108,117,101,32,53]
def Fg:cR:=[112,97,116,104,32,53,32,49,32,50]
def F3:cR:=[112,32,109,97,120,32,50,32,49,10,110,32,49,32,115,10,110,32,50,32,116,10,97,32,49,32,50,32,53,10]
theorem C7:bW F3=(pa,0,0):=by kernel_rfl
theorem mv{q:du}{t line:cR}{ws:Ws}{o:List cR}{q1:du}{t1 r:cR}(h:dW q t line o q1 t1)(hw:bw line=[124]::ws)(hr:kx line=r):q1=q/\t1=t++(r++[10])/\o=[]:=by
 unfold dW at h;rw[hw] at h;simp only at h;rw[if_neg (by decide)] at h;unfold sw at h;rw[if_pos rfl,hr] at h;exact h
theorem m9{d:Nat}(h:d<10):itoa (d:Int)=[UInt8.ofNat (48+d)]:=by
 unfold itoa;rw[if_neg (by omega),G1,ue h]
theorem E7{f:LI}(h:iV pa f):f=[5]:=by
 have hl:=h.1.len
 obtain⟨x,rfl⟩:∃ x,f=[x]:=by
  cases f with
  |nil=>exact absurd hl (by decide)
  |cons x r=>
   cases r with
   |nil=>exact⟨x,rfl⟩
   |cons y r=>simp[pa] at hl
 have h1:=h.1.all (⟨1,2,5⟩,x) (by simp[pa])
 have h5:aK pa [5]:=by
  refine⟨⟨rfl,λ p hp=>?_⟩,λ v hv k1 k2=>?_⟩
  ·have:p=(⟨1,2,5⟩,5):=by simpa [pa] using hp
   subst this
   decide
  ·have h1:1<=v:=hv.1;have h2:v<=2:=hv.2;have k1:v≠1:=k1;have k2:v≠2:=k2;omega
 have:=yE nB h h5;have e:∀ y:Int,da (pa.arcs.zip [y]) pa.snk=y:=λ y=>by simp[da,pa]
 rw[e,e] at this;simp only at h1;rw[show x=5 by omega]
theorem yg{N:aO}(hR:N.Right){f s:LI}(h:iV N f)(hs:od N f s):ou N f s=0:=by
 obtain⟨hc,hcl,_⟩:=hs.cut hR h;unfold ou;rw[if_pos h.1,if_pos hc,if_pos ((pN hR h.1 hc).2 hcl).symm]
theorem C4:mn pa [5]=[(112,[0],5)]:=by kernel_rfl
theorem Fv:mu pa [(112,[0],5)]=0:=by kernel_rfl
theorem EA:c9 pa [(112,[0],5)]=Fg++[10]:=by
 unfold c9 jt hQ;rw[GM,HC,HX,List.flatten_nil,Hc,mh];show (kj 112++([5,1,2].map λ n=>32::itoa n).flatten)++[10]=_;simp only[GM,HC];rw[show itoa 5=[53] from m9 (d:=5) (by decide),show itoa 1=[49] from m9 (d:=1) (by decide),show itoa 2=[50] from m9 (d:=2) (by decide)]
 decide
theorem F6:fH nP [5]=Fl:=by
 rw[mh];simp only[GM,HC];rw[show itoa 5=[53] from m9 (d:=5) (by decide)]
 decide
theorem AN(q:du)(ha:q.a=true)(hb:q.b=true)(hd:q.d=true)(l:LB):q.lack l=0:=by
 unfold du.lack;rw[if_neg (by rw[ha];decide),if_pos];intro c _
 cases c
 ·exact hb
 ·exact hd
theorem Dg{os:List (List cR)}{q2:du}{t2:cR}(h:iU zw [] (Fe++Fi) os q2 t2):os=[[],[],[],[],w5,[Fl],w5]/\∃ s,q2=⟨pa,[5],s,true,true,true⟩/\od pa [5] s:=by
 obtain⟨o1,_,q1,t1,h1,⟨o2,_,q3,t3,h3,⟨o4,_,q5,t5,h5,⟨o6,_,q7,t7,h7,⟨o8,_,q9,t9,h9,⟨o10,_,q11,t11,h11,⟨o12,_,q13,t13,h13,⟨rfl,rfl,rfl⟩,rfl⟩,rfl⟩,rfl⟩,rfl⟩,rfl⟩,rfl⟩,rfl⟩:=h;obtain⟨rfl,rfl,rfl⟩:=mv (ws:=[[112],[109,97,120],[50],[49]]) (r:=[112,32,109,97,120,32,50,32,49]) h1 (by decide) (by decide);obtain⟨rfl,rfl,rfl⟩:=mv (ws:=[[110],[49],[115]]) (r:=[110,32,49,32,115]) h3 (by decide) (by decide);obtain⟨rfl,rfl,rfl⟩:=mv (ws:=[[110],[50],[116]]) (r:=[110,32,50,32,116]) h5 (by decide) (by decide);obtain⟨rfl,rfl,rfl⟩:=mv (ws:=[[97],[49],[50],[53]]) (r:=[97,32,49,32,50,32,53]) h7 (by decide) (by decide);have hp:bW (((([]++([112,32,109,97,120,32,50,32,49]++[10]))++([110,32,49,32,115]++[10]))++([110,32,50,32,116]++[10]))++([97,32,49,32,50,32,53]++[10]))=(pa,0,0):=C7
 -- load
 unfold dW at h9;rw[show bw [108,111,97,100]=[[108,111,97,100]] by decide] at h9;simp only at h9;rw[if_neg (by decide)] at h9;unfold sw at h9;rw[if_neg (by decide),if_neg (by decide),if_neg (by decide),if_neg (by decide),if_neg (by decide),if_pos rfl] at h9;unfold fd at h9;rw[if_pos rfl,hp] at h9;obtain⟨rfl,⟨h0,_⟩|⟨_,rfl,rfl⟩⟩:=h9
 ·exact absurd rfl h0
 -- solve
 unfold dW at h11;rw[show bw [115,111,108,118,101,32,116]=[[115,111,108,118,101],[116]] by decide] at h11;simp only at h11;rw[if_neg (by decide)] at h11;unfold sw at h11;rw[if_neg (by decide),if_neg (by decide),if_neg (by decide),if_pos rfl] at h11;obtain⟨rfl,h11⟩:=h11;rw[if_pos (by decide)] at h11;unfold gZ at h11;rw[if_neg (by decide),if_pos (by decide)] at h11;obtain⟨f,s,hf,hs,rfl,rfl⟩:=h11;simp only at hf hs ⊢;have hm:=hf.max nB;obtain rfl:=E7 hm
 -- check
 unfold dW at h13;rw[show bw [99,104,101,99,107]=[[99,104,101,99,107]] by decide] at h13;simp only at h13;rw[if_neg (by decide)] at h13;unfold sw at h13;rw[if_neg (by decide),if_neg (by decide),if_neg (by decide),if_neg (by decide),if_neg (by decide),if_pos rfl] at h13;unfold fd at h13;rw[if_neg (by decide)] at h13;obtain⟨rfl,rfl,h13⟩:=h13;rw[if_pos rfl] at h13
 have hc:(du.mk pa [5] s true true true).checkZ=0:=by
  unfold du.checkZ;rw[AN _ rfl rfl rfl,if_neg (λ h=>h rfl)];exact yg nB hm hs
 rw[hc] at h13;subst h13;refine⟨?_,s,rfl,hs⟩;rw[show da (pa.arcs.zip [5]) pa.snk=5 by decide,F6];rfl
theorem BQ{q:du}{s:LI}(hq:q=⟨pa,[5],s,true,true,true⟩){t:cR}{o:List cR}{q1:du}{t1:cR}(h:dW q t Ed o q1 t1):o=[Fg]:=by
 subst hq;unfold dW at h;rw[show bw Ed=[Ed] by decide] at h;simp only at h;rw[if_neg (by decide)] at h;unfold sw at h;rw[if_neg (by decide),if_neg (by decide),if_neg (by decide),if_neg (by decide),if_neg (by decide),if_pos rfl] at h;unfold fd at h;rw[if_neg (by decide)] at h;obtain⟨_,_,h⟩:=h;rw[if_neg (by decide),if_neg (by decide),if_pos (by decide)] at h
 have h5:aK pa [5]:=by
  refine⟨⟨rfl,λ p hp=>?_⟩,λ v hv k1 k2=>?_⟩
  ·have:p=(⟨1,2,5⟩,5):=by simpa [pa] using hp
   subst this
   decide
  ·have h1:1<=v:=hv.1;have h2:v<=2:=hv.2;have k1:v≠1:=k1;have k2:v≠2:=k2;omega
 have hz:(du.mk pa [5] s true true true).itemsZ=([(112,[0],5)],0):=by
  unfold du.itemsZ;rw[AN _ rfl rfl rfl,if_neg (λ h=>h rfl),if_pos h5,C4]
 unfold du.itemsT at h;rw[hz] at h;simp only at h;rw[if_neg (λ h=>h rfl),Fv,EA] at h;rw[h];unfold ey;rw[if_neg (λ h=>h rfl)]
 decide
theorem wj{os:List (List cR)}{q2:du}{t2:cR}(h:iU zw [] (Fe++Fi++[Ed]) os q2 t2):os=[[],[],[],[],w5,[Fl],w5,[Fg]]:=by
 have key:∀ {ls ms:List cR} {q:du} {t:cR} {os:List (List cR)} {q2:du} {t2:cR},iU q t (ls++ms) os q2 t2->∃ o1 o2 q1 t1,iU q t ls o1 q1 t1/\iU q1 t1 ms o2 q2 t2/\os=o1++o2:=by
  intro ls
  induction ls with
  |nil=>intro ms q t os q2 t2 h;exact⟨[],os,q,t,⟨rfl,rfl,rfl⟩,h,rfl⟩
  |cons l ls ih=>
   rintro ms q t os q2 t2 ⟨o,os1,q1,t1,h1,h2,rfl⟩;obtain⟨o1,o2,q3,t3,h3,h4,rfl⟩:=ih h2;exact⟨o::o1,o2,q3,t3,⟨o,o1,q1,t1,h1,h3,rfl⟩,h4,rfl⟩
 obtain⟨o1,o2,q1,t1,h1,⟨o,_,q3,t3,h3,⟨rfl,rfl,rfl⟩,rfl⟩,rfl⟩:=key h;obtain⟨rfl,s,hs,_⟩:=Dg h1;rw[BQ hs h3];rfl
open Lib
theorem kn{pp p:Nat}{R R':List cR->du->cR->Prop}(h:∀ o q t,R o q t->R' o q t)(v:Value)(H':Heap)(hd:zK pp p R v H'):zK pp p R' v H':=by
 obtain⟨o,m',t',A,c,h1,h2,h3⟩:=hd;exact⟨o,m',t',A,c,h _ _ _ h1,h2,h3⟩
theorem rI{q:du}{t w:cR}{P:List cR->Prop}(hw:w≠[108,111,97,100])(h:∀ o,P o->(if w=[99,104,101,99,107] then o=ey q.checkZ w5
 else if w=nP then o=ey q.valZ.2 [fH nP [q.valZ.1]]
 else if w=[105,116,101,109,115] then o=q.itemsT
 else if w=[114,101,112,111,114,116] then o=ey q.repZ.2 (aP q.repZ.1)
 else if w=[112,114,105,110,116] then o=ey q.printZ.2 (aP q.printZ.1)
 else if w=[99,111,117,110,116] then q.countR o
 else o=gT)) (o:List cR) (q':du) (t':cR) (ha:EL q t P o q' t'):fd q t w o q' t':=by
 obtain⟨h1,h2,h3⟩:=ha;unfold fd;rw[if_neg hw];exact⟨h1,h2,h o h3⟩
theorem qd{q:du}{t line w:cR}(n1:w≠[124])(n2:w≠[102,108,111,119])(n3:w≠[99,117,116])(n4:w≠[115,111,108,118,101])(n5:w≠[112,97,105,114,115])(o:List cR)(q':du)(t':cR)(h:fd q t w o q' t'):sw q t line w [] o q' t':=by
 unfold sw;rw[if_neg n1,if_neg n2,if_neg n3,if_neg n4,if_neg n5,if_pos rfl];exact h
theorem EH{q:du}{t line:cR}{T:Ws}(o:List cR)(q':du)(t':cR)(h:q'=q/\t'=t++(kx line++[10])/\o=[]):sw q t line [124] T o q' t':=by
 unfold sw;rw[if_pos rfl];exact h
theorem Bd{q:du}{t line:cR}{T:Ws}(o:List cR)(q':du)(t':cR)(h:t'=t/\(if T.length=1/\(T.getD 0 []).length=1 then gZ q (((T.getD 0 []).getD 0 0).toNat:Int) o q' else q'=q/\o=gT)):sw q t line [115,111,108,118,101] T o q' t':=by
 unfold sw;rw[if_neg (by decide),if_neg (by decide),if_neg (by decide),if_pos rfl];exact h
theorem FY(V:cj):FD V λ l=>l∈Fe++Fi++[Ed]:=by
 intro pp p m t line w T cb bb ob hm hL hl ht hw hh hnc;have hwe:∀ x∈T,x.length<=10000000:=λ x hx=>by have:=me line x (by rw[hw];simp[hx]);omega
 have hTl:T.length<=3000:=by have:=na line;rw[hw,GG] at this;omega
 have bar:w=[124]->Fn 36 [.pointer (some ⟨pp,0,none⟩),dK line,.slice (some ⟨bb,ob,none⟩) (T.length+1) cb] (aJ (dA pp p m t)) ([.seg bb ob (cO (w::T))]++V.heap++dA pp p m t) (zK pp p (sw m.sta t line w T)):=λ e=>by
  subst e;exact (AJ V pp p m t line ht hl T hwe hTl cb bb ob hnc).mono (kn EH)
 simp only[Fe,Fi,Ed,Hv,HF,GL,GV,or_false] at hL
 rcases hL with rfl|rfl|rfl|rfl|rfl|rfl|rfl|rfl
 ·rw[show bw [124,32,112,32,109,97,120,32,50,32,49]=[[124],[112],[109,97,120],[50],[49]] by decide] at hw;exact bar (Il hw).1.symm
 ·rw[show bw [124,32,110,32,49,32,115]=[[124],[110],[49],[115]] by decide] at hw;exact bar (Il hw).1.symm
 ·rw[show bw [124,32,110,32,50,32,116]=[[124],[110],[50],[116]] by decide] at hw;exact bar (Il hw).1.symm
 ·rw[show bw [124,32,97,32,49,32,50,32,53]=[[124],[97],[49],[50],[53]] by decide] at hw;exact bar (Il hw).1.symm
 ·rw[show bw [108,111,97,100]=[[108,111,97,100]] by decide] at hw;obtain⟨rfl,rfl⟩:=Il hw;exact (l7 V pp p m t _ _ (by decide) (by decide) (by decide) (by decide) (by decide) (yf V pp p m t ht) cb bb ob hnc).mono (kn (qd (by decide) (by decide) (by decide) (by decide) (by decide)))
 ·rw[show bw [115,111,108,118,101,32,116]=[[115,111,108,118,101],[116]] by decide] at hw;obtain⟨rfl,rfl⟩:=Il hw;exact (vT V pp p m hm t _ [[116]] hwe hTl cb bb ob hnc).mono (kn Bd)
 ·rw[show bw [99,104,101,99,107]=[[99,104,101,99,107]] by decide] at hw;obtain⟨rfl,rfl⟩:=Il hw;exact (l7 V pp p m t _ _ (by decide) (by decide) (by decide) (by decide) (by decide) (y9 V pp p m hm t) cb bb ob hnc).mono (kn λ o q' t' h=>qd (by decide) (by decide) (by decide) (by decide) (by decide) o q' t' (rI (by decide) (λ o h=>by rw[if_pos rfl];exact h) o q' t' h))
 ·rw[show bw [105,116,101,109,115]=[[105,116,101,109,115]] by decide] at hw;obtain⟨rfl,rfl⟩:=Il hw;exact (l7 V pp p m t _ _ (by decide) (by decide) (by decide) (by decide) (by decide) (xV V pp p m hm t) cb bb ob hnc).mono (kn λ o q' t' h=>qd (by decide) (by decide) (by decide) (by decide) (by decide) o q' t' (rI (by decide) (λ o h=>by rw[if_neg (by decide),if_neg (by decide),if_pos rfl];exact h) o q' t' h))
end Go.Proofs.YtmcnpaelaieniaaGreatDoor
