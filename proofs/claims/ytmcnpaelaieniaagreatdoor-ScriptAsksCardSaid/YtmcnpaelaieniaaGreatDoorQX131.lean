import Derived.Test.YtmcnpaelaieniaaGreatDoorQX130
import Derived.SizedLaws
import Derived.ChangeSlices
import Derived.Deep.Slices
import Derived.Deep.Fields
import Derived.ChangeSame
import Derived.ShutString
import Derived.ChangeOld
import Derived.SliceStrings
import Derived.Test.YtmcnpaelaieniaaGreatDoorRows
import Derived.HandedShaped
import Derived.Handed
import Derived.Lib.LaidU8
import Derived.LaidLaws
import Derived.MakeChecks
/- A part of the proof. -/
set_option linter.unusedVariables false
set_option linter.unusedSimpArgs false
set_option maxHeartbeats 8000000
namespace Go.Proofs.YtmcnpaelaieniaaGreatDoor
open Go.RowKit
open Lib
theorem DC(V:LibV)(x:bP)(hx:x.length<4294967281):Fn 8 [du x] [] V.heap λ v H'=>v=.bool (dU (aK x=[x]))/\H'=[]:=by
 refine aT Tryz.func8 λ w0=>?_;refine cW ?_;refine fh (lZ V x hx) rfl ⟨⟨0,by simp[LibV.heap],rfl⟩,⟨1,by simp[LibV.heap],rfl⟩,⟨2,by simp[LibV.heap],rfl⟩,be⟩ ?_;rintro v H' ⟨A,n,hn,rfl,rfl⟩;refine aN ?_;refine aP (aH 0 rfl) λ ⟨_,_,hA,_⟩=>aI ?_;by_cases h1:n=1
 ·subst h1;obtain⟨g,rfl⟩:=hA (P1 _)
  obtain⟨y,hy⟩:∃ y,aK x=[y]:=by
   match h:aK x,hn with
   |[y],_=>exact⟨y,rfl⟩
   |[],h0=>simp at h0
   |_::_::_,h0=>simp at h0
  refine d7 9 rfl rfl<|dY ?_;refine ae [3] (v:=ap g 0) (bG (m:=0) rfl ab) rfl<|ae [3] (v:=du y) (aA 0 rfl rfl rfl (eY (by rw[hy];rfl))) rfl<|dY ?_;refine ah (hZ [] ab rfl (bM ⟨_,rfl,M8 Value.bool ?_,rfl⟩));rw[kR,hy];exact eB ai
 ·refine dD 9 rfl aa<|dY ?_;refine ah (hZ [] ab rfl (bM ⟨_,rfl,M8 Value.bool (aZ λ h=>h1 ?_).symm,rfl⟩));rw[hn,h];rfl
theorem rv(A:OA_)(c b o:Nat)(l:List bP)(hA:l≠[]->A=some ⟨b,o,none⟩)(B:OA_)(d b2 o2:Nat)(hB:l≠[]->B=some ⟨b2,o2,none⟩)(hl:l.length<=9000000000000):
 Fn 10 [.slice A l.length c,.slice B l.length d] [] [.seg b o (cj l),.seg b2 o2 (cj l)] λ v H'=>v=.bool true/\H'=[]:=by
 refine aT Tryz.func10 λ w0=>?_;refine i6 ?_;refine ak rfl (λ h=>absurd rfl h) (λ _=>ag ?_);refine jZ ?_;refine bS (σ:=Nat) (λ i=>[(5,af i),(0,.slice A l.length c),(1,.slice B l.length d)]) (λ _=>[.seg b o (cj l),.seg b2 o2 (cj l)]) (λ i=>i<=l.length) (λ i=>l.length-i) 0 [0,1] a8 ab rfl (Nk _) ?_;intro i hi;refine ao ?_;refine ak rfl (λ hlt=>ag ?_) (λ hge=>aO ?_)
 ·have hlt:i<l.length:=by omega
  have hne:l≠[]:=by rintro rfl;simp at hlt
  obtain rfl:=hA hne;obtain rfl:=hB hne;obtain⟨x,hx⟩:∃ x,l[i]?=some x:=⟨l[i],an hlt⟩;refine gz ?_;refine cA ?_;refine bK 9 (dS [0,1,2,3,4,5,6,7,8]) [0,1] aW ab rfl<|HA ?_;refine bc (v:=du x) rfl (a7 0 rfl rfl (eY hx)) ?_;refine HA ?_;refine bc (v:=du x) rfl (a7 1 rfl rfl (eY hx)) ?_;refine a6 ?_;refine dG 25 (v':=.bool false) rfl (M8 Value.bool ai)<|cP (ah ?_);refine bu rfl (ag ?_);refine ao ?_;exact⟨i+1,[0,1],⟨M8 (λ z=>some (af z)) (cv aa),rfl,rfl,be⟩,ab,rfl,aa,aa⟩
 exact jV
def MP:bP:=[124,32,112,32,109,97,120,32,50,32,49,10,124,32,110,32,49,32,115,10,124,32,110,32,50,32,116,10,124,32,97,32,49,32,50,32,53,10,108,111,97,100,10,115,111,108,118,101,32,116,10,99,104,101,99,107]
theorem tR:aK MP=Mb++Me:=by decide+kernel
theorem Jr{v:Value}{H':Heap}(h:KH MP v H'):∃ (A:OA_) (c:Nat) (A0 A1 A2 A3 A4 A5 A6:OA_) (c0 c1 c2 c3 c4 c5 c6:Nat),v=.slice A 7 c/\H'=sR A c [⟨A0,c0,[]⟩,⟨A1,c1,[]⟩,⟨A2,c2,[]⟩,⟨A3,c3,[]⟩,⟨A4,c4,nn⟩,⟨A5,c5,[MG]⟩,⟨A6,c6,nn⟩]:=by
 obtain⟨rows,A,c,h1,_,rfl,rfl⟩:=h;obtain⟨q,t,ht⟩:=h1 ab (by rw[tR];decide);rw[tR] at ht;have hr:=(IY ht).1
 match rows,hr with
 |[⟨A0,c0,_⟩,⟨A1,c1,_⟩,⟨A2,c2,_⟩,⟨A3,c3,_⟩,⟨A4,c4,_⟩,⟨A5,c5,_⟩,⟨A6,c6,_⟩],hr=>
  simp only[Ns,Oi,OG,PJ] at hr;obtain⟨rfl,rfl,rfl,rfl,rfl,rfl,rfl⟩:=hr;exact⟨A,c,A0,A1,A2,A3,A4,A5,A6,c0,c1,c2,c3,c4,c5,c6,rfl,rfl⟩
 |[],hr|[_],hr|[_,_],hr|[_,_,_],hr|[_,_,_,_],hr|[_,_,_,_,_],hr|[_,_,_,_,_,_],hr=>simp at hr
 |_::_::_::_::_::_::_::_::_,hr=>simp at hr
theorem AI(V:LibV):Fn 7 [] [] V.heap λ v H'=>v=.bool true/\H'=[]:=by
 refine aT Tryz.func7 λ w0=>?_;refine mz ?_
 refine bj [] (vq V (Mm V) MP ab (λ _ _ l hl=>by
  rw[tR] at hl;refine⟨List.mem_append_left _ hl,?_⟩;have:∀ x∈Mb++Me,x.length<=3000:=ab;exact this l hl)) rfl rfl rfl rfl aW ⟨⟨0,by simp[LibV.heap],rfl⟩,⟨1,by simp[LibV.heap],rfl⟩,⟨2,by simp[LibV.heap],rfl⟩,be⟩ aE ?_
 rintro v H' hq;obtain⟨A,c,A0,A1,A2,A3,A4,A5,A6,c0,c1,c2,c3,c4,c5,c6,rfl,rfl⟩:=Jr hq;refine ef ?_;refine aP (aH 0 rfl) λ ⟨_,_,hA,_⟩=>?_;obtain⟨g,rfl⟩:=hA (P1 _);refine aP (aH 5 rfl) λ ⟨_,_,h4,_⟩=>?_;obtain⟨g4,rfl⟩:=h4 (P1 _);refine aP (aH 6 rfl) λ ⟨_,_,h5,_⟩=>?_;obtain⟨g5,rfl⟩:=h5 (P1 _);refine aP (aH 7 rfl) λ ⟨_,_,h6,_⟩=>?_;obtain⟨g6,rfl⟩:=h6 (P1 _);refine aI ?_;refine d7 6 rfl ab<|dY ?_;refine ae [3] (v:=ap g 4) (bG (m:=4) rfl ab) rfl<|ae [3] (v:=ax g4 0 1 c4) (aA 0 rfl rfl rfl rfl) rfl<|tw [3] rfl rfl rfl rfl rfl rfl rfl aE λ q1=>bj [3] (rv (aJ g4 0) c4 g4 0 nn aE (aJ q1 0) 1 q1 0 aE ab) rfl rfl rfl rfl aW ⟨⟨6,_,by simp[sR],rfl,b8,.inr rfl⟩,en 0 rfl,be⟩ aE<|jP ?_;refine bX [3,10] ?_;refine ae [3,10] (v:=ap g 5) (bG (m:=5) rfl ab) rfl<|ae [3,10] (v:=ax g5 0 1 c5) (aA 1 rfl rfl rfl rfl) rfl<|tw [3,10] rfl rfl rfl rfl rfl rfl rfl aE λ q2=>bj [3,10] (rv (aJ g5 0) c5 g5 0 [MG] aE (aJ q2 0) 1 q2 0 aE ab) rfl rfl rfl rfl aW ⟨⟨8,_,by simp[sR],rfl,b8,.inr rfl⟩,en 0 rfl,be⟩ aE<|jP ?_;refine bX [3,10,17] ?_;refine ae [3,10,17] (v:=ap g 6) (bG (m:=6) rfl ab) rfl<|ae [3,10,17] (v:=ax g6 0 1 c6) (aA 2 rfl rfl rfl rfl) rfl<|tw [3,10,17] rfl rfl rfl rfl rfl rfl rfl aE λ q3=>bj [3,10,17] (rv (aJ g6 0) c6 g6 0 nn aE (aJ q3 0) 1 q3 0 aE ab) rfl rfl rfl rfl aW ⟨⟨10,_,by simp[sR],rfl,b8,.inr rfl⟩,en 0 rfl,be⟩ aE<|jP ?_;refine bX [3,10,17] ?_;exact ah<|nE
open Lib
theorem Dt(V:LibV)(pp p:Nat)(m:cO)(hm:m.sta.OK)(t w:bP)(ht:t.length<=9999999):Fn 71 [.pointer (some ⟨pp,0,none⟩),du w] (ay (bN pp p m t)) (V.heap++bN pp p m t) (vy pp p (eJ m.sta t w)):=by
 by_cases h0:w=[108,111,97,100]
 ·subst h0;exact vQ V pp p m t ht
 by_cases h1:w=[99,104,101,99,107]
 ·subst h1;exact (ww V pp p m hm t).mono (ec (gV h0 λ o h=>by rw[if_pos rfl];exact h))
 by_cases h2:w=[118,97,108,117,101]
 ·subst h2;exact (D6 V pp p m hm t).mono (ec (gV h0 λ o h=>by rw[if_neg h1,if_pos (by rfl)];exact h))
 have h2':w≠jK:=h2;by_cases h3:w=[105,116,101,109,115]
 ·subst h3;exact (wd V pp p m hm t).mono (ec (gV h0 λ o h=>by rw[if_neg h1,if_neg h2',if_pos rfl];exact h))
 by_cases h4:w=[114,101,112,111,114,116]
 ·subst h4;exact (Ek V pp p m hm t).mono (ec (gV h0 λ o h=>by rw[if_neg h1,if_neg h2',if_neg h3,if_pos rfl];exact h))
 by_cases h5:w=[112,114,105,110,116]
 ·subst h5;exact (DT V pp p m hm t).mono (ec (gV h0 λ o h=>by rw[if_neg h1,if_neg h2',if_neg h3,if_neg h4,if_pos rfl];exact h))
 by_cases h6:w=[99,111,117,110,116]
 ·subst h6;exact (DI V pp p m hm t).mono (ec (gV h0 λ o h=>by rw[if_neg h1,if_neg h2',if_neg h3,if_neg h4,if_neg h5,if_pos rfl];exact h))
 exact (Ei V pp p m t w h0 h1 h2 h3 h4 h5 h6).mono (ec (gV h0 λ o h=>by rw[if_neg h1,if_neg h2',if_neg h3,if_neg h4,if_neg h5,if_neg h6];exact h))
theorem GY(V:LibV):LG V λ _=>True:=by
 intro pp p m t line w T cb bb ob hm _ hl ht hw hh hnc;have hwe:∀ x∈T,x.length<=10000000:=λ x hx=>by have:=my line x (by rw[hw];simp[hx]);omega
 have hTl:T.length<=3000:=by have:=kJ line;rw[hw,Nf] at this;omega
 by_cases h0:w=[124]
 ·subst h0;exact (yT V pp p m t line ht hl T hwe hTl cb bb ob hnc).mono (ec FD)
 by_cases h1:w=[102,108,111,119]
 ·subst h1;refine (EI V pp p m t line T hwe hTl cb bb ob hnc).mono (ec λ o q' t' h=>?_);unfold ql;rw[if_neg h0,if_pos rfl];exact h
 by_cases h2:w=[99,117,116]
 ·subst h2;refine (Hf V pp p m t line T hwe hTl cb bb ob hnc).mono (ec λ o q' t' h=>?_);unfold ql;rw[if_neg h0,if_neg h1,if_pos rfl];exact h
 by_cases h3:w=[115,111,108,118,101]
 ·subst h3;exact (vh V pp p m hm t line T hwe hTl cb bb ob hnc).mono (ec yN)
 by_cases h4:w=[112,97,105,114,115]
 ·subst h4;refine (AQ V pp p m t line T hwe hTl cb bb ob hnc).mono (ec λ o q' t' h=>?_);unfold ql;rw[if_neg h0,if_neg h1,if_neg h2,if_neg h3,if_pos rfl];exact h
 by_cases h5:T=[]
 ·subst h5;exact (mM V pp p m t line w h0 h1 h2 h3 h4 (Dt V pp p m hm t w ht) cb bb ob hnc).mono (ec (rB h0 h1 h2 h3 h4))
 ·refine (AX V pp p m t line w h0 h1 h2 h3 h4 T h5 hwe hTl cb bb ob hnc).mono (ec λ o q' t' h=>?_);unfold ql;rw[if_neg h0,if_neg h1,if_neg h2,if_neg h3,if_neg h4,if_neg h5];exact h
open Lib
theorem Gb:∀ o:List bP,o.length<=sz o
 |[]=>Nk _
 |x::o=>by
  have:=Gb o;unfold sz at this ⊢;simp only[Nf,Ns,NC];omega
theorem vt:∀ rows:List Bf,f5 (rows.map qv)=true
 |[]=>rfl
 |_::rows=>vt rows
open Lib
def ja(ls:List bP):bP:=(ls.map λ x=>x++[10]).flatten
theorem pM(ls:List bP)(x:bP):ja (ls++[x])=(ja ls++x)++[10]:=by simp[ja]
theorem sa{ls:List bP}(h:∀ x∈ls,x.length<=100):(ja ls).length<=101*ls.length:=by
 induction ls with
 |nil=>simp[ja]
 |cons x ls ih=>
  have:=ih λ y hy=>h y (On _ hy);have:=h x (OI ..);unfold ja at*;simp only[Ns,Oy,Ng,Nf,NA] at*;omega
theorem BM{x:bP}(h:aK x=[x]):∀ b∈x,b≠10:=by
 have hl:=v3 x;rw[h] at hl;simp only[NF] at hl;by_cases hc:x.count 10=0
 ·intro b hb e;subst e;exact (List.count_eq_zero.1 hc) hb
 ·exfalso;have hne:x≠[]:=by rintro rfl;simp at hc
  have hlast:x.getLast?=some 10:=by
   by_cases h1:x≠[]/\x.getLast?≠some 10
   ·rw[if_pos h1] at hl;omega
   ·exact Nn.1 λ h2=>h1 ⟨hne,h2⟩
  obtain⟨m,rfl⟩:∃ m,x=m++[10]:=by
   obtain⟨m,hm⟩:=List.getLast?_eq_some_iff.1 hlast;exact⟨m,hm⟩
  rw[if_neg (λ k=>k.2 hlast)] at hl;rw[iF] at h;have hc1:m.count 10=0:=by rw[List.count_append] at hl;simp at hl;omega
  rw[kh 10 m [] (λ b hb e=>(List.count_eq_zero.1 hc1) (e▸hb))] at h;simp at h
theorem wC:∀ {ps:List (List bP×bP)} {x:bP},x∈ej ps->∃ p∈ps,x∈p.1\/x=p.2
 |p::r,x,h=>by
  unfold ej at h
  rcases Nm.1 h with h|h
  ·exact⟨p,OI ..,.inl h⟩
  ·rcases Nl.1 h with h|h
   ·exact⟨p,OI ..,.inr h⟩
   ·obtain⟨q,hq,k⟩:=wC h;exact⟨q,On _ hq,k⟩
theorem pX:∀ x∈jd,x.length<=100/\∀ b∈x,b≠10:=ab
structure yd (ps:List (List bP×bP)):Prop where
 ask:∀ p∈ps,∀ x∈p.1,x∈jd
 few:∀ p∈ps,p.1.length<=3
 len:∀ p∈ps,p.2.length<=100
 no:∀ p∈ps,∀ b∈p.2,b≠10
theorem yd.snoc{ps:List (List bP×bP)}(h:yd ps){acc:List bP}{x:bP}(h1:∀ y∈acc,y∈jd)(h2:acc.length<=3)(h3:x.length<=100)(h4:∀ b∈x,b≠10):yd (ps++[(acc,x)]):=by
 have key:∀ {P:List bP×bP->Prop},(∀ p∈ps,P p)->P (acc,x)->∀ p∈ps++[(acc,x)],P p:=λ h h' p hp=>by
  rcases Nm.1 hp with hp|hp
  ·exact h p hp
  ·rw[Nh.1 hp];exact h'
 exact⟨key h.ask h1,key h.few h2,key h.len h3,key h.no h4⟩
theorem yd.line{ps:List (List bP×bP)}(h:yd ps){x:bP}(hx:x∈ej ps):x.length<=100/\∀ b∈x,b≠10:=by
 obtain⟨p,hp,hx|rfl⟩:=wC hx
 ·exact pX x (h.ask p hp x hx)
 ·exact⟨h.len p hp,h.no p hp⟩
theorem yd.count{ps:List (List bP×bP)}(h:yd ps):(ej ps).length<=4*ps.length:=by
 induction ps with
 |nil=>simp[ej]
 |cons p r ih=>
  have:=ih ⟨λ q hq=>h.ask q (On _ hq),λ q hq=>h.few q (On _ hq),λ q hq=>h.len q (On _ hq),λ q hq=>h.no q (On _ hq)⟩;have:=h.few p (OI ..);unfold ej;rw[Ng,Nf,Nf];omega
def fy(ps:List (List bP×bP)):LI_:=(qf ps 0).map λ (k:Nat)=>(k:Int)
theorem qL(ps:List (List bP×bP)):(fy ps).length=ps.length:=by rw[fy,Nj,tW]
theorem v9(ps:List (List bP×bP))(acc:List bP)(x:bP):fy (ps++[(acc,x)])=fy ps++[(((ej ps).length+acc.length:Nat):Int)]:=by
 unfold fy;rw[yg,NJ];simp[qf]
theorem uG(ps:List (List bP×bP))(acc:List bP)(x:bP):ej (ps++[(acc,x)])=(ej ps++acc)++[x]:=by
 rw[wm];simp[ej]
theorem scriptAsks_fn(V:LibV)(A:OA_)(c b o:Nat)(l:List (LU_))(hA:l≠[]->A=some ⟨b,o,none⟩)(hs:l.length*16<=140737488351232)
 (K:OA_) (ck bk ok:Nat) (ks:LI_) (hK:ks≠[]->K=some ⟨bk,ok,none⟩) (hks:∀ x∈ks,b9 x) (hkz:ks.length*8<=140737488351232):
 Fn 3 [.slice A l.length c,.slice K ks.length ck] [] ([.seg b o (cj l),.seg bk ok (aj ks)]++V.heap) λ v _=>v=.bool true:=by
 refine aT Tryz.func3 λ w0=>?_;refine cW ?_;refine cH (AI V) rfl ⟨⟨2,by simp[LibV.heap],rfl⟩,⟨3,by simp[LibV.heap],rfl⟩,⟨4,by simp[LibV.heap],rfl⟩,be⟩ ?_;refine ew ?_;refine aB 20 (v':=.bool false) rfl rfl<|ic ?_;by_cases hlen:30<l.length
 ·refine d7 25 rfl aa<|bX [2,7] ?_;refine fw ?_;exact Ap
 refine dD 25 rfl aa<|bX [2,7] ?_;by_cases hlen2:30<ks.length
 ·refine d7 29 rfl aa<|fw ?_;exact Ap
 refine dD 29 rfl aa<|fw ?_;refine aI ?_;refine dp λ g6=>?_;refine cS ?_;refine i6 ?_;refine i6 ?_;refine b6 3 1<|gz ?_;show J _ _ _ _ ([.own (.slice none 0 0) 3 1 0 [],blk g6 9 (cj jd),.seg b o (cj l),.seg bk ok (aj ks)]++V.heap)
 refine bS (σ:=Nat×List (List bP×bP)×OA_×Nat) (λ q=>[(11,af q.1),(10,.slice q.2.2.1 (fy q.2.1).length q.2.2.2),(9,af (ej q.2.1).length),(8,du (ja (ej q.2.1))),(7,du (ja (q.2.1.map (·.2)))),(6,ax g6 0 10 10),(0,.slice A l.length c),(1,.slice K ks.length ck)])
  (λ q=>[.own (.slice q.2.2.1 (fy q.2.1).length q.2.2.2) 3 1 (fy q.2.1).length (aj (fy q.2.1)),blk g6 9 (cj jd),.seg b o (cj l),.seg bk ok (aj ks)]++V.heap)
  (λ q=>q.1<=l.length/\q.2.1.length<=q.1/\yd q.2.1) (λ q=>l.length-q.1) (0,[],none,0) [0,1,2,3,4,5,6] a8 ab rfl ⟨Nk _,Np _,⟨nofun,nofun,nofun,nofun⟩⟩ ?_
 rintro⟨i,ps,Aa,ca⟩ ⟨hi,hpi,hk⟩;simp only at hi hpi hk ⊢;have hwc:=hk.count;have hwl:=sa λ x hx=>(hk.line hx).1;have hpl:=sa (ls:=ps.map (·.2)) λ x hx=>by obtain⟨p,hp,rfl⟩:=NB.1 hx;exact hk.len p hp
 rw[Nj] at hpl;refine ao ?_;refine ak rfl (λ hlt=>ag ?_) (λ hge=>aO ?_)
 ·have hlt:i<l.length:=by omega
  obtain rfl:=hA (by rintro rfl;simp at hlt);obtain⟨x,hx⟩:∃ x,l[i]?=some x:=⟨l[i],an hlt⟩;refine gz ?_;refine BG ?_;refine az ?_;by_cases hxl:100<x.length
  ·refine d7 44 rfl (by rw[da];omega)<|bX [6] ?_;refine ah (bD rfl (aO ?_));refine ao ?_;exact⟨(i+1,ps,Aa,ca),[0,1,2,3,4,5,6],⟨M8 (λ z=>some (af z)) (cv aa),rfl,rfl,rfl,rfl,rfl,rfl,rfl,be⟩,ab,rfl,⟨by simp only;omega,by simp only;omega,hk⟩,by simp only;omega⟩
  refine dD 44 rfl (by rw[da];omega)<|bX [6] ?_;refine ae [6] (hU rfl hlt) rfl<|ae [6] (v:=du x) (a7 2 rfl rfl (eY hx)) rfl<|bj [6] (DC V x aa) rfl rfl rfl rfl aW ⟨⟨4,by simp[LibV.heap],rfl⟩,⟨5,by simp[LibV.heap],rfl⟩,⟨6,by simp[LibV.heap],rfl⟩,be⟩ aE<|jP ?_;refine bX [6] ?_;by_cases hsg:aK x=[x]
  case neg=>
   refine aB 51 (v':=.bool true) rfl (M8 Value.bool (by rw[aZ hsg];rfl))<|ah (bD rfl (aO ?_));refine ao ?_;exact⟨(i+1,ps,Aa,ca),[0,1,2,3,4,5,6],⟨M8 (λ z=>some (af z)) (cv aa),rfl,rfl,rfl,rfl,rfl,rfl,rfl,be⟩,ab,rfl,⟨by simp only;omega,by simp only;omega,hk⟩,by simp only;omega⟩
  refine aB 51 (v':=.bool false) rfl (M8 Value.bool (by rw[aV hsg];rfl))<|ah (bu rfl (ag ?_));refine BG ?_;refine BK ?_;refine pJ ?_
  refine bS (σ:=Nat×List bP) (λ q=>[(12,af q.1),(9,af ((ej ps).length+q.2.length:Nat)),(8,du (ja (ej ps++q.2))),(11,af i),(10,.slice Aa (fy ps).length ca),(7,du ((ja (ps.map (·.2))++x)++[10])),(6,ax g6 0 10 10),(0,ax b o l.length c),(1,.slice K ks.length ck)])
   (λ _=>[.own (.slice Aa (fy ps).length ca) 3 1 (fy ps).length (aj (fy ps)),blk g6 9 (cj jd),.seg b o (cj l),.seg bk ok (aj ks)]++V.heap)
   (λ q=>q.1=q.2.length/\q.1<=3/\∀ y∈q.2,y∈jd) (λ q=>3-q.1) (0,[]) [0,1,2,3,4,5,6] ⟨rfl,rfl,by rw[NL];rfl,rfl,rfl,rfl,rfl,rfl,rfl,be⟩ ab rfl ⟨rfl,ab,nofun⟩ ?_
  rintro⟨j,acc⟩ ⟨hja,hj3,hacc⟩;simp only at hja hj3 hacc ⊢
  have hjl:=sa (ls:=ej ps++acc) λ y hy=>by
   rcases Nm.1 hy with hy|hy
   ·exact (hk.line hy).1
   ·exact (pX y (hacc y hy)).1
  rw[Ng] at hjl;refine am (gj [(66,.bool (dU (j<ks.length/\j<3))),(12,af j),(9,af ((ej ps).length+acc.length:Nat)),(8,du (ja (ej ps++acc))),(11,af i),(10,.slice Aa (fy ps).length ca),(7,du ((ja (ps.map (·.2))++x)++[10])),(6,ax g6 0 10 10),(0,ax b o l.length c),(1,.slice K ks.length ck)] ([.own (.slice Aa (fy ps).length ca) 3 1 (fy ps).length (aj (fy ps)),blk g6 9 (cj jd),.seg b o (cj l),.seg bk ok (aj ks)]++V.heap) ?_ ?_)
  ·refine aI ?_;by_cases h1:j<ks.length
   ·refine d7 63 rfl aa<|bX [4] ?_;exact ah ⟨[0,1,2,3,4,5,6],⟨M8 (λ z=>some (Value.bool z)) (eB aa),rfl,rfl,rfl,rfl,rfl,rfl,rfl,rfl,rfl,be⟩,ab,rfl⟩
   ·refine dD 63 rfl aa<|bX [4] ?_;exact ah ⟨[0,1,2,3,4,5,6],⟨M8 (λ z=>some (Value.bool z)) (aZ (λ h=>h1 h.1)).symm,rfl,rfl,rfl,rfl,rfl,rfl,rfl,rfl,rfl,be⟩,ab,rfl⟩
  refine ak rfl (λ hgo=>ag ?_) (λ hno=>aO ?_)
  ·have hne:0<ks.length:=by omega
   obtain rfl:=hK (by rintro rfl;simp at hne);have hm:(i+j)%ks.length<ks.length:=Nat.mod_lt _ hne;obtain⟨k,hkk⟩:∃ k,ks[(i+j)%ks.length]?=some k:=⟨_,an hm⟩;have hkB:=hks k (M9 hkk);unfold b9 at hkB;refine gz ?_;refine aI ?_;refine aB 72 (v':=af ((i+j:Nat):Int)) rfl (M8 (Value.int .i64) (cv aa))<|az ?_;refine aG (Da rfl rfl rfl aa) ?_;refine aB 75 (v':=af (((i+j)%ks.length:Nat):Int)) rfl (M8 (Value.int .i64) (Int.ofNat_tmod _ _).symm)<|aG (hU rfl hm) ?_;refine aG (a7 3 rfl rfl (bq hkk)) ?_;refine aN ?_;obtain⟨z,hz⟩:∃ z:Nat,(z:Int)=if k<0 then-(k+1) else k:=⟨(if k<0 then-(k+1) else k).toNat,by split<;>omega⟩
   have hzB:(z:Int)<=9223372036854775807:=by rw[hz];split<;>omega
   refine gj [(13,af z),(12,af j),(9,af ((ej ps).length+acc.length:Nat)),(8,du (ja (ej ps++acc))),(11,af i),(10,.slice Aa (fy ps).length ca),(7,du ((ja (ps.map (·.2))++x)++[10])),(6,ax g6 0 10 10),(0,ax b o l.length c),(1,ax bk ok ks.length ck)] ([.own (.slice Aa (fy ps).length ca) 3 1 (fy ps).length (aj (fy ps)),blk g6 9 (cj jd),.seg b o (cj l),.seg bk ok (aj ks)]++V.heap) ?_ ?_
   ·refine ao ?_;refine ak rfl (λ h=>?_) (λ h=>ag ?_)
    ·refine ao ?_;refine⟨[0,1,2,3,4,5,6],⟨?_,rfl,rfl,rfl,rfl,rfl,rfl,rfl,rfl,rfl,be⟩,ab,rfl⟩;show some (af (IntKind.i64.wrap (0-IntKind.i64.wrap (k+1))))=_;rw[hz,if_pos h,cv (n:=k+1) aa,cv aa,Int.zero_sub]
    ·exact⟨[0,1,2,3,4,5,6],⟨by rw[hz,if_neg h];rfl,rfl,rfl,rfl,rfl,rfl,rfl,rfl,rfl,rfl,be⟩,ab,rfl⟩
   have hm2:z%10<10:=Nat.mod_lt _ ab;obtain⟨y,hy⟩:∃ y,jd[z%10]?=some y:=⟨_,an (show z%10<jd.length from hm2)⟩;have hyB:=pX y (M9 hy);refine aI ?_;refine aG (Da rfl rfl rfl aa) ?_;refine aB 88 (v':=af ((z%10:Nat):Int)) rfl (M8 (Value.int .i64) (Int.ofNat_tmod z 10).symm)<|aG (bG rfl hm2) ?_;refine aG (v:=du y) (bz 1 rfl rfl rfl (show (cj jd)[z%10]?=some (du y) from eY hy)) ?_;refine BK ?_;refine cS ?_;refine ao ?_;refine⟨(j+1,acc++[y]),[0,1,2,3,4,5,6],⟨M8 (λ z=>some (af z)) (cv aa),?_,?_,rfl,rfl,rfl,rfl,rfl,rfl,be⟩,ab,rfl,⟨by simp only[Ng,NF];omega,by simp only;omega,?_⟩,by simp only;omega⟩
   ·refine z8 ?_;exact M8 (λ z=>some (af z)) ((cv aa).trans aa)
   ·simp only[<- NI,pM];rfl
   ·intro w hw
    rcases Nm.1 hw with hw|hw
    ·exact hacc w hw
    ·rw[Nh.1 hw];exact M9 hy
  have hacl:acc.length<=3:=aa;have hno:=BM hsg;refine BG ?_;refine BK ?_;refine ew ?_;refine dp λ g2=>?_;refine bp (n:=(fy ps).length) (m:=1) (off:=0) (news:=aj [(((ej ps).length+acc.length:Nat):Int)]) 1 0 rfl rfl rfl rfl rfl rfl ab rfl rfl (aQ g2 _ _ (0,0)) aE rfl rfl (by rw[qL];omega) (by rw[qL];omega) (λ _ _=>rfl) λ A2 c2=>cS ?_;refine ao ?_;refine⟨(i+1,ps++[(acc,x)],A2,c2),[1,2,3,4,5,6,7],⟨M8 (λ z=>some (af z)) (cv aa),?_,?_,?_,?_,rfl,rfl,rfl,be⟩,ab,?_,⟨by simp only;omega,by simp only[Ng,NF];omega,hk.snoc hacc hacl aa hno⟩,by simp only;omega⟩
  ·simp only[v9,Ng,NF];rfl
  ·simp only[uG,Ng,NF];exact M8 (λ z=>some (af z)) ((cv aa).trans aa)
  ·simp only[uG,pM];rfl
  ·simp only[NJ,Ns,Oi,pM];rfl
  ·simp only[v9,Ng,NF];rw[show aj (fy ps++[(((ej ps).length+acc.length:Nat):Int)])=aj (fy ps)++aj [(((ej ps).length+acc.length:Nat):Int)] by simp[aj]];rfl
 have hl1:aK (ja (ps.map (·.2)))=ps.map (·.2):=q6 _ λ x hx=>by obtain⟨p,hp,rfl⟩:=NB.1 hx;exact hk.no p hp
 have hl2:aK (ja (ej ps))=ej ps:=q6 _ λ x hx=>(hk.line hx).2;refine aI ?_
 refine bj [] (vq V (GY V) (ja (ps.map (·.2))) aa (λ _ _ x hx=>by
  rw[hl1] at hx;obtain⟨p,hp,rfl⟩:=NB.1 hx;have:=hk.len p hp;exact⟨be,aa⟩)) rfl rfl rfl rfl aW ⟨⟨4,by simp[LibV.heap],rfl⟩,⟨5,by simp[LibV.heap],rfl⟩,⟨6,by simp[LibV.heap],rfl⟩,be⟩ aE ?_
 rintro v H' ⟨r1,A1,d1,hT1,_,rfl,rfl⟩;refine⟨dc rfl (vt r1),?_⟩;refine aN ?_;obtain⟨q1,t1,hT1⟩:=hT1 aa (by rw[hl1,Nj];omega);rw[hl1] at hT1;have hn1:=r6 hT1;rw[Nj,Nj] at hn1;unfold sR;refine bQ (K:=([.own (.slice A1 r1.length d1) 22 1 r1.length (r1.map x4)]++([.own (.slice Aa (fy ps).length ca) 3 1 (fy ps).length (aj (fy ps)),blk g6 9 (cj jd),.seg b o (cj l),.seg bk ok (aj ks)]++V.heap))++r1.map qv) aw.swap<|aI ?_
 refine bj [] (vq V (GY V) (ja (ej ps)) aa (λ _ _ x hx=>by
  rw[hl2] at hx;have:=(hk.line hx).1;exact⟨be,aa⟩)) rfl rfl rfl rfl aW ⟨⟨5,by simp[LibV.heap],rfl⟩,⟨6,by simp[LibV.heap],rfl⟩,⟨7,by simp[LibV.heap],rfl⟩,be⟩ aE ?_
 rintro v H' ⟨r2,A2,d2,hT2,_,rfl,rfl⟩;refine⟨dc rfl (vt r2),?_⟩;refine aN ?_;obtain⟨q2,t2,hT2⟩:=hT2 aa (by rw[hl2];omega);rw[hl2] at hT2;have hn2:=r6 hT2;rw[Nj] at hn2;unfold sR;refine bQ (K:=([.own (.slice A2 r2.length d2) 22 1 r2.length (r2.map x4)]++(([.own (.slice A1 r1.length d1) 22 1 r1.length (r1.map x4)]++([.own (.slice Aa (fy ps).length ca) 3 1 (fy ps).length (aj (fy ps)),blk g6 9 (cj jd),.seg b o (cj l),.seg bk ok (aj ks)]++V.heap))++r1.map qv))++r2.map qv) aw.swap<|bQ (K:=[.own (.slice A2 r2.length d2) 22 1 r2.length (r2.map x4),.own (.slice A1 r1.length d1) 22 1 r1.length (r1.map x4),.own (.slice Aa (fy ps).length ca) 3 1 (fy ps).length (aj (fy ps))]++(r1.map qv++r2.map qv)) (aw.re (A:=[_,_,_,_,_,_,_,_,_]) [0,1,2] rfl ab)<|?_;have hw:=tI hk.ask (λ p hp=>by have:=hk.len p hp;omega) xv (pre:=[]) hT1 hT2;refine aI ?_;refine dD 117 rfl (by rw[qL];omega)<|bX [5] ?_;refine dD 122 rfl aa<|ah (bu rfl (ag ?_));refine jZ ?_;refine aP (aH 0 rfl) λ ⟨_,_,hP2,_⟩=>aP (aH 1 rfl) λ ⟨_,_,hP1,_⟩=>aP (aH 2 rfl) λ ⟨_,_,hP3,_⟩=>?_
 refine cN (σ:=Nat) (λ k=>[(16,af k),(14,.slice A1 r1.length d1),(15,.slice A2 r2.length d2),(10,.slice Aa (fy ps).length ca)]) (λ _=>[.own (.slice A2 r2.length d2) 22 1 r2.length (r2.map x4),.own (.slice A1 r1.length d1) 22 1 r1.length (r1.map x4),.own (.slice Aa (fy ps).length ca) 3 1 (fy ps).length (aj (fy ps))]++(r1.map qv++r2.map qv))
  (λ k=>k<=(fy ps).length) (λ k=>(fy ps).length-k) 0 a8 aw.refl (Nk _) ?_
 intro k hkk;have hpl3:=qL ps;refine ao ?_;refine ak rfl (λ hlt=>ag ?_) (λ hge=>aO ?_)
 ·have hlt:k<(fy ps).length:=by omega
  obtain⟨jn,hj⟩:∃ jn,(qf ps 0)[k]?=some jn:=⟨_,an (by rw[tW];omega)⟩;have hji:(fy ps)[k]?=some (jn:Int):=by unfold fy;rw[Ni,hj];rfl
  obtain⟨w,hw1,hw2⟩:=hw k jn hj;rw[Ni] at hw1;rw[Oj,Ni] at hw2;obtain⟨⟨Ar,cr,lr⟩,hr1,hre⟩:=OM.1 hw1;obtain⟨⟨As,cs,ls⟩,hr2,hse⟩:=OM.1 hw2;simp only at hre hse;subst hse;subst hre;have hk1:k<r1.length:=(Nb.1 hr1).1;have hk2:jn<r2.length:=(Nb.1 hr2).1;obtain⟨y1,rfl⟩:=hP1 aa;obtain⟨y2,rfl⟩:=hP2 aa;obtain⟨y3,rfl⟩:=hP3 aa;have e1:(r1.map qv++r2.map qv)[k]?=some (qv ⟨Ar,cr,lr⟩):=by rw[NY (by rw[Nj];exact hk1),Ni,hr1];rfl
  have e2:(r1.map qv++r2.map qv)[r1.length+jn]?=some (qv ⟨As,cs,lr⟩):=by rw[Nu (by rw[Nj];omega),Nj,NV,Ni,hr2];rfl
  have f1:∀ (a1 a2 a3:aU),([a1,a2,a3]++(r1.map qv++r2.map qv))[k+3]?=some (qv ⟨Ar,cr,lr⟩):=λ _ _ _=>e1;have f2:∀ (a1 a2 a3:aU),([a1,a2,a3]++(r1.map qv++r2.map qv))[r1.length+jn+3]?=some (qv ⟨As,cs,lr⟩):=λ _ _ _=>e2;refine aP (aH (k+3) (f1 _ _ _)) λ ⟨_,_,hR1,hR1l⟩=>?_;obtain⟨w1,hR1⟩:=bo hR1 hR1l;refine aP (aH (r1.length+jn+3) (f2 _ _ _)) λ ⟨_,_,hR2,hR2l⟩=>?_;obtain⟨w2,hR2⟩:=bo hR2 hR2l;refine gz ?_;refine cA ?_;refine bK 13 (dS [0,1,2,3,4,5,6,7,8,9,10]++[(11,false)]++dS [12]) [0,1,2] aW ab rfl<|a6 ?_;refine bc rfl (bG rfl hk1) ?_;refine bc (v:=x4 ⟨Ar,cr,lr⟩) rfl (aA 1 rfl rfl rfl (show (r1.map x4)[k]?=some (x4 ⟨Ar,cr,lr⟩) by rw[Ni,hr1];rfl)) ?_;refine a6 ?_;refine bc rfl (bG rfl hlt) ?_;refine bc rfl (aA 2 rfl rfl rfl (bq hji)) ?_;refine a6 ?_;refine bc rfl (bG rfl hk2) ?_;refine bc (v:=x4 ⟨As,cs,lr⟩) rfl (aA 0 rfl rfl rfl (show (r2.map x4)[jn]?=some (x4 ⟨As,cs,lr⟩) by rw[Ni,hr2];rfl)) ?_;refine cz ?_
  have hl9:lr.length<=9000000000000:=by
   have h9:=CQ xv (λ y hy=>by have:=hk.len;obtain⟨p,hp,rfl⟩:=NB.1 hy;have:=hk.len p hp;omega) (by simp only[NA,Nj];omega) hT1 lr (M9 (by rw[Ni,hr1];rfl));have:=Gb lr;omega
  refine dB (rv Ar cr w1 0 lr (λ h=>hR1 (by simpa [cj] using h)) As cs w2 0 (λ h=>hR2 (by simpa [cj] using h)) hl9) rfl ⟨⟨k+3,_,ai,f1 _ _ _,bi hR1,bO hR1⟩,⟨r1.length+jn+3,_,ai,f2 _ _ _,bi hR2,bO hR2⟩,be⟩ ?_;refine jH ?_;refine⟨rfl,bZ [0,1,2] ?_⟩;refine a6 ?_;refine cP (ah ?_);refine bu rfl (ag ?_);refine ao ?_;exact⟨k+1,⟨M8 (λ z=>some (af z)) (cv aa),rfl,rfl,rfl,be⟩,aw.refl,aa,aa⟩
 exact Ap
def lD(w:World):Heap->Prop
 |[]=>True
 |.seg b o vs::S=>(aU.seg b o vs).holds w/\lD w S
 |.tab b o::S=>(aU.tab b o).holds w/\lD w S
 |_=>False
theorem lD.spec{w:World}:∀ {S:Heap},lD w S->∀ c∈S,c.holds w/\c.mine=none
 |[],_,c,hc=>by cases hc
 |.seg b o vs::S,h,c,hc=>by
  rcases Nl.1 hc with rfl|hc
  ·exact⟨h.1,rfl⟩
  ·exact lD.spec h.2 c hc
 |.tab b o::S,h,c,hc=>by
  rcases Nl.1 hc with rfl|hc
  ·exact⟨h.1,rfl⟩
  ·exact lD.spec h.2 c hc
 |.obj ..::_,h,_,_=>h.elim
 |.own ..::_,h,_,_=>h.elim
theorem lD.has{w:World}{S:Heap}(h:lD w S):dL w [] w S:=by
 refine⟨rfl,rfl,rfl,Np _,λ _ _ _=>rfl,λ c hc=>(h.spec c hc).1,λ c hc b hb=>(by rw[(h.spec c hc).2] at hb;simp at hb),?_⟩;rw[N6];intro i j hi hj _;have h1:=(h.spec _ (Ox hi)).2;have h2:=(h.spec _ (Ox hj)).2;exact⟨λ b hb=>by rw[h1] at hb;simp at hb,λ b hb=>by rw[h2] at hb;simp at hb⟩
theorem Fn.row{f:FuncId}{args:LV_}{S:Heap}(h:Fn f args [] S (λ v _=>v=.bool true))(w:World)(hS:lD w S):
 Calls Tryz.prog f args.toArray w λ e w'=>e=.returned (.bool true)/\Below w.heap.size w w':=by
 refine (h w hS.has).mono ?_;rintro e w' ⟨v,H',he,hH,hv⟩;rw[he,hv];exact⟨rfl,⟨hH.os,hH.tape,hH.output,hH.size,λ k hk=>hH.keep k hk ai⟩⟩
theorem LT{n:Int}(h:(Lit.int .i64 n).wf=true):b9 n:=by
 simp[Lit.wf,IntKind.min,IntKind.max,IntKind.signed,IntKind.bits] at h;exact h
open Go.RowKit Go.ChangeShapes Go.WideShapes Go.Deep Go.Joins
section
variable {H:Type} {enc:TypeId×Value->H} {P:Program} {w:World} {base:Nat} {spare:Nat->Bool} {held:Bool}
theorem sized_of{ts:List TypeId}{ds:List (DataW H)}(h:(DataW.weightsEach P ts ds).all (·<=reachBytes)=true){j:Nat}{t:TypeId}{d:DataW H}(ht:ts[j]?=some t)(hd:ds[j]?=some d):∀ n∈d.weights P t,n<=reachBytes:=λ n hn=>by
 have:=PL.1 h n (DataW.weights_mem_each ht hd n hn)
 simpa using this
theorem tx{a:Addr}{v:Value}(h:w.cell? a=some v):a=⟨a.block,a.off,none⟩:=by
 unfold World.cell? at h;obtain⟨b,o,s⟩:=a
 cases s with
 |none=>rfl
 |some q=>revert h;simp only[Option.isSome];split<;>simp
theorem FN(b o i:Nat):(⟨b,o,none⟩:Addr).add i=⟨b,o+i,none⟩:=by
 unfold Addr.add;split
 ·rename_i h;subst h;rfl
 ·rfl
theorem Fu{t e:TypeId}{fuel:Nat}{cs:LV_}{x:DataW H×List MemPlace}(ht:P.underlying t=some (.slice e))(he:P.underlying e=some (.int .i64))(hC:P.cellsOf e=1)(hB:P.bytesOf e=8)
 (h:DataW.trod enc P w base spare held fuel t cs=some x) (hz:∀ n∈x.1.weights P t,n<=reachBytes):
 ∃ (A:OA_) (c b o:Nat) (l:LI_),cs=[.slice A l.length c]/\(l≠[]->A=some ⟨b,o,none⟩)/\(aU.seg b o (aj l)).holds w/\(∀ n∈l,b9 n)/\l.length*8<=140737488351232:=by
 rcases open_ints ht he hC h with ⟨rfl,rfl⟩|⟨a,len,cap,zs,rfl,_,hl,_,hlz,rfl,hcell,hwf⟩
 ·exact⟨none,0,0,0,[],rfl,λ h=>absurd rfl h,λ i v hv=>by simp[aj] at hv,λ n hn=>(Nr hn).elim,ai⟩
 ·have hle:len≤zs.length:=by rw[hlz];split;· exact hl
                             ·exact Np _
  have hlen:(zs.take len).length=len:=by rw[ND];omega
  refine⟨some a,cap,a.block,a.off,zs.take len,by rw[hlen],λ hne=>?_,λ i v hv=>?_,λ n hn=>?_,?_⟩
  ·have hpos:0<len:=by
    rcases OW len with h0|h0
    ·exact absurd (by rw[h0];rfl) hne
    ·exact h0
   have:=hcell 0 aa;exact M8 some (tx (a:=a) (by simpa [Addr.add] using this))
  ·simp only[aj,List.getElem?_map,Option.map_eq_some_iff] at hv;obtain⟨n,hn,rfl⟩:=hv;have hi:i<len:=by have:=(List.getElem?_eq_some_iff.1 hn).1;omega
   have hn':zs[i]?=some n:=by rw[Pw] at hn;simpa [hi] using hn
   have h0:=hcell 0 aa;have ea:=tx (a:=a) (by simpa [Addr.add] using h0);have:=hcell i aa;rw[ea,FN] at this;rw[this];simp[List.getD,hn']
  ·have:=hwf n (Od hn);exact LT this
  ·have hw:=hz ((zs.take len).length*8+(zs.drop len).length*8) (by
    simp only[DataW.weights,ht,hB,lits,Nj,Nl]
    left
    rw[ON])
   have:reachBytes=140737488351232:=ab;omega
theorem opn_ints{r:Reach}{b0:Nat}{t e:TypeId}{v:Value}{d:DataW H}{p:List MemPlace}(ht:P.underlying t=some (.slice e))(he:P.underlying e=some (.int .i64))(hC:P.cellsOf e=1)(hB:P.bytesOf e=8)(hok:Value.okWide P w r b0 t v)
 (h:DataW.Trod enc P w base spare held t v d p) (hz:∀ n∈d.weights P t,n<=reachBytes):
 ∃ (A:OA_) (c b o:Nat) (l:LI_),v=.slice A l.length c/\(l≠[]->A=some ⟨b,o,none⟩)/\(aU.seg b o (aj l)).holds w/\(∀ n∈l,b9 n)/\l.length*8<=140737488351232:=by
 obtain⟨a,n,c,rfl⟩:=okWide_slice ht hok;obtain⟨fuel,hf⟩:=h;obtain⟨A,c',b,o,l,h1,h2⟩:=Fu ht he hC hB hf hz;refine⟨A,c',b,o,l,?_,h2⟩
 simpa [Value.cells] using h1
end
open Go.RowKit Go.ChangeShapes Go.WideShapes Go.Deep Go.Joins
section
variable {H:Type} {enc:TypeId×Value->H} {P:Program} {w:World} {base:Nat} {spare:Nat->Bool} {held:Bool}
theorem opn_strs{r:Reach}{b0:Nat}{t e:TypeId}{v:Value}{d:DataW H}{p:List MemPlace}(ht:P.underlying t=some (.slice e))(he:P.underlying e=some .string)(hC:P.cellsOf e=1)(hB:P.bytesOf e=16)(hok:Value.okWide P w r b0 t v)
 (h:DataW.Trod enc P w base spare held t v d p) (hz:∀ n∈d.weights P t,n<=reachBytes):
 ∃ (A:OA_) (c b o:Nat) (l:List (LU_)),v=.slice A l.length c/\(l≠[]->A=some ⟨b,o,none⟩)/\(aU.seg b o (Proofs.YtmcnpaelaieniaaGreatDoor.cj l)).holds w/\l.length*16<=140737488351232:=by
 obtain⟨a,n,c,rfl⟩:=okWide_slice ht hok;obtain⟨fuel,hf⟩:=h
 rcases open_strings ht he hC hf with ⟨hcs,_⟩|⟨a',len,cap,ss,hcs,_,hl,_,hlz,hx,hcell,_⟩
 ·refine⟨none,0,0,0,[],by simpa [Value.cells] using hcs,λ h=>absurd rfl h,λ i v hv=>by simp[Proofs.YtmcnpaelaieniaaGreatDoor.cj] at hv,ai⟩
 ·have hle:len≤ss.length:=by rw[hlz];split;· exact hl
                             ·exact Np _
  have hlen:(ss.take len).length=len:=by rw[ND];omega
  refine⟨some a',cap,a'.block,a'.off,(ss.take len).map (·.data.toList),?_,λ hne=>?_,λ i v hv=>?_,?_⟩
  ·rw[Nj,hlen];simpa [Value.cells] using hcs
  ·have hpos:0<len:=by
    rcases OW len with h0|h0
    ·exact absurd (by rw[h0];rfl) hne
    ·exact h0
   have:=hcell 0 aa;exact M8 some (tx (a:=a') (by simpa [Addr.add] using this))
  ·simp only[Proofs.YtmcnpaelaieniaaGreatDoor.cj,List.map_map,List.getElem?_map,Option.map_eq_some_iff] at hv;obtain⟨s,hs,rfl⟩:=hv;have hi:i<len:=by have:=(List.getElem?_eq_some_iff.1 hs).1;omega
   have hs':ss[i]?=some s:=by rw[Pw] at hs;simpa [hi] using hs
   have h0:=hcell 0 aa;have ea:=tx (a:=a') (by simpa [Addr.add] using h0);have:=hcell i aa;rw[ea,FN] at this;rw[this];simp[List.getD,hs',tD]
  ·rw[Nj,hlen];have hd:d=.slice (Go.ChangeShapes.strs (ss.take len)) (Go.ChangeShapes.strs (ss.drop len)):=M8 Prod.fst hx;subst hd
   have hw:=hz (len*16+(ss.length-len)*16) (by
    simp only[DataW.weights,ht,hB,Go.ChangeShapes.strs,Nj,ND,N5,Nl]
    left
    rw[OX hle,ON])
   have:reachBytes=140737488351232:=ab;omega
end
open Go.RowKit Go.ChangeShapes
def laidL:List (String×DataW Unit):=[("math/bits.deBruijn32tab",Rows.laid_math_bits_deBruijn32tab),("math/bits.deBruijn64tab",Rows.laid_math_bits_deBruijn64tab),("internal/strconv.uint64pow10",Rows.laid_internal_strconv_uint64pow10),("unicode/utf8.acceptRanges",Rows.laid_unicode_utf8_acceptRanges),("strconv.ErrRange",Rows.laid_strconv_ErrRange),("strconv.ErrSyntax",Rows.laid_strconv_ErrSyntax),("unicode/utf8.first",Rows.laid_unicode_utf8_first)]
theorem wi{W:World}{n:String}{g:Nat}{cs:Array Value}(hg:Tryz.prog.globalNamed n=some g)(h:W.var? Tryz.prog n=some cs):∃ t k,W.heap[g]?=some (.cells cs t k):=by
 unfold World.var? at h;rw[hg] at h;simp only[Option.bind_some] at h;split at h
 ·rename_i c t k he;obtain rfl:=NM h;exact⟨_,_,he⟩
 ·cases h
theorem libV_of{W:World}(h:laidMetH Tryz.prog laidL W)(hsh:W.ShapedOpen Tryz.prog):∃ V:LibV,lD W V.heap:=by
 rw[MakeChecks.laidMetH_plain _ _ _ aW] at h;obtain⟨m,hm⟩:=Tryz.laysM146.s1_3 W hsh;have gM:Tryz.prog.globalNamed "internal/bytealg.MaxLen" =some 0:=by kernel_rfl
 have gP:Tryz.prog.globalNamed "internal/strconv.uint64pow10" =some 3:=by kernel_rfl
 have gE:Tryz.prog.globalNamed "strconv.ErrRange" =some 5:=by kernel_rfl
 obtain⟨g1,t1,cs1,f1,p1,hg1,ht1,hv1,hd1⟩:=Lib.laidMet.reads h (n:= "internal/strconv.uint64pow10") (d:=Rows.laid_internal_strconv_uint64pow10) (by simp[laidL]);obtain⟨g2,t2,cs2,f2,p2,hg2,ht2,hv2,hd2⟩:=Lib.laidMet.reads h (n:= "strconv.ErrRange") (d:=Rows.laid_strconv_ErrRange) (by simp[laidL]);obtain rfl:=NM (gP.symm.trans hg1);obtain rfl:=NM (gE.symm.trans hg2);have tP:(Tryz.prog.globals[3]?).map (·.type)=some 264:=by kernel_rfl
 have tE:(Tryz.prog.globals[5]?).map (·.type)=some 118:=by kernel_rfl
 obtain rfl:=NM (tP.symm.trans ht1);obtain rfl:=NM (tE.symm.trans ht2);have c1:=Lib.cells_of_tab (k:=.u64) (zs:=Lib.pow10Tab) Tryz.underlying264 Tryz.underlying151 aW aW hd1;obtain⟨f3,u,v,c2,_,_⟩:=iface_of_trod Tryz.underlying118 hd2;obtain⟨tp1,k1,b1⟩:=wi gP hv1;obtain⟨tp2,k2,b2⟩:=wi gE hv2
 have b0:∃ cs t k,W.heap[0]?=some (.cells cs t k)/\cs[0]?=some (af m):=by
  have hm':W.cell? ⟨0,0,none⟩=some (af m):=hm;unfold World.cell? at hm';simp only[Option.isSome_none,P2,PH] at hm';split at hm'
  ·rename_i cs t k he;exact⟨_,_,_,he,hm'⟩
  all_goals cases hm'
 obtain⟨cs0,t0,k0,h0,e0⟩:=b0;refine⟨⟨.cells cs0 t0 k0,.cells cs1 tp1 k1,.cells cs2 tp2 k2,m,u,v,⟨_,_,_,rfl,e0⟩,⟨tp1,k1,?_⟩,⟨tp2,k2,?_⟩⟩,⟨h0,b1,b2,be⟩⟩
 ·rw[<- c1]
 ·obtain⟨l2⟩:=cs2;have:l2=[.iface u v]:=c2;rw[this]
section
variable {H:Type} {enc:TypeId×Value->H}
theorem returns_card{a:Assume}{C:Checked}{os:Os}{f:FuncId}{fn:Func}{s:ChangeSpec}{conds:List PathCond}{apart fresh handsOn again:Bool}{X:World->Array Value->Prop}
 (hX:∀ (w w':World) (args:Array Value),w.heap=w'.heap->X w args->X w' args)
 (own:ownKnob C.prog.godebug=none) (started:os.Started) (noInit:C.prog.inits.idxOf? f=none) (hfn:C.prog.funcs[f]?=some fn)
 (witness:∃ (w:World) (tape:Tape) (i:Input),w.os=os/\(w.forCall tape i).Shaped C.prog/\i.vars=[]/\Input.okWide C.prog (w.forCall tape i) .any w.heap.size f i/\
  ((s.pre enc C.prog fn conds apart (w.forCall tape i).memory i.args/\X (w.forCall tape i).memory i.args)/\sizedMet enc C.prog fn (OpenSpec.ofChange s) apart (w.forCall tape i).memory i.args)/\a.holds C.prog (lone (Frame.enter C.prog f i.args .normal) [] (w.forCall tape i)))
 (contract:∀ (W:World) (base:Nat) (args:Array Value) (ds gs:List (DataW H)) (before:List MemPlace),
  (∀ (j:Nat) t v,fn.params[j]?=some t->args[j]?=some v->Value.okWide C.prog W .any base t v)->
  DataW.Whole enc C.prog fn.params.toList s.vars apart W args.toList ds gs before->
  conds.all (PathCond.test C.prog ⟨fn.params.toList,ds,s.plain.varTypes C.prog,gs⟩)=true->
  (DataW.weightsEach C.prog (fn.params.toList++s.plain.varTypes C.prog) (ds++gs)).all (·<=reachBytes)=true->X W args->W.ShapedOpen C.prog->
  a.holds C.prog (lone (Frame.enter C.prog f args .normal) [] W)->
  Calls C.prog f args W λ e W'=>∃ v,e=.returned v/\s.post enc C.prog fn apart fresh handsOn again W args v W'):
 ReturnsInHanded a C os f .any (λ w args=>(s.pre enc C.prog fn conds apart w args/\X w args)/\sizedMet enc C.prog fn (OpenSpec.ofChange s) apart w args) (s.post enc C.prog fn apart fresh handsOn again):=by
 refine returnsInHanded_of_calls own started noInit witness ?_;intro w tape i _ hsh _ hok hpre hholds;obtain⟨_,_,_,fn',hfn',_,_,_,_,hval⟩:=hok;have e:fn'=fn:=NM (hfn'.symm.trans hfn);subst e;obtain⟨⟨⟨ds,gs,before,hw,hc⟩,hx⟩,hz⟩:=hpre;have hw':=DataW.Whole.of_heap (w':=w.forCall tape i) (by rfl) hw;refine (contract (w.forCall tape i) w.heap.size i.args ds gs before hval hw' hc (hz.weights hw) (hX _ _ _ (by rfl) hx) hsh hholds).mono λ e W' ⟨v,he,hp⟩=>?_;subst he;exact ChangeSpec.post_blind hp
end
end Go.Proofs.YtmcnpaelaieniaaGreatDoor
