import Derived.Test.YtmcnpaelaieniaaGreatDoorQX109
/- A part of the proof. -/
set_option linter.unusedVariables false
set_option linter.unusedSimpArgs false
set_option maxHeartbeats 8000000
namespace Go.Proofs.YtmcnpaelaieniaaGreatDoor
open Go.RowKit
open Lib
open Lib
theorem u5:∀ (n:Nat) (a b:LI_),a.length=2*n->dZ (a++b)=dZ a++dZ b
 |0,a,b,h=>by rw[Nw.1 (show a.length=0 by omega)];rfl
 |n+1,[],_,h=>by simp at h
 |n+1,[_],_,h=>by simp at h;omega
 |n+1,x::y::a,b,h=>by
  have:=u5 n a b (by simp only[Nf] at h;omega);show (⟨x,y⟩:np)::dZ (a++b)=⟨x,y⟩::dZ a++dZ b;rw[this];rfl
theorem x9{D:LI_}{k:Nat}{x y:Int}(hx:D[2*k]?=some x)(hy:D[2*k+1]?=some y):dZ (D.take (2*(k+1)))=dZ (D.take (2*k))++[⟨x,y⟩]:=by
 have h1:D.take (2*(k+1))=D.take (2*k)++[x,y]:=by
  rw[show 2*(k+1)=2*k+1+1 by omega,Nv,hy,Nv,hx];simp
 have hl:=(Nb.1 hx).1;rw[h1,u5 k _ _ (by rw[ND];omega)];rfl
theorem sN:∀ (n:Nat) (a:LI_),a.length=2*n->(dZ a).length=n
 |0,a,h=>by rw[Nw.1 (show a.length=0 by omega)];rfl
 |n+1,[],h=>by simp at h
 |n+1,[_],h=>by simp at h;omega
 |n+1,x::y::a,h=>by
  have:=sN n a (by simp only[Nf] at h;omega);show (dZ a).length+1=n+1;rw[this]
def Mw(pp p:Nat)(m:cO)(t:bP)(ba bf bs:Nat)(bb ob:Nat)(ws:Ws)(V:LibV):Heap:=[.seg bb ob (cj ws)]++(eO pp p m t ba bf bs++V.heap)
theorem Ev(V:LibV)(pp p:Nat)(m:cO)(t:bP)(ba bf bs:Nat)(ws:Ws)(hwl:ws.length<=3000)(hwe:∀ x∈ws,x.length<=10000000)(B:OA_)(n cb bb ob:Nat)(hB:ws≠[]->B=some ⟨bb,ob,none⟩)(hn:n=ws.length)(hnc:n<=cb):
 Fn 70 [.pointer (some ⟨pp,0,none⟩),.slice B n cb] [] (Mw pp p m t ba bf bs bb ob ws V) λ v H'=>∃ o,ia ws o/\GE o v H':=by
 subst hn;show Fn _ _ _ [.seg bb ob (cj ws),.seg pp 0 [ap p 0,du t],.seg p 0 m.cells,.seg ba 0 (arcs m.N.arcs),.seg bf 0 (aj m.f),.seg bs 0 (aj m.s),.tab 0 V.oM,.tab 3 V.oP,.tab 5 V.oE] _;refine aT Tryz.func70 λ w0=>?_;refine cW ?_;by_cases h3:ws.length<3
 ·refine d7 15 rfl aa<|dY ?_;refine ah<|dy ?_;refine pA ?_;rintro v H' ⟨A2,c2,rfl,rfl⟩;refine aN ?_;refine aL [0] ⟨_,rfl,eH,?_,A2,c2,rfl,rfl⟩;unfold ia;rw[if_pos (.inl h3)]
 have h3':=h3
 obtain⟨w0,T,rfl,hTl⟩:∃ w0 T,ws=w0::T/\2<=T.length:=by
  cases ws with
  |nil=>exact absurd (Nat.zero_lt_succ 2) h3
  |cons a r=>exact⟨a,r,rfl,by simp only[Nf] at h3;omega⟩
 obtain rfl:=hB ai;refine dD 15 rfl aa<|dY ?_;refine ae [3] (v:=ap bb (ob+0)) (hU (m:=0) rfl ai) rfl<|ae [3] (v:=du w0) (a7 (i:=0) 0 rfl rfl rfl) rfl<|dY ?_;by_cases h1:w0.length≠1
 ·refine d7 21 rfl (by rw[da];omega)<|ah<|dy ?_;refine pA ?_;rintro v H' ⟨A2,c2,rfl,rfl⟩;refine aN ?_;refine aL [0] ⟨_,rfl,eH,?_,A2,c2,rfl,rfl⟩;unfold ia;rw[if_pos (.inr (.inl h1))]
 have h1:w0.length=1:=Nn.1 h1;refine dD 21 rfl (by rw[da];omega)<|ah<|bu rfl (ag ?_)
 obtain⟨b0,rfl⟩:∃ b0,w0=[b0]:=by
  match w0,h1 with
  |[b0],_=>exact⟨b0,rfl⟩
 simp only[Nf] at hwl hnc;refine B1 ?_;refine aB 25 (v':=.slice (fT (aJ bb ob) cb 1 1) T.length (cb-1)) rfl (by show Value.slice _ _ _=_;simp) ?_
 refine bj [] (fM V T (λ y hy=>hwe y (by simp[hy])) aa (fT (aJ bb ob) cb 1 1) T.length (cb-1) bb (ob+1) (λ hne=>by
  rw[e8 (b:=bb) (o:=ob) (n:=T.length+1) aE aa aa]) rfl) rfl rfl rfl rfl aW ⟨gC 0 rfl (dI (bn bb ob (cj ([b0]::T))) 1) (.inr rfl),⟨6,ai,rfl⟩,⟨7,ai,rfl⟩,⟨8,ai,rfl⟩,be⟩ aE ?_
 rintro v H' ⟨An,cn,rfl,rfl⟩;refine ef ?_
 cases hok:sS T with
 |false=>
  refine aI ?_;refine ic ?_;refine ah<|dy ?_;refine pA ?_;rintro v H' ⟨A2,c2,rfl,rfl⟩;refine aN ?_;refine aL [0] ⟨_,rfl,eH,?_,A2,c2,rfl,rfl⟩;unfold ia;rw[if_pos (.inr (.inr (.inl (vc hok))))]
 |true=>
 have hq0:=gR hok;have hLl:=(oO hq0).1;have hLi:=lo (ws:=T)
 generalize hL:(aS T).1=L at hLl hLi ⊢
 refine aI ?_;refine ic ?_
 have htm:(L.length:Int).tmod 2=((L.length%2:Nat):Int):=by
  rw[Int.tmod_eq_emod_of_nonneg aa];omega
 by_cases hev:L.length%2≠0
 ·refine d7 36 rfl (by rw[htm];omega)<|ah<|dy ?_;refine pA ?_;rintro v H' ⟨A2,c2,rfl,rfl⟩;refine aN ?_;refine aL [0] ⟨_,rfl,eH,?_,A2,c2,rfl,rfl⟩;unfold ia;rw[if_pos (.inr (.inr (.inr (by show (aS T).1.length%2≠0;rw[hL];exact hev))))]
 have hev:L.length%2=0:=Nn.1 hev;refine dD 36 rfl (by rw[htm];omega)<|ah<|bu rfl (ag ?_);have hL2:2<=L.length:=aa;refine aP (aH 0 rfl) λ ⟨_,_,hAn0,hAl⟩=>?_;obtain⟨gn,rfl⟩:=hAn0 aa;obtain⟨x0,hx0⟩:∃ x,L[0]?=some x:=⟨_,an aa⟩;obtain⟨x1,hx1⟩:∃ x,L[1]?=some x:=⟨_,an aa⟩
 have hgr:fX L=⟨x0,x1,dZ (L.drop 2)⟩:=by
  unfold fX;rw[Nc,Nc,hx0,hx1];rfl
 refine cA ?_;refine bK 9 (dS [0,1,2,3,4,5,6]++[(7,false),(8,false)]) [0,1,2,7,8,9] aW ab rfl<|a6 ?_;refine bc (v:=ap gn 0) rfl (bG (m:=0) rfl aa) ?_;refine bc (v:=af x0) rfl (aA 0 rfl rfl rfl (b7 hx0)) ?_;refine a6 ?_;refine bc (v:=ap gn 1) rfl (bG (m:=1) rfl aa) ?_;refine bc (v:=af x1) rfl (aA 0 rfl rfl rfl (b7 hx1)) ?_;refine za ?_;refine dM λ p7=>?_;refine bZ [1,2,3,8,9,10]<|cz ?_;refine dz 0 ?_;refine bZ [1,2,3,8,9,10]<|cP<|dw ?_;refine gz ?_;obtain⟨D,hD⟩:∃ D,D=L.drop 2:=⟨_,rfl⟩;have hDl:D.length=L.length-2:=by rw[hD,N5]
 have hDg:∀ i,D[i]?=L[2+i]?:=λ i=>by rw[hD,Og]
 rw[<- hD] at hgr;refine b6 180 2 ?_
 refine bS (σ:=Nat×OA_×Nat) (λ q=>[(8,af ((2+2*q.1:Nat):Int)),(7,ap p7 0),(5,ax gn 0 L.length cn),(0,ap pp 0),(1,ax bb ob ([b0]::T).length cb)])
  (λ q=>[.own (.slice q.2.1 (dZ (D.take (2*q.1))).length q.2.2) 180 2 (dZ (D.take (2*q.1))).length (fL (dZ (D.take (2*q.1)))),blk p7 178 [af x0,af x1,.slice q.2.1 (dZ (D.take (2*q.1))).length q.2.2],.own (ax gn 0 L.length cn) 2 1 L.length (aj L),.seg bb ob (cj ([b0]::T)),.seg pp 0 [ap p 0,du t],.tab 0 V.oM,.tab 3 V.oP,.tab 5 V.oE])
  (λ q=>2*q.1<=D.length) (λ q=>D.length-2*q.1) (0,none,0) [0,1,2,3,4,9,10,11] a8 ab rfl (Nk _) ?_
 rintro⟨k,Ae,ce⟩ hk;simp only at hk ⊢;have hEl:=sN k (D.take (2*k)) (by rw[ND];omega);refine ao ?_;refine ak rfl (λ hlt=>ag ?_) (λ hge=>aO ?_)
 ·have hlt:2+2*k<L.length:=by omega
  obtain⟨y0,hy0⟩:∃ y,L[2+2*k]?=some y:=⟨_,an hlt⟩;obtain⟨y1,hy1⟩:∃ y,L[2+2*k+1]?=some y:=⟨_,an aa⟩;have hst:=x9 (D:=D) (k:=k) (by rw[hDg];exact hy0) (by rw[hDg];exact hy1);refine am (au ?_);refine cA ?_;refine bK 15 (dS [0,1,2,3,4,5,6,7,8,9,10,11]++[(12,false),(13,false)]++dS [14]) [1,2] aW ab rfl<|a6 ?_;refine bc (v:=.slice Ae (dZ (D.take (2*k))).length ce) rfl (ad 0 rfl) ?_;refine a6 ?_;refine bc (v:=ap gn (2+2*k)) rfl (bG rfl hlt) ?_;refine bc (v:=af y0) rfl (aA 1 rfl rfl rfl (b7 hy0)) ?_;refine a6 ?_;refine dG 59 (v':=af ((2+2*k+1:Nat):Int)) rfl (M8 (Value.int .i64) (cv aa))<|bc (v:=ap gn (2+2*k+1)) rfl (bG rfl aa) ?_;refine bc (v:=af y1) rfl (aA 1 rfl rfl rfl (b7 hy1)) ?_;refine za ?_;refine dp λ g=>?_;refine bZ [2,3]<|cz ?_;refine bp (n:=(dZ (D.take (2*k))).length) (off:=0) (m:=1) (news:=fL [⟨y0,y1⟩]) 1 0 rfl rfl rfl rfl rfl rfl ab rfl rfl (aQ g _ _ (0,0)) aE rfl rfl aa aa (λ _ _=>rfl) λ A2 c2=>bZ [2,3]<|a6 ?_;refine cP<|dz 2 ?_;refine dw ?_;refine⟨(k+1,A2,c2),[1,2,3,4,5,6,7,8],⟨?_,rfl,rfl,rfl,rfl,be⟩,ab,?_,by simp only;omega,by simp only;omega⟩
  ·refine M8 (λ z=>some (af z)) ((cv aa).trans ?_);omega
  ·simp only[hst];rw[FO,Ng];rfl
 have hkk:2*k=D.length:=by
  have:¬ 2+2*k<L.length:=aa;omega
 rw[hkk,NH] at*;have hgf:(fX L).Fits:=pT hLi aa;have hge:(fX L).edges=dZ D:=by rw[hgr]
 refine aP (aH 0 rfl) λ ⟨_,_,hAe0,hAel⟩=>?_;obtain⟨ge,hAe⟩:=bo hAe0 hAel;have hAe':(fX L).edges≠[]->Ae=aJ ge 0:=λ h=>hAe (λ h0=>h (by rw[hge];exact Nw.1 (by have:=sE (dZ D);rw[h0] at this;simp at this;omega)));have hgv:Value.agg #[af x0,af x1,.slice Ae (dZ D).length ce]=xj (fX L) Ae ce:=by rw[hgr];rfl
 have hseg:aU.seg ge 0 (fL (fX L).edges)=aU.seg ge 0 (fL (dZ D)):=by rw[hge]
 refine iB (σ:={ q:(Int×LI_×LI_×LI_)×(OA_×OA_×OA_)×(Nat×Nat×Nat)×Nat//nY (fX L) (b0.toNat:Int) q.1.1 q.1.2.1/\(q.1.1=0->BD (fX L) q.1.2.1 q.1.2.2.1 q.1.2.2.2)/\(q.1.1≠0->q.1.2.2.1=[]/\q.1.2.2.2=[])/\q.1.2.2.1.length<=200/\q.1.2.2.2.length<=200/\q.1.2.1.length<=1500 })
  (λ q=>[(9,.slice q.1.2.1.1 q.1.1.2.1.length q.1.2.2.1.1),(10,ap q.1.2.2.2 0),(11,af q.1.1.1)])
  (λ q=>[blk q.1.2.2.2 182 [.slice q.1.2.1.2.1 q.1.1.2.2.1.length q.1.2.2.1.2.1,.slice q.1.2.1.2.2 q.1.1.2.2.2.length q.1.2.2.1.2.2],.own (.slice q.1.2.1.1 q.1.1.2.1.length q.1.2.2.1.1) 3 1 q.1.1.2.1.length (aj q.1.1.2.1),.own (.slice q.1.2.1.2.1 q.1.1.2.2.1.length q.1.2.2.1.2.1) 3 1 q.1.1.2.2.1.length (aj q.1.1.2.2.1),.own (.slice q.1.2.1.2.2 q.1.1.2.2.2.length q.1.2.2.1.2.2) 3 1 q.1.1.2.2.2.length (aj q.1.1.2.2.2),.tab 0 V.oM,.tab 3 V.oP,.tab 5 V.oE]) ?_ ?_
 ·refine lz (Sf:=[.seg pp 0 [ap p 0,du t],blk p7 178 [af x0,af x1,.slice Ae (dZ D).length ce],.seg bb ob (cj ([b0]::T))])<|jY [0,1,2,3,4,5,6,7,8] bC [4,1,3] ab rfl<|m8 ?_;refine aF [999] (v:=ap p 0) rfl (a7 (i:=0) 0 rfl rfl rfl) rfl<|aF [999] (v:=xj (fX L) Ae ce) rfl (by rw[← hgv];exact ad 1 rfl) rfl<|m8 ?_;refine aF [999] (v:=ap bb (ob+0)) rfl (hU (m:=0) rfl ai) rfl<|aF [999] (v:=du [b0]) rfl (a7 (i:=0) 2 rfl rfl rfl) rfl<|aF [999] (v:=.int .u8 (b0.toNat:Int)) rfl (xe (i:=0) rfl rfl rfl rfl rfl) rfl<|cP<|av 9 [14] bC ab ⟨⟨_,rfl,?_⟩,⟨_,rfl,?_⟩,trivial⟩
  ·refine fh (fst:=[]) (cap:=[]) (wx (b0.toNat:Int) (fX L) hgf Ae ce ge 0 hAe' (ap p 0)) rfl ⟨gC 0 rfl (by rw[hge];exact bi hAe) (by rw[hge];exact bO hAe),be⟩ ?_;rintro v H' ⟨e,l,sl,sr,A1,Al,Ar,c1,cl,cr,h1,h2,h3,h4,h5,h6,rfl,rfl⟩;refine ah ⟨⟨[7,4,6],by decide,rfl⟩,?_⟩;refine jY [10,11,12,13] bC [7,4,6] ab rfl<|m8 ?_;refine cP<|av 14 [] bC ab ⟨⟨_,rfl,?_⟩,be⟩;refine dM λ p10=>?_;refine ah ⟨⟨[8,5,7],by decide,rfl⟩,?_⟩;refine av 15 [] bC ab ⟨⟨_,rfl,?_⟩,be⟩;refine c8 [] rfl ⟨⟨[8,5,7],ab,rfl⟩,?_⟩;refine av 16 [] bC ab ⟨⟨_,rfl,?_⟩,be⟩;refine dz 0 ?_;refine ah ⟨⟨[8,5,7],by decide,rfl⟩,?_⟩;refine av 17 [] bC ab ⟨⟨_,rfl,?_⟩,be⟩;refine c8 [] rfl ⟨⟨[8,5,7],ab,rfl⟩,?_⟩;exact fb bC ⟨⟨((e,l,sl,sr),(A1,Al,Ar),(c1,cl,cr),p10),h1,λ h=>(h2 h).2.2,h3,h4,h5,h6⟩,a8,aw.picks [0,1,2,3,9,10,11] ab rfl⟩
  ·refine dM λ p10=>?_;refine ah ⟨⟨[5,2,4],by decide,rfl⟩,?_⟩;refine av 9 [] bC ab ⟨⟨_,rfl,?_⟩,be⟩;refine fh (fst:=[]) (cap:=[]) (wx (b0.toNat:Int) (fX L) hgf Ae ce ge 0 hAe' (ap p 0)) rfl ⟨gC 1 rfl (by rw[hge];exact bi hAe) (by rw[hge];exact bO hAe),be⟩ ?_;rintro v H' ⟨e,l,sl,sr,A1,Al,Ar,c1,cl,cr,h1,h2,h3,h4,h5,h6,rfl,rfl⟩;refine ah ⟨⟨[8,5,7],by decide,rfl⟩,?_⟩;refine jY [10,11,12,13] bC [8,5,7] ab rfl<|m8 ?_;refine cP<|av 15 [] bC ab ⟨⟨_,rfl,?_⟩,be⟩;refine c8 [] rfl ⟨⟨[8,5,7],ab,rfl⟩,?_⟩;refine av 16 [] bC ab ⟨⟨_,rfl,?_⟩,be⟩;refine dz 3 ?_;refine ah ⟨⟨[8,5,7],by decide,rfl⟩,?_⟩;refine av 17 [] bC ab ⟨⟨_,rfl,?_⟩,be⟩;refine c8 [] rfl ⟨⟨[8,5,7],ab,rfl⟩,?_⟩;exact fb bC ⟨⟨((e,l,sl,sr),(A1,Al,Ar),(c1,cl,cr),p10),h1,λ h=>(h2 h).2.2,h3,h4,h5,h6⟩,a8,aw.picks [3,0,1,2,9,10,11] ab rfl⟩
 rintro⟨⟨⟨e,l,sl,sr⟩,⟨A1,Al,Ar⟩,⟨c1,cl,cr⟩,p10⟩,h1,h2,h3,h4,h5,h6⟩;simp only at h1 h2 h3 h4 h5 h6 ⊢;have hpc:=vK h1;obtain⟨g1,g2,g3⟩:=h1.good hgf
 obtain⟨b1,b2,b3⟩:(∀ x∈l,b9 x)/\(∀ x∈sl,b9 x)/\(∀ x∈sr,b9 x):=by
  by_cases he:e=0
  ·obtain⟨hGR,hM,_⟩:=g3 he;have hc:=h2 he;exact⟨vu hgf hM,λ x hx=>by have:=hc.isl.rng x hx;have:=hGR.left;unfold b9;omega,λ x hx=>by have:=hc.isr.rng x hx;have:=hGR.right;unfold b9;omega⟩
  ·obtain⟨rfl,rfl⟩:=h3 he;obtain rfl:=g2 he;exact⟨λ x hx=>absurd hx Nr,λ x hx=>absurd hx Nr,λ x hx=>absurd hx Nr⟩
 refine aP (aH 1 rfl) λ ⟨_,_,hy1,hz1⟩=>?_;obtain⟨u1,hu1⟩:=bo hy1 hz1;refine aP (aH 2 rfl) λ ⟨_,_,hy2,hz2⟩=>?_;obtain⟨u2,hu2⟩:=bo hy2 hz2;refine aP (aH 3 rfl) λ ⟨_,_,hy3,hz3⟩=>?_;obtain⟨u3,hu3⟩:=bo hy3 hz3;refine cA ?_;refine bK 12 (dS [0,1,3,4,6,7]++[(2,false),(5,false),(8,false),(9,false),(10,false)]++dS [11]) [0] aW ab rfl<|a6 ?_;refine bc (v:=.slice Al sl.length cl) rfl (ad 0 rfl) ?_;refine a6 ?_;refine bc (v:=.slice Ar sr.length cr) rfl (ad 0 rfl) ?_;refine cz ?_;refine dB (xT V [112,97,105,114,115] ab l b1 aa A1 _ c1 u1 0 (dN hu1) rfl) rfl ⟨gy 1 rfl hu1,⟨4,ai,rfl⟩,⟨5,ai,rfl⟩,⟨6,ai,rfl⟩,be⟩ ?_;refine jH ?_;refine⟨rfl,bZ [0] ?_⟩;refine cz ?_;refine dB (xT V [108,101,102,116] ab sl b2 aa Al _ cl u2 0 (dN hu2) rfl) rfl ⟨gy 2 rfl hu2,⟨4,ai,rfl⟩,⟨5,ai,rfl⟩,⟨6,ai,rfl⟩,be⟩ ?_;refine jH ?_;refine⟨rfl,bZ [0] ?_⟩;refine cz ?_;refine dB (xT V [114,105,103,104,116] ab sr b3 aa Ar _ cr u3 0 (dN hu3) rfl) rfl ⟨gy 3 rfl hu3,⟨4,ai,rfl⟩,⟨5,ai,rfl⟩,⟨6,ai,rfl⟩,be⟩ ?_;refine jH ?_;refine⟨rfl,bZ [0] ?_⟩;refine cz ?_;refine dp λ g9=>?_;refine lH 1 3 (by rfl) ab<|bZ [1]<|cz ?_;refine dB (jy V e hpc.inB (aJ g9 0) 3 3) rfl ⟨⟨5,ai,rfl⟩,⟨6,ai,rfl⟩,⟨7,ai,rfl⟩,be⟩ ?_
 have hok2:∀ o,o=cL e [gG [112,97,105,114,115] l,gG [108,101,102,116] sl,gG [114,105,103,104,116] sr]->ia ([b0]::T) o:=λ o ho=>by
  unfold ia
  rw[if_neg (by
   rintro (h|h|h|h)
   ·exact h3' h
   ·exact h rfl
   ·exact h hq0
   ·exact h (by show (aS T).1.length%2=0;rw[hL];exact hev))]
  refine⟨e,l,sl,sr,?_,?_,h3,h4,h5,h6,ho⟩
  ·show nY (fX (aS T).1) _ e l;rw[hL];exact h1
  ·show e=0->BD (fX (aS T).1) l sl sr;rw[hL];exact h2
 rintro v H' (⟨h0,rfl,rfl⟩|⟨h0,A2,c2,rfl,rfl⟩)
 ·refine⟨rfl,bZ [1] ?_⟩;refine iA ?_;refine aL [0] ⟨_,rfl,_,hok2 _ rfl,aJ g9 0,3,?_,?_⟩
  ·unfold cL;rw[if_neg (λ h=>h h0)];rfl
  ·unfold cL;rw[if_neg (λ h=>h h0)];rfl
 ·refine⟨rfl,bZ [2] ?_⟩;refine iA ?_;refine aL [0] ⟨_,rfl,_,hok2 _ rfl,A2,c2,?_,?_⟩
  ·unfold cL;rw[if_pos h0];rfl
  ·unfold cL;rw[if_pos h0]
open Lib
theorem AQ(V:LibV)(pp p:Nat)(m:cO)(t line:bP)(T:Ws)(hwe:∀ x∈T,x.length<=10000000)(hTl:T.length<=3000)(cb bb ob:Nat)(hnc:T.length+1<=cb):
 Fn 36 [.pointer (some ⟨pp,0,none⟩),du line,.slice (some ⟨bb,ob,none⟩) (T.length+1) cb] (ay (bN pp p m t)) (lf bb ob [112,97,105,114,115] T V++bN pp p m t) (vy pp p λ o q' t'=>t'=t/\q'=m.sta/\ia T o):=by
 generalize hM:ay _=M
 refine aT Tryz.func36 λ w0=>?_;refine we ?_
 refine bj [] (fM V T (λ y hy=>hwe y hy) aa (fT (aJ bb ob) cb 1 1) T.length (cb-1) bb (ob+1) (λ hne=>by
  have:=NP.2 hne;rw[e8 (b:=bb) (o:=ob) (n:=T.length+1) aE aa aa]) rfl) rfl rfl rfl rfl aW ⟨⟨0,_,by simp[LibV.heap],rfl,dI (bn bb ob (cj ([112,97,105,114,115]::T))) 1,.inr rfl⟩,⟨1,by simp[LibV.heap],rfl⟩,⟨2,by simp[LibV.heap],rfl⟩,⟨3,by simp[LibV.heap],rfl⟩,be⟩ aE ?_
 rintro v H' ⟨An,cn,rfl,rfl⟩;refine wM ?_;refine aG (v:=du [112,97,105,114,115]) (a7 (i:=0) 1 rfl rfl rfl) ?_;refine Im ?_;refine lF 75 [115,111,108,118,101] ?_;refine fD ?_;refine sY 105 [112,97,105,114,115] ?_;refine dy ?_;refine aP (aH 7 rfl) λ ⟨_,_,hB1,hn1⟩=>?_;obtain⟨w1,hB1⟩:=bo hB1 hn1;refine aP (aH 8 rfl) λ ⟨_,_,hB2,hn2⟩=>?_;obtain⟨w2,hB2⟩:=bo hB2 hn2;refine aP (aH 9 rfl) λ ⟨_,_,hB3,hn3⟩=>?_;obtain⟨w3,hB3⟩:=bo hB3 hn3;refine B1 ?_;refine aB 109 (v':=.slice (fT (aJ bb ob) cb 1 1) T.length (cb-1)) rfl (by show Value.slice _ _ _=_;simp) ?_
 refine bj [] (Ev V pp p m t w1 w2 w3 T hTl hwe (fT (aJ bb ob) cb 1 1) T.length (cb-1) bb (ob+1) (λ hne=>by
  have:=NP.2 hne;rw[e8 (b:=bb) (o:=ob) (n:=T.length+1) aE aa aa]) rfl aa) rfl rfl rfl rfl aW ⟨gC 1 rfl (dI (bn bb ob (cj ([112,97,105,114,115]::T))) 1) (.inr rfl),en 5 rfl,en 6 rfl,gy 7 rfl hB1,gy 8 rfl hB2,gy 9 rfl hB3,⟨2,ai,rfl⟩,⟨3,ai,rfl⟩,⟨4,ai,rfl⟩,be⟩ aE ?_
 rintro v H' ⟨o,ho,A2,c2,rfl,rfl⟩;refine ef ?_;exact aL [0,6,7,8,9,10] ⟨_,rfl,o,m,t,A2,c2,⟨rfl,rfl,ho⟩,rfl,rfl⟩
theorem mM(V:LibV)(pp p:Nat)(m:cO)(t line w:bP)(n1:w≠[124])(n2:w≠[102,108,111,119])(n3:w≠[99,117,116])(n4:w≠[115,111,108,118,101])(n5:w≠[112,97,105,114,115]){R:List bP->c9->bP->Prop}
 (TA:Fn 71 [.pointer (some ⟨pp,0,none⟩),du w] (ay (bN pp p m t)) (V.heap++bN pp p m t) (vy pp p R)) (cb bb ob:Nat) (hnc:1<=cb):
 Fn 36 [.pointer (some ⟨pp,0,none⟩),du line,.slice (some ⟨bb,ob,none⟩) 1 cb] (ay (bN pp p m t)) (lf bb ob w [] V++bN pp p m t) (vy pp p R):=by
 have T:Ws:=[];have hwe:∀ x∈([]:Ws),x.length<=10000000:=λ x h=>absurd h Nr;have hM2:=hnc
 generalize hM:ay _=M at TA ⊢
 refine aT Tryz.func36 λ w0=>?_;refine cW ?_;refine aG (f0 (i:=1) rfl rfl rfl rfl rfl ab) ?_;refine fh (fM V [] hwe ai _ 0 (cb-1) 0 0 (λ hne=>absurd rfl hne) rfl) rfl ⟨⟨0,_,by simp[lf,LibV.heap],rfl,gW,.inl rfl⟩,⟨1,by simp[lf,LibV.heap],rfl⟩,⟨2,by simp[lf,LibV.heap],rfl⟩,⟨3,by simp[lf,LibV.heap],rfl⟩,be⟩ ?_;rintro v H' ⟨An,cn,rfl,rfl⟩;refine ew ?_;refine aG (v:=ap bb (ob+0)) (hU (m:=0) rfl ab) ?_;refine HL ?_;refine ak rfl (λ _=>?_) (λ h=>absurd rfl h);refine aI ?_;refine aG (v:=ap bb (ob+0)) (hU (m:=0) rfl ab) ?_;refine aG (v:=du w) (a7 (i:=0) 1 rfl rfl rfl) ?_;subst hM;refine bJ (fst:=[]) (cap:=[]) [] TA rfl rfl rfl rfl aW (K:=V.heap) (aw.picks [5,6,7,8,9,2,3,4] ab rfl) ⟨⟨0,ai,rfl⟩,⟨1,ai,rfl⟩,⟨2,ai,rfl⟩,be⟩ aE ?_;rintro v H' ⟨o,m',t',A2,c2,h,rfl,rfl⟩;refine ef ?_;exact aL [0,1,2,3,4,5] ⟨_,rfl,o,m',t',A2,c2,h,rfl,rfl⟩
theorem AX(V:LibV)(pp p:Nat)(m:cO)(t line w:bP)(n1:w≠[124])(n2:w≠[102,108,111,119])(n3:w≠[99,117,116])(n4:w≠[115,111,108,118,101])(n5:w≠[112,97,105,114,115])(T:Ws)(hT:T≠[])(hwe:∀ x∈T,x.length<=10000000)(hTl:T.length<=3000)(cb bb ob:Nat)(hnc:T.length+1<=cb):
 Fn 36 [.pointer (some ⟨pp,0,none⟩),du line,.slice (some ⟨bb,ob,none⟩) (T.length+1) cb] (ay (bN pp p m t)) (lf bb ob w T V++bN pp p m t) (vy pp p λ o q' t'=>q'=m.sta/\t'=t/\o=eH):=by
 have hpos:=NP.2 hT
 generalize hM:ay _=M
 refine aT Tryz.func36 λ w0=>?_;refine we ?_
 refine bj [] (fM V T (λ y hy=>hwe y hy) aa (fT (aJ bb ob) cb 1 1) T.length (cb-1) bb (ob+1) (λ hne=>by
  have:=NP.2 hne;rw[e8 (b:=bb) (o:=ob) (n:=T.length+1) aE aa aa]) rfl) rfl rfl rfl rfl aW ⟨⟨0,_,by simp[LibV.heap],rfl,dI (bn bb ob (cj (w::T))) 1,.inr rfl⟩,⟨1,by simp[LibV.heap],rfl⟩,⟨2,by simp[LibV.heap],rfl⟩,⟨3,by simp[LibV.heap],rfl⟩,be⟩ aE ?_
 rintro v H' ⟨An,cn,rfl,rfl⟩;refine wM ?_;refine HL ?_;refine ak rfl (λ h=>absurd h aa) (λ _=>ag ?_);refine cA ?_;refine pA ?_;rintro v H' ⟨A2,c2,rfl,rfl⟩;refine aN ?_;refine aL [0,6,7,8,9,10] ⟨_,rfl,eH,m,t,A2,c2,?_,rfl,rfl⟩;exact gY
open Lib
def z6:aR:=⟨2,1,2,[⟨1,2,5⟩]⟩
theorem si:z6.Right:=⟨ab,ab,ab,ab,ab,by
 intro a ha;rw[Nh.1 ha]
 decide,ab⟩
def Mb:List bP:=[[124,32,112,32,109,97,120,32,50,32,49],[124,32,110,32,49,32,115],[124,32,110,32,50,32,116],[124,32,97,32,49,32,50,32,53]]
def Me:List bP:=[[108,111,97,100],[115,111,108,118,101,32,116],[99,104,101,99,107]]
def M2:bP:=[105,116,101,109,115]
def MG:bP:=[118,97,108,117,101,32,53]
def ML:bP:=[112,32,109,97,120,32,50,32,49,10,110,32,49,32,115,10,110,32,50,32,116,10,97,32,49,32,50,32,53,10]
theorem I1:cR ML=(z6,0,0):=by kernel_rfl
theorem rd{q:c9}{t line:bP}{ws:Ws}{o:List bP}{q1:c9}{t1 r:bP}(h:dr q t line o q1 t1)(hw:bI line=[124]::ws)(hr:oo line=r):q1=q/\t1=t++(r++[10])/\o=[]:=by
 unfold dr at h;rw[hw] at h;simp only at h;rw[if_neg ab] at h;unfold ql at h;rw[if_pos rfl,hr] at h;exact h
theorem Gd{d:Nat}(h:d<10):itoa (d:Int)=[UInt8.ofNat (48+d)]:=by
 unfold itoa;rw[if_neg aa,Nz,yY h]
theorem Lw{f:LI_}(h:jA z6 f):f=[5]:=by
 have hl:=h.1.len
 obtain⟨x,rfl⟩:∃ x,f=[x]:=by
  cases f with
  |nil=>exact absurd hl ab
  |cons x r=>
   cases r with
   |nil=>exact⟨x,rfl⟩
   |cons y r=>simp[z6] at hl
 have h1:=h.1.all (⟨1,2,5⟩,x) (by simp[z6])
 have h5:aD z6 [5]:=by
  refine⟨⟨rfl,λ p hp=>?_⟩,λ v hv k1 k2=>?_⟩
  ·have:p=(⟨1,2,5⟩,5):=by simpa [z6] using hp
   subst this
   decide
  ·have h1:1<=v:=hv.1;have h2:v<=2:=hv.2;have k1:v≠1:=k1;have k2:v≠2:=k2;omega
 have:=Ej si h h5;have e:∀ y:Int,dJ (z6.arcs.zip [y]) z6.snk=y:=λ y=>by simp[dJ,z6]
 rw[e,e] at this;simp only at h1;rw[show x=5 by omega]
theorem Fv{N:aR}(hR:N.Right){f s:LI_}(h:jA N f)(hs:mq N f s):sT N f s=0:=by
 obtain⟨hc,hcl,_⟩:=hs.cut hR h;unfold sT;rw[if_pos h.1,if_pos hc,if_pos ((tH hR h.1 hc).2 hcl).symm]
theorem MZ:gG jK [5]=MG:=by
 rw[sj];simp only[Ns,Oi];rw[show itoa 5=[53] from Gd (d:=5) ab]
 decide
theorem LJ(q:c9)(ha:q.a=true)(hb:q.b=true)(hd:q.d=true)(l:LB_):q.lack l=0:=by
 unfold c9.lack;rw[if_neg (by rw[ha];decide),if_pos];intro c _
 cases c
 ·exact hb
 ·exact hd
theorem IY{os:List (List bP)}{q2:c9}{t2:bP}(h:ka H7 [] (Mb++Me) os q2 t2):os=[[],[],[],[],nn,[MG],nn]/\∃ s,q2=⟨z6,[5],s,true,true,true⟩/\mq z6 [5] s:=by
 obtain⟨o1,_,q1,t1,h1,⟨o2,_,q3,t3,h3,⟨o4,_,q5,t5,h5,⟨o6,_,q7,t7,h7,⟨o8,_,q9,t9,h9,⟨o10,_,q11,t11,h11,⟨o12,_,q13,t13,h13,⟨rfl,rfl,rfl⟩,rfl⟩,rfl⟩,rfl⟩,rfl⟩,rfl⟩,rfl⟩,rfl⟩:=h;obtain⟨rfl,rfl,rfl⟩:=rd (ws:=[[112],[109,97,120],[50],[49]]) (r:=[112,32,109,97,120,32,50,32,49]) h1 ab ab;obtain⟨rfl,rfl,rfl⟩:=rd (ws:=[[110],[49],[115]]) (r:=[110,32,49,32,115]) h3 ab ab;obtain⟨rfl,rfl,rfl⟩:=rd (ws:=[[110],[50],[116]]) (r:=[110,32,50,32,116]) h5 ab ab;obtain⟨rfl,rfl,rfl⟩:=rd (ws:=[[97],[49],[50],[53]]) (r:=[97,32,49,32,50,32,53]) h7 ab ab;have hp:cR (((([]++([112,32,109,97,120,32,50,32,49]++[10]))++([110,32,49,32,115]++[10]))++([110,32,50,32,116]++[10]))++([97,32,49,32,50,32,53]++[10]))=(z6,0,0):=I1
 -- load
 unfold dr at h9;rw[show bI [108,111,97,100]=[[108,111,97,100]] by decide] at h9;simp only at h9;rw[if_neg ab] at h9;unfold ql at h9;rw[if_neg ab,if_neg ab,if_neg ab,if_neg ab,if_neg ab,if_pos rfl] at h9;unfold eJ at h9;rw[if_pos rfl,hp] at h9;obtain⟨rfl,⟨h0,_⟩|⟨_,rfl,rfl⟩⟩:=h9
 ·exact absurd rfl h0
 -- solve
 unfold dr at h11;rw[show bI [115,111,108,118,101,32,116]=[[115,111,108,118,101],[116]] by decide] at h11;simp only at h11;rw[if_neg ab] at h11;unfold ql at h11;rw[if_neg ab,if_neg ab,if_neg ab,if_pos rfl] at h11;obtain⟨rfl,h11⟩:=h11;rw[if_pos ab] at h11;unfold ga at h11;rw[if_neg ab,if_pos ab] at h11;obtain⟨f,s,hf,hs,rfl,rfl⟩:=h11;simp only at hf hs ⊢;have hm:=hf.max si;obtain rfl:=Lw hm
 -- check
 unfold dr at h13;rw[show bI [99,104,101,99,107]=[[99,104,101,99,107]] by decide] at h13;simp only at h13;rw[if_neg ab] at h13;unfold ql at h13;rw[if_neg ab,if_neg ab,if_neg ab,if_neg ab,if_neg ab,if_pos rfl] at h13;unfold eJ at h13;rw[if_neg ab] at h13;obtain⟨rfl,rfl,h13⟩:=h13;rw[if_pos rfl] at h13
 have hc:(c9.mk z6 [5] s true true true).checkZ=0:=by
  unfold c9.checkZ;rw[LJ _ rfl rfl rfl,if_neg (λ h=>h rfl)];exact Fv si hm hs
 rw[hc] at h13;subst h13;refine⟨?_,s,rfl,hs⟩;rw[show dJ (z6.arcs.zip [5]) z6.snk=5 by decide,MZ];rfl
open Lib
theorem ec{pp p:Nat}{R R':List bP->c9->bP->Prop}(h:∀ o q t,R o q t->R' o q t)(v:Value)(H':Heap)(hd:vy pp p R v H'):vy pp p R' v H':=by
 obtain⟨o,m',t',A,c,h1,h2,h3⟩:=hd;exact⟨o,m',t',A,c,h _ _ _ h1,h2,h3⟩
theorem gV{q:c9}{t w:bP}{P:List bP->Prop}(hw:w≠[108,111,97,100])(h:∀ o,P o->(if w=[99,104,101,99,107] then o=cL q.checkZ nn
 else if w=jK then o=cL q.valZ.2 [gG jK [q.valZ.1]]
 else if w=[105,116,101,109,115] then o=q.itemsT
 else if w=[114,101,112,111,114,116] then o=cL q.repZ.2 (aK q.repZ.1)
 else if w=[112,114,105,110,116] then o=cL q.printZ.2 (aK q.printZ.1)
 else if w=[99,111,117,110,116] then q.countR o
 else o=eH)) (o:List bP) (q':c9) (t':bP) (ha:x7 q t P o q' t'):eJ q t w o q' t':=by
 obtain⟨h1,h2,h3⟩:=ha;unfold eJ;rw[if_neg hw];exact⟨h1,h2,h o h3⟩
theorem rB{q:c9}{t line w:bP}(n1:w≠[124])(n2:w≠[102,108,111,119])(n3:w≠[99,117,116])(n4:w≠[115,111,108,118,101])(n5:w≠[112,97,105,114,115])(o:List bP)(q':c9)(t':bP)(h:eJ q t w o q' t'):ql q t line w [] o q' t':=by
 unfold ql;rw[if_neg n1,if_neg n2,if_neg n3,if_neg n4,if_neg n5,if_pos rfl];exact h
theorem FD{q:c9}{t line:bP}{T:Ws}(o:List bP)(q':c9)(t':bP)(h:q'=q/\t'=t++(oo line++[10])/\o=[]):ql q t line [124] T o q' t':=by
 unfold ql;rw[if_pos rfl];exact h
theorem yN{q:c9}{t line:bP}{T:Ws}(o:List bP)(q':c9)(t':bP)(h:t'=t/\(if T.length=1/\(T.getD 0 []).length=1 then ga q (((T.getD 0 []).getD 0 0).toNat:Int) o q' else q'=q/\o=eH)):ql q t line [115,111,108,118,101] T o q' t':=by
 unfold ql;rw[if_neg ab,if_neg ab,if_neg ab,if_pos rfl];exact h
theorem Mm(V:LibV):LG V λ l=>l∈Mb++Me++[M2]:=by
 intro pp p m t line w T cb bb ob hm hL hl ht hw hh hnc;have hwe:∀ x∈T,x.length<=10000000:=λ x hx=>by have:=my line x (by rw[hw];simp[hx]);omega
 have hTl:T.length<=3000:=by have:=kJ line;rw[hw,Nf] at this;omega
 have bar:w=[124]->Fn 36 [ap pp 0,du line,ax bb ob (T.length+1) cb] (ay (bN pp p m t)) ([.seg bb ob (cj (w::T))]++V.heap++bN pp p m t) (vy pp p (ql m.sta t line w T)):=λ e=>by
  subst e;exact (yT V pp p m t line ht hl T hwe hTl cb bb ob hnc).mono (ec FD)
 simp only[Mb,Me,M2,Ob,Oj,Nl,Nr,or_false] at hL
 rcases hL with rfl|rfl|rfl|rfl|rfl|rfl|rfl|rfl
 ·rw[show bI [124,32,112,32,109,97,120,32,50,32,49]=[[124],[112],[109,97,120],[50],[49]] by decide] at hw;exact bar (Pk hw).1.symm
 ·rw[show bI [124,32,110,32,49,32,115]=[[124],[110],[49],[115]] by decide] at hw;exact bar (Pk hw).1.symm
 ·rw[show bI [124,32,110,32,50,32,116]=[[124],[110],[50],[116]] by decide] at hw;exact bar (Pk hw).1.symm
 ·rw[show bI [124,32,97,32,49,32,50,32,53]=[[124],[97],[49],[50],[53]] by decide] at hw;exact bar (Pk hw).1.symm
 ·rw[show bI [108,111,97,100]=[[108,111,97,100]] by decide] at hw;obtain⟨rfl,rfl⟩:=Pk hw;exact (mM V pp p m t _ _ ab ab ab ab ab (vQ V pp p m t ht) cb bb ob hnc).mono (ec (rB ab ab ab ab ab))
 ·rw[show bI [115,111,108,118,101,32,116]=[[115,111,108,118,101],[116]] by decide] at hw;obtain⟨rfl,rfl⟩:=Pk hw;exact (vh V pp p m hm t _ [[116]] hwe hTl cb bb ob hnc).mono (ec yN)
 ·rw[show bI [99,104,101,99,107]=[[99,104,101,99,107]] by decide] at hw;obtain⟨rfl,rfl⟩:=Pk hw;exact (mM V pp p m t _ _ ab ab ab ab ab (ww V pp p m hm t) cb bb ob hnc).mono (ec λ o q' t' h=>rB ab ab ab ab ab o q' t' (gV ab (λ o h=>by rw[if_pos rfl];exact h) o q' t' h))
 ·rw[show bI [105,116,101,109,115]=[[105,116,101,109,115]] by decide] at hw;obtain⟨rfl,rfl⟩:=Pk hw;exact (mM V pp p m t _ _ ab ab ab ab ab (wd V pp p m hm t) cb bb ob hnc).mono (ec λ o q' t' h=>rB ab ab ab ab ab o q' t' (gV ab (λ o h=>by rw[if_neg ab,if_neg ab,if_pos rfl];exact h) o q' t' h))
open Lib
def jd:List bP:=[[99,104,101,99,107],jK,[105,116,101,109,115],[114,101,112,111,114,116],[112,114,105,110,116],[99,111,117,110,116],[35,32,110,111,116,101],[],[98,111,111],[112,97,105,114,115,32,112,32,49,32,49,32,49,32,49]]
theorem ym{q:c9}{t w:bP}{o:List bP}{q1:c9}{t1:bP}(hw:w≠[108,111,97,100])(h:eJ q t w o q1 t1):q1=q/\t1=t:=by
 unfold eJ at h;rw[if_neg hw] at h;exact⟨h.1,h.2.1⟩
theorem iz{q:c9}{t line w:bP}{o:List bP}{q1:c9}{t1:bP}(hl:bI line=[w])(h35:w.head?≠some 35)(hn:w≠[124]/\w≠[102,108,111,119]/\w≠[99,117,116]/\w≠[115,111,108,118,101]/\w≠[112,97,105,114,115]/\w≠[108,111,97,100])(h:dr q t line o q1 t1):q1=q/\t1=t:=by
 unfold dr at h;rw[hl] at h;simp only at h;rw[if_neg h35] at h;unfold ql at h;rw[if_neg hn.1,if_neg hn.2.1,if_neg hn.2.2.1,if_neg hn.2.2.2.1,if_neg hn.2.2.2.2.1,if_pos rfl] at h;exact ym hn.2.2.2.2.2 h
theorem DX{x:bP}(hx:x∈jd){q:c9}{t:bP}{o:List bP}{q1:c9}{t1:bP}(h:dr q t x o q1 t1):q1=q/\t1=t:=by
 simp only[jd,Nl,Nr,or_false] at hx
 rcases hx with rfl|rfl|rfl|rfl|rfl|rfl|rfl|rfl|rfl|rfl
 ·exact iz (w:=[99,104,101,99,107]) ab ab ab h
 ·exact iz (w:=jK) ab ab ab h
 ·exact iz (w:=[105,116,101,109,115]) ab ab ab h
 ·exact iz (w:=[114,101,112,111,114,116]) ab ab ab h
 ·exact iz (w:=[112,114,105,110,116]) ab ab ab h
 ·exact iz (w:=[99,111,117,110,116]) ab ab ab h
 ·unfold dr at h;rw[show bI [35,32,110,111,116,101]=[[35],[110,111,116,101]] by decide] at h;simp only at h;rw[if_pos ab] at h;exact⟨h.1,h.2.1⟩
 ·unfold dr at h;rw[show bI []=[] by decide] at h;exact⟨h.1,h.2.1⟩
 ·exact iz (w:=[98,111,111]) ab ab ab h
 ·unfold dr at h;rw[show bI [112,97,105,114,115,32,112,32,49,32,49,32,49,32,49]=[[112,97,105,114,115],[112],[49],[49],[49],[49]] by decide] at h;simp only at h;rw[if_neg ab] at h;unfold ql at h;rw[if_neg ab,if_neg ab,if_neg ab,if_neg ab,if_pos rfl] at h;exact⟨h.2.1,h.1⟩
theorem vT:∀ {xs:List bP},(∀ x∈xs,x∈jd)->∀ {q:c9} {t:bP} {ms:List bP} {os:List (List bP)} {q2:c9} {t2:bP},ka q t (xs++ms) os q2 t2->∃ o1 o2,os=o1++o2/\o1.length=xs.length/\ka q t ms o2 q2 t2
 |[],_,q,t,ms,os,q2,t2,h=>⟨[],os,rfl,rfl,h⟩
 |x::xs,hx,q,t,ms,os,q2,t2,⟨o,os1,q1,t1,h1,h2,e⟩=>by
  obtain⟨rfl,rfl⟩:=DX (hx x ai) h1;obtain⟨o1,o2,rfl,hl,h3⟩:=vT (xs:=xs) (λ y hy=>hx y (by simp[hy])) h2;exact⟨o::o1,o2,by rw[e];rfl,by rw[Nf,Nf,hl],h3⟩
def ej:List (List bP×bP)->List bP
 |[]=>[]
 |p::r=>p.1++p.2::ej r
def qf:List (List bP×bP)->Nat->LN_
 |[],_=>[]
 |p::r,k=>(k+p.1.length)::qf r (k+p.1.length+1)
theorem tW:∀ (ps:List (List bP×bP)) (k:Nat),(qf ps k).length=ps.length
 |[],_=>rfl
 |p::r,k=>by unfold qf;rw[Nf,Nf,tW r]
theorem wm:∀ ps rs:List (List bP×bP),ej (ps++rs)=ej ps++ej rs
 |[],_=>rfl
 |p::r,rs=>by
  show p.1++p.2::ej (r++rs)=(p.1++p.2::ej r)++ej rs;rw[wm r rs,NI];rfl
theorem yg:∀ (ps rs:List (List bP×bP)) (k:Nat),qf (ps++rs) k=qf ps k++qf rs (k+(ej ps).length)
 |[],_,k=>rfl
 |p::r,rs,k=>by
  show (k+p.1.length)::qf (r++rs) (k+p.1.length+1)=(k+p.1.length)::qf r (k+p.1.length+1)++qf rs (k+(p.1++p.2::ej r).length);have e:k+p.1.length+1+(ej r).length=k+(p.1++p.2::ej r).length:=by rw[Ng,Nf];omega
  rw[yg r rs,e];rfl
theorem tI:∀ {ps:List (List bP×bP)},(∀ p∈ps,∀ x∈p.1,x∈jd)->(∀ p∈ps,p.2.length<=3000)->∀ {q:c9} (_:q.OK) {t:bP} {A:List (List bP)} {q1:c9} {t1:bP} {pre B:List (List bP)} {q2:c9} {t2:bP},ka q t (ps.map (·.2)) A q1 t1->ka q t (ej ps) B q2 t2->
 ∀ i j:Nat,(qf ps pre.length)[i]?=some j->∃ o,A[i]?=some o/\(pre++B)[j]?=some o
 |[],_,_,q,hq,t,A,q1,t1,pre,B,q2,t2,h,k,i,j,hj=>by simp[qf] at hj
 |p::r,hx,hl,q,hq,t,A,q1,t1,pre,B,q2,t2,⟨o,os1,qa,ta,h1,h2,e⟩,k,i,j,hj=>by
  unfold ej at k;obtain⟨o1,o2,rfl,hol,h3⟩:=vT (hx p ai) k;obtain⟨o',os2,qb,tb,k1,k2,rfl⟩:=h3;obtain⟨rfl,rfl,rfl⟩:=dr.uniq hq (hl p ai) h1 k1;subst e;unfold qf at hj
  cases i with
  |zero=>
   simp only[Oe,Na] at hj;subst hj;refine⟨o,rfl,?_⟩;rw[Nu aa,Nu aa,show pre.length+p.1.length-pre.length-o1.length=0 by omega];rfl
  |succ i=>
   rw[N8] at hj
   have:=tI (ps:=r) (λ p' h'=>hx p' (by simp[h'])) (λ p' h'=>hl p' (by simp[h'])) (dr.ok hq (hl p ai) h1) (pre:=pre++o1++[o]) (B:=os2) h2 k2 i j (by
    rw[Ng,Ng];simp only[Nf,NA];rw[hol];exact hj)
   obtain⟨o3,a1,a2⟩:=this;exact⟨o3,by rw[N8];exact a1,by rw[<- a2];congr 1;simp⟩
end Go.Proofs.YtmcnpaelaieniaaGreatDoor
