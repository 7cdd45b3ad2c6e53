import Derived.Test.YtmcnpaelaieniaaGreatDoorQX111
/- A part of the proof. -/
set_option linter.unusedVariables false
set_option linter.unusedSimpArgs false
set_option maxHeartbeats 8000000
namespace Go.Proofs.YtmcnpaelaieniaaGreatDoor
open Go.RowKit
open Lib
theorem GP{n:Nat}{q:LI_×LI_}{ls:List (LU_)}{k:Nat}{x:LU_}(hx:ls[k]?=some x)(hw:bB x=[]){q':LI_×LI_}:nH n q (ls.map bB)≠some q':=by
 have hlt:=(Ng.1 hx).1
 have e:ls=ls.take k++x::ls.drop (k+1):=by
  have:ls.drop k=x::ls.drop (k+1):=by rw[N5 hlt];rw[(Ng.1 hx).2]
  rw[<- this,Oa]
 rw[e,NI,rS]
 cases nH n q ((ls.take k).map bB) with
 |none=>simp
 |some q2=>
  simp only[Nv,hw];show (none:Option (LI_×LI_))≠some q';simp
theorem EB{n:Nat}{q q1:LI_×LI_}{ls:List (LU_)}{k:Nat}{x h:LU_}{t:Ws}(hx:ls[k]?=some x)(hw:bB x=h::t)(hq:nH n q ((ls.take k).map bB)=some q1):nH n q ((ls.take (k+1)).map bB)=some (lf n q1 h t):=by
 rw[Nu,hx,NI,rS,hq];simp only[Option.toList,Nv,Og,hw];rfl
theorem qO{l:LI_}{A B:OA_}(h:aj l≠[]->A=B)(hl:l≠[]):A=B:=h λ h0=>hl (by simpa [aj] using h0)
theorem Ex(V:LibV)(N:aV)(hN:N.Fits)(hR:N.Right)(A:OA_)(c b o:Nat)(hA:N.arcs≠[]->A=some ⟨b,o,none⟩)(l:LU_)(hl:l.length<=90000):
 Fn 31 [bZ N A c,dk l] [] ([.seg b o (arcs N.arcs)]++V.heap) (I8 N l):=by
 have hl2:=hR.len;have hll:=nK l;refine aT Tryz.func31 λ w0=>?_;refine bu ?_;refine cY (cs:=bU N A c) λ p2=>?_;refine zO ?_;refine ak rfl (λ h=>absurd rfl h) (λ _=>ag ?_);refine aI ?_
 (first|refine ae [] (ad 0 rfl) rfl ?_|refine ae [] (ad 1 rfl) rfl ?_|refine ae [] (ad 2 rfl) rfl ?_|refine ae [] (ad 3 rfl) rfl ?_|refine ae [] (ad 4 rfl) rfl ?_|refine ae [] (ad 5 rfl) rfl ?_|refine ae [] (ad 6 rfl) rfl ?_|refine ae [] (ad 7 rfl) rfl ?_)
 refine az ?_;refine cX (n:=N.arcs.length) (c:=N.arcs.length) rfl rfl rfl rfl rfl rfl aa aa aa aK λ g8=>?_;rw[show made [af 0] (N.arcs.length*1)=aj (List.replicate N.arcs.length 0) by rw[c8,NT];simp[aj]];refine cR ?_;refine aI ?_;refine eW (kJ V l aa) rfl ⟨⟨3,ai,rfl⟩,⟨4,ai,rfl⟩,⟨5,ai,rfl⟩,an⟩ ?_;rintro v H' ⟨AL,nL,rfl,rfl,rfl⟩;refine eF (aH 0 rfl) λ ⟨_,_,hAL,hlL⟩=>?_;obtain⟨gL,hAL⟩:=bg hAL hlL;refine aN ?_;refine bX 3 1<|gK ?_
 refine cA (σ:={ t:Nat×(LI_×LI_)×OA_×Nat//t.1<=(aB l).length/\nH N.arcs.length (List.replicate N.arcs.length 0,[]) (((aB l).take t.1).map bB)=some t.2.1/\t.2.1.1.length=N.arcs.length/\(∀ x∈t.2.1.1,b7 x)/\(∀ x∈t.2.1.2,b7 x)/\t.2.1.2.length<=t.1 })
  (λ t=>[(29,af (t.1.1:Int)),(28,af (aB l).length),(27,.slice AL (aB l).length (aB l).length),(9,.slice t.1.2.2.1 t.1.2.1.2.length t.1.2.2.2),(8,ax g8 0 N.arcs.length N.arcs.length),(1,dk l),(2,ap p2 0)])
  (λ t=>[.own (ax g8 0 N.arcs.length N.arcs.length) 2 1 N.arcs.length (aj t.1.2.1.1),.own (.slice t.1.2.2.1 t.1.2.1.2.length t.1.2.2.2) 3 1 t.1.2.1.2.length (aj t.1.2.1.2),.own (.slice AL (aB l).length (aB l).length) 9 1 (aB l).length (cv (aB l)),blk p2 33 (bU N A c),.seg b o (arcs N.arcs)]++V.heap)
  (λ _=>True) (λ t=>(aB l).length-t.1.1) ⟨(0,(List.replicate N.arcs.length 0,[]),none,0),Nl _,rfl,ai,λ x hx=>by rw[(List.mem_replicate.1 hx).2];decide,λ x hx=>absurd hx Nt,Nl _⟩ a7 (ay.picks [2,0,1,3,4,5,6,7] ab rfl) an ?_
 rintro⟨⟨k,⟨f,s⟩,As,cs⟩,hk,hfold,hfl,hfi,hsi,hsk⟩-;simp only at hk hfold hfl hfi hsi hsk ⊢;refine ao ?_;refine am (ak rfl (λ hlt=>ag ?_) (λ hge=>aO ?_))
 ·have hlt:k<(aB l).length:=by omega
  obtain⟨x,hx⟩:∃ x,(aB l)[k]?=some x:=⟨(aB l)[k],be hlt⟩;have hxl:=pZ l x (Nb hx);obtain rfl:=yv hAL (by intro h0;rw[h0] at hlt;simp at hlt);refine am (aq ?_);refine qQ ?_;refine aF (aw 2 rfl rfl rfl (eg hx)) ?_;refine dQ ?_;refine eW (uU x aa) rfl an ?_;rintro v H' ⟨Aw,nw,rfl,rfl,rfl⟩;refine eF (aH 0 rfl) λ ⟨_,_,hAw,hlw⟩=>?_;obtain⟨gw,hAw⟩:=bg hAw hlw;refine cR ?_
  cases hw:bB x with
  |nil=>
   refine nd 37 rfl rfl<|eu ?_;exact aM [] ⟨_,rfl,.inr ⟨λ ⟨f',s',h,_⟩=>GP hx hw h,rfl,rfl⟩⟩
  |cons h t=>
   rw[hw] at hAw;obtain rfl:=yv hAw ai;have hwe:=kM x;rw[hw] at hwe;have hwle:=kB x;rw[hw] at hwle;simp only[Nh] at hwle;have hnext:=EB hx hw hfold;obtain⟨k1,k2,k3,k4⟩:=GZ (n:=N.arcs.length) (q:=(f,s)) (h:=h) (t:=t) hfi hsi;refine lQ 37 rfl eK<|bo rfl (ag ?_);refine wW ?_;refine aA 40 (v':=.slice (fA (aL gw 0) (h::t).length 1 1) t.length t.length) rfl (by show Value.slice _ _ _=_;simp) ?_
   refine bA [] (y4 V t (λ y hy=>by have:=hwe y (by simp[hy]);omega) aa (fA (aL gw 0) (h::t).length 1 1) t.length t.length gw 1 (λ hne=>by
    have:=NM.2 hne;rw[eS (b:=gw) (o:=0) (n:=(h::t).length) aK (Nr _) (by simp only[Nh];omega)]) rfl) rfl rfl rfl rfl aX ⟨fX 0 rfl (dz (ca (xs:=cv (h::t))) 1) (.inr rfl),⟨6,ai,rfl⟩,⟨7,ai,rfl⟩,⟨8,ai,rfl⟩,an⟩ aK ?_
   rintro v H' ⟨An,cn,rfl,rfl⟩;refine dw ?_;refine eF (aH 0 rfl) λ ⟨_,_,hAn,hln⟩=>?_;obtain⟨gn,hAn⟩:=bg hAn hln;refine iZ ?_;obtain⟨q1,hq1⟩:∃ q1:Bool,q1=dR (h=[102]/\i7 t=true/\(aJ t).1.length=2/\1<=(aJ t).1.getD 0 0/\(aJ t).1.getD 0 0<=N.arcs.length):=⟨_,rfl⟩;refine fN [(44,.bool q1),(29,af (k:Int)),(28,af (aB l).length),(27,ax gL 0 (aB l).length (aB l).length),(9,.slice As s.length cs),(8,ax g8 0 N.arcs.length N.arcs.length),(1,dk l),(2,ap p2 0),(12,ax gw 0 (h::t).length (h::t).length),(13,.slice An (aJ t).1.length cn),(14,.bool (i7 t))] ([.own (.slice An (aJ t).1.length cn) 2 1 (aJ t).1.length (aj (aJ t).1),.own (ax gw 0 (h::t).length (h::t).length) 9 1 (h::t).length (cv (h::t)),.own (ax g8 0 N.arcs.length N.arcs.length) 2 1 N.arcs.length (aj f),.own (.slice As s.length cs) 3 1 s.length (aj s),.own (ax gL 0 (aB l).length (aB l).length) 9 1 (aB l).length (cv (aB l)),blk p2 33 (bU N A c),.seg b o (arcs N.arcs)]++V.heap) ?_ ?_
   ·refine aI ?_;refine aF (bn (m:=0) rfl ai) ?_;refine aF (aw (v:=dk h) 1 rfl rfl rfl rfl) ?_;refine aF (tq (m:=[102]) rfl rfl rfl) ?_;refine az ?_;by_cases h1:h=[102]
    case neg=>
     refine dc 49 rfl h1<|bp [4,7,12,18] ?_;refine ah ⟨[0,1,2,3,4,5,6,7,8,9],⟨?_,rfl,rfl,rfl,rfl,rfl,rfl,rfl,rfl,rfl,rfl,an⟩,ab,rfl⟩;exact Na (λ z=>some (Value.bool z)) (hq1.trans (aU (λ n=>h1 n.1))).symm
    refine dt 49 rfl h1<|bp [4] ?_
    cases h2:i7 t with
    |false=>
     refine bp [4,7,12,18] ?_;refine ah ⟨[0,1,2,3,4,5,6,7,8,9],⟨?_,rfl,rfl,rfl,rfl,rfl,rfl,rfl,rfl,rfl,rfl,an⟩,ab,rfl⟩;exact Na (λ z=>some (Value.bool z)) (hq1.trans (aU (λ n=>by rw[h2] at n;exact Bool.noConfusion n.2.1))).symm
    |true=>
    refine bp [4,7] ?_;by_cases h3:(aJ t).1.length=2
    case neg=>
     refine dc 57 rfl aa<|bp [4,7,12,18] ?_;refine ah ⟨[0,1,2,3,4,5,6,7,8,9],⟨?_,rfl,rfl,rfl,rfl,rfl,rfl,rfl,rfl,rfl,rfl,an⟩,ab,rfl⟩;exact Na (λ z=>some (Value.bool z)) (hq1.trans (aU (λ n=>h3 n.2.2.1))).symm
    refine dt 57 rfl aa<|bp [4,7,12] ?_;obtain⟨y0,hy0⟩:∃ y0,(aJ t).1[0]?=some y0:=⟨_,be aa⟩;have hyd:(aJ t).1.getD 0 0=y0:=by rw[Nf,hy0];rfl
    rw[hyd] at hq1;obtain rfl:=qO hAn (by intro h0;rw[h0] at h3;simp at h3);refine ae [4,7,12] (bn (m:=0) rfl aa) rfl<|ae [4,7,12] (aw (v:=af y0) 0 rfl rfl rfl (bQ hy0)) rfl<|bp [4,7,12] ?_;by_cases h4:1<=y0
    case neg=>
     refine dc 63 rfl h4<|bp [4,7,12,18] ?_;refine ah ⟨[0,1,2,3,4,5,6,7,8,9],⟨?_,rfl,rfl,rfl,rfl,rfl,rfl,rfl,rfl,rfl,rfl,an⟩,ab,rfl⟩;exact Na (λ z=>some (Value.bool z)) (hq1.trans (aU (λ n=>h4 n.2.2.2.1))).symm
    refine dt 63 rfl h4<|bp [4,7,12,18] ?_;refine ae [4,7,12,18] (bn (m:=0) rfl aa) rfl<|ae [4,7,12,18] (aw (v:=af y0) 0 rfl rfl rfl (bQ hy0)) rfl<|bp [4,7,12,18] ?_;refine ah ⟨[0,1,2,3,4,5,6,7,8,9],⟨?_,rfl,rfl,rfl,rfl,rfl,rfl,rfl,rfl,rfl,rfl,an⟩,ab,rfl⟩;exact Na (λ z=>some (Value.bool z)) ((ey ⟨λ n=>⟨h1,h2,h3,h4,n⟩,λ n=>n.2.2.2.2⟩).trans hq1.symm)
   cases q1 with
   |true=>
    obtain⟨h1,h2,h3,h4,h5⟩:=tD hq1.symm;obtain⟨y0,hy0⟩:∃ y0,(aJ t).1[0]?=some y0:=⟨_,be aa⟩;obtain⟨y1,hy1⟩:∃ y1,(aJ t).1[1]?=some y1:=⟨_,be aa⟩;have hyd:(aJ t).1.getD 0 0=y0:=by rw[Nf,hy0];rfl
    have hyd1:(aJ t).1.getD 1 0=y1:=by rw[Nf,hy1];rfl
    have e1:lf N.arcs.length (f,s) h t=(f.set (y0-1).toNat y1,s):=by unfold lf;rw[if_pos ⟨h1,h2,h3,h4,h5⟩,hyd,hyd1]
    rw[e1] at hnext k1 k2 k3 k4;rw[hyd] at h4 h5;obtain rfl:=qO hAn (by intro h0;rw[h0] at h3;simp at h3);refine dr ?_;refine bM 9 (dT [0,1,2,3,4,5,6,7,8]) [0] aX ab rfl<|a9 ?_;refine bh rfl (bn (m:=0) rfl aa) ?_;refine bh rfl (aw (v:=af y0) 0 rfl rfl rfl (bQ hy0)) ?_;refine a9 ?_;refine dK 75 (v':=af (((y0-1).toNat:Nat):Int)) rfl (Na (Value.int .i64) (by rw[cp aa];omega))<|bh rfl (bn (m:=1) rfl aa) ?_;refine bh rfl (aw (v:=af y1) 0 rfl rfl rfl (bQ hy1)) ?_;refine bh rfl (bn rfl (show (y0-1).toNat<N.arcs.length by omega)) ?_;refine cM<|aW 2 rfl rfl rfl rfl (fh rfl aa) [] rfl<|dv ?_;refine⟨⟨(k+1,(f.set (y0-1).toNat y1,s),As,cs),by simp only;omega,hnext,by simp only at*;omega,k1,k2,by simp only at*;omega⟩,⟨Na (λ z=>some (af z)) (cp aa),rfl,rfl,rfl,rfl,rfl,rfl,an⟩,ay.picks [2,3,4,5,6,7,8,9] ab rfl,an,by simp only;omega⟩
   |false=>
    have hq1':=mL hq1.symm;refine bo rfl ?_;obtain⟨q2,hq2⟩:∃ q2:Bool,q2=dR (h=[120]/\i7 t=true/\(aJ t).1.length=1):=⟨_,rfl⟩;refine fN [(80,.bool q2),(29,af (k:Int)),(28,af (aB l).length),(27,ax gL 0 (aB l).length (aB l).length),(9,.slice As s.length cs),(8,ax g8 0 N.arcs.length N.arcs.length),(1,dk l),(2,ap p2 0),(12,ax gw 0 (h::t).length (h::t).length),(13,.slice An (aJ t).1.length cn),(14,.bool (i7 t))] ([.own (.slice An (aJ t).1.length cn) 2 1 (aJ t).1.length (aj (aJ t).1),.own (ax gw 0 (h::t).length (h::t).length) 9 1 (h::t).length (cv (h::t)),.own (ax g8 0 N.arcs.length N.arcs.length) 2 1 N.arcs.length (aj f),.own (.slice As s.length cs) 3 1 s.length (aj s),.own (ax gL 0 (aB l).length (aB l).length) 9 1 (aB l).length (cv (aB l)),blk p2 33 (bU N A c),.seg b o (arcs N.arcs)]++V.heap) ?_ ?_
    ·refine aI ?_;refine aF (bn (m:=0) rfl ai) ?_;refine aF (aw (v:=dk h) 1 rfl rfl rfl rfl) ?_;refine aF (tq (m:=[120]) rfl rfl rfl) ?_;refine az ?_;by_cases h1:h=[120]
     case neg=>
      refine dc 85 rfl h1<|bp [4,7] ?_;refine ah ⟨[0,1,2,3,4,5,6,7,8,9],⟨?_,rfl,rfl,rfl,rfl,rfl,rfl,rfl,rfl,rfl,rfl,an⟩,ab,rfl⟩;exact Na (λ z=>some (Value.bool z)) (hq2.trans (aU (λ n=>h1 n.1))).symm
     refine dt 85 rfl h1<|bp [4] ?_
     cases h2:i7 t with
     |false=>
      refine bp [4,7] ?_;refine ah ⟨[0,1,2,3,4,5,6,7,8,9],⟨?_,rfl,rfl,rfl,rfl,rfl,rfl,rfl,rfl,rfl,rfl,an⟩,ab,rfl⟩;exact Na (λ z=>some (Value.bool z)) (hq2.trans (aU (λ n=>by rw[h2] at n;exact Bool.noConfusion n.2.1))).symm
     |true=>
      refine bp [4,7] ?_;refine ah ⟨[0,1,2,3,4,5,6,7,8,9],⟨?_,rfl,rfl,rfl,rfl,rfl,rfl,rfl,rfl,rfl,rfl,an⟩,ab,rfl⟩;exact Na (λ z=>some (Value.bool z)) ((ey ⟨λ n=>⟨h1,h2,aa⟩,λ n=>by omega⟩).trans hq2.symm)
    cases q2 with
    |true=>
     have hq2':=tD hq2.symm;obtain⟨y0,hy0⟩:∃ y0,(aJ t).1[0]?=some y0:=⟨_,be aa⟩;have hyd:(aJ t).1.getD 0 0=y0:=by rw[Nf,hy0];rfl
     have e1:lf N.arcs.length (f,s) h t=(f,s++[y0]):=by unfold lf;rw[if_neg hq1',if_pos hq2',hyd]
     rw[e1] at hnext k1 k2 k3 k4;obtain rfl:=qO hAn (by intro h0;have h3:=hq2'.2.2;rw[h0] at h3;simp at h3);refine nJ ?_;refine aF (bn (m:=0) rfl aa) ?_;refine aF (aw (v:=af y0) 0 rfl rfl rfl (bQ hy0)) ?_;refine az ?_;refine dp λ g2=>?_;refine bx (n:=s.length) (m:=1) (off:=0) (news:=aj [y0]) 4 0 rfl rfl rfl rfl rfl rfl ab rfl rfl (aS g2 _ _ (0,0)) aK rfl rfl aa aa (λ _ _=>rfl) λ A3 c3=>?_;rw[show s.length+1=(s++[y0]).length by simp,show aj s++aj [y0]=aj (s++[y0]) by simp[aj]];refine cR ?_;refine⟨⟨(k+1,(f,s++[y0]),A3,c3),by simp only;omega,hnext,by simp only at*;omega,k1,k2,by simp only at*;omega⟩,⟨Na (λ z=>some (af z)) (cp aa),rfl,rfl,rfl,rfl,rfl,rfl,an⟩,ay.picks [3,4,5,6,7,8,9,10] ab rfl,an,by simp only;omega⟩
    |false=>
     have e1:lf N.arcs.length (f,s) h t=(f,s):=by unfold lf;rw[if_neg hq1',if_neg (mL hq2.symm)]
     rw[e1] at hnext k1 k2 k3 k4;refine bo rfl (ag ?_);refine ao ?_;refine⟨⟨(k+1,(f,s),As,cs),by simp only;omega,hnext,by simp only at*;omega,k1,k2,by simp only at*;omega⟩,⟨Na (λ z=>some (af z)) (cp aa),rfl,rfl,rfl,rfl,rfl,rfl,an⟩,ay.picks [2,3,4,5,6,7,8,9] ab rfl,an,by simp only;omega⟩
 ·obtain rfl:k=(aB l).length:=by omega
  rw[NH] at hfold;refine aR (aH 1 rfl) λ ⟨_,_,hAs,hls⟩=>?_;obtain⟨gs,hAs⟩:=bg hAs hls;refine bu ?_;refine qa ?_;have TP:=oL V N hN hR A c b o hA f hfi aa (aL g8 0) N.arcs.length g8 0 aK s hsi aa As cs gs 0 (qO hAs);rw[hfl] at TP;refine cj TP rfl ⟨bz 4 rfl,fX 0 rfl ca (.inr rfl),ff 1 rfl hAs,⟨5,ai,rfl⟩,⟨6,ai,rfl⟩,⟨7,ai,rfl⟩,an⟩ ?_
  have hbadE:∀ (e:Int) (u:LU_),n8 N f s=.tuple #[dk u,af e]->e≠0->¬ ∃ f' s',HJ N l f' s':=by
   rintro e u hr he ⟨f',s',h1,h2,h3,h4⟩;rw[hfold] at h1;obtain⟨rfl,rfl⟩:=Prod.mk.inj (NK h1);unfold n8 at hr;rw[if_pos h2,if_pos h3] at hr
   injection hr with hr
   have:=Na (λ a:Array Value=>a[1]?) hr;simp at this;exact he this.symm
  by_cases hok:aD N f/\fm N s
  case neg=>
   obtain⟨e,he,hr⟩:∃ e:Int,e≠0/\n8 N f s=.tuple #[dk [],af e]:=by
    unfold n8;by_cases h1:aD N f
    ·rw[if_pos h1,if_neg (λ h=>hok ⟨h1,h⟩)];exact⟨_,λ h=>hok ⟨h1,sa.1 h⟩,rfl⟩
    ·rw[if_neg h1];exact⟨_,λ h=>h1 (cZ.1 h),rfl⟩
   have hb:=hbadE e [] hr he;rw[hr];refine ii ?_;refine aI ?_;refine dt 109 rfl he<|eq ?_;refine ah<|eu ?_;exact aM [] ⟨_,rfl,.inr ⟨hb,rfl,rfl⟩⟩
  have hr:n8 N f s=.tuple #[dk (po f s (dH (N.arcs.zip f) N.snk) (iw s N.arcs)),af 0]:=by unfold n8;rw[if_pos hok.1,if_pos hok.2]
  rw[hr];refine dQ ?_;refine dc 109 rfl (λ h=>h rfl)<|eq ?_
  refine aA 113 (v':=.bool (dR (po f s (dH (N.arcs.zip f) N.snk) (iw s N.arcs)≠l))) rfl (Na Value.bool (by
   rw[iS];by_cases h:po f s (dH (N.arcs.zip f) N.snk) (iw s N.arcs)=l
   ·rw[aQ h,aU (λ n=>n h)];rfl
   ·rw[aU h,aQ h];rfl)) ?_
  refine ah<|ak rfl (λ hne=>?_) (λ heq=>ag ?_)
  ·refine ao ?_;refine aM [] ⟨_,rfl,.inr ⟨λ ⟨f',s',h1,h2,h3,h4⟩=>?_,rfl,rfl⟩⟩;rw[hfold] at h1;obtain⟨rfl,rfl⟩:=Prod.mk.inj (NK h1);exact hne h4
  ·have heq:=No.1 heq;refine ao ?_;refine aM [0,1] ⟨_,rfl,.inl ⟨f,s,aL g8 0,As,N.arcs.length,cs,⟨hfold,hok.1,hok.2,heq⟩,?_,?_⟩⟩
   ·rw[hfl];rfl
   ·rw[hfl]
open Lib
theorem vk:∀ (n:Nat) (a b:LI_),a.length=2*n->d6 (a++b)=d6 a++d6 b
 |0,a,b,h=>by rw[Ny.1 (show a.length=0 by omega)];rfl
 |n+1,[],_,h=>by simp at h
 |n+1,[_],_,h=>by simp at h;omega
 |n+1,x::y::a,b,h=>by
  have:=vk n a b (by simp only[Nh] at h;omega);show (⟨x,y⟩:ni)::d6 (a++b)=⟨x,y⟩::d6 a++d6 b;rw[this];rfl
theorem zo{D:LI_}{k:Nat}{x y:Int}(hx:D[2*k]?=some x)(hy:D[2*k+1]?=some y):d6 (D.take (2*(k+1)))=d6 (D.take (2*k))++[⟨x,y⟩]:=by
 have h1:D.take (2*(k+1))=D.take (2*k)++[x,y]:=by
  rw[show 2*(k+1)=2*k+1+1 by omega,Nu,hy,Nu,hx];simp
 have hl:=(Ng.1 hx).1;rw[h1,vk k _ _ (by rw[NE];omega)];rfl
theorem sN:∀ (n:Nat) (a:LI_),a.length=2*n->(d6 a).length=n
 |0,a,h=>by rw[Ny.1 (show a.length=0 by omega)];rfl
 |n+1,[],h=>by simp at h
 |n+1,[_],h=>by simp at h;omega
 |n+1,x::y::a,h=>by
  have:=sN n a (by simp only[Nh] at h;omega);show (d6 a).length+1=n+1;rw[this]
def Mp(pp p:Nat)(m:cO)(t:cP)(ba bf bs:Nat)(bb ob:Nat)(ws:Ws)(V:LibV):Heap:=[.seg bb ob (cv ws)]++(eR pp p m t ba bf bs++V.heap)
theorem Ey(V:LibV)(pp p:Nat)(m:cO)(t:cP)(ba bf bs:Nat)(ws:Ws)(hwl:ws.length<=3000)(hwe:∀ x∈ws,x.length<=10000000)(B:OA_)(n cb bb ob:Nat)(hB:ws≠[]->B=some ⟨bb,ob,none⟩)(hn:n=ws.length)(hnc:n<=cb):
 Fn 70 [.pointer (some ⟨pp,0,none⟩),.slice B n cb] [] (Mp pp p m t ba bf bs bb ob ws V) λ v H'=>∃ o,kK ws o/\GL o v H':=by
 subst hn;show Fn _ _ _ [.seg bb ob (cv ws),.seg pp 0 [ap p 0,dk t],.seg p 0 m.cells,.seg ba 0 (arcs m.N.arcs),.seg bf 0 (aj m.f),.seg bs 0 (aj m.s),.tab 0 V.oM,.tab 3 V.oP,.tab 5 V.oE] _;refine aT Tryz.func70 λ w0=>?_;refine c9 ?_;by_cases h3:ws.length<3
 ·refine dt 15 rfl aa<|ek ?_;refine ah<|dr ?_;refine pD ?_;rintro v H' ⟨A2,c2,rfl,rfl⟩;refine aN ?_;refine aM [0] ⟨_,rfl,eL,?_,A2,c2,rfl,rfl⟩;unfold kK;rw[if_pos (.inl h3)]
 have h3':=h3
 obtain⟨w0,T,rfl,hTl⟩:∃ w0 T,ws=w0::T/\2<=T.length:=by
  cases ws with
  |nil=>exact absurd (Nat.zero_lt_succ 2) h3
  |cons a r=>exact⟨a,r,rfl,by simp only[Nh] at h3;omega⟩
 obtain rfl:=hB ai;refine dc 15 rfl aa<|ek ?_;refine ae [3] (v:=ap bb (ob+0)) (gq (m:=0) rfl ai) rfl<|ae [3] (v:=dk w0) (aZ (i:=0) 0 rfl rfl rfl) rfl<|ek ?_;by_cases h1:w0.length≠1
 ·refine dt 21 rfl (by rw[cS];omega)<|ah<|dr ?_;refine pD ?_;rintro v H' ⟨A2,c2,rfl,rfl⟩;refine aN ?_;refine aM [0] ⟨_,rfl,eL,?_,A2,c2,rfl,rfl⟩;unfold kK;rw[if_pos (.inr (.inl h1))]
 have h1:w0.length=1:=No.1 h1;refine dc 21 rfl (by rw[cS];omega)<|ah<|bo rfl (ag ?_)
 obtain⟨b0,rfl⟩:∃ b0,w0=[b0]:=by
  match w0,h1 with
  |[b0],_=>exact⟨b0,rfl⟩
 simp only[Nh] at hwl hnc;refine wW ?_;refine aA 25 (v':=.slice (fA (aL bb ob) cb 1 1) T.length (cb-1)) rfl (by show Value.slice _ _ _=_;simp) ?_
 refine bA [] (fS V T (λ y hy=>hwe y (by simp[hy])) aa (fA (aL bb ob) cb 1 1) T.length (cb-1) bb (ob+1) (λ hne=>by
  rw[eS (b:=bb) (o:=ob) (n:=T.length+1) aK aa aa]) rfl) rfl rfl rfl rfl aX ⟨fX 0 rfl (dz (bq bb ob (cv ([b0]::T))) 1) (.inr rfl),⟨6,ai,rfl⟩,⟨7,ai,rfl⟩,⟨8,ai,rfl⟩,an⟩ aK ?_
 rintro v H' ⟨An,cn,rfl,rfl⟩;refine ec ?_
 cases hok:i7 T with
 |false=>
  refine aI ?_;refine eq ?_;refine ah<|dr ?_;refine pD ?_;rintro v H' ⟨A2,c2,rfl,rfl⟩;refine aN ?_;refine aM [0] ⟨_,rfl,eL,?_,A2,c2,rfl,rfl⟩;unfold kK;rw[if_pos (.inr (.inr (.inl (uj hok))))]
 |true=>
 have hq0:=gV hok;have hLl:=(oW hq0).1;have hLi:=kZ (ws:=T)
 generalize hL:(aJ T).1=L at hLl hLi ⊢
 refine aI ?_;refine eq ?_
 have htm:(L.length:Int).tmod 2=((L.length%2:Nat):Int):=by
  rw[Int.tmod_eq_emod_of_nonneg aa];omega
 by_cases hev:L.length%2≠0
 ·refine dt 36 rfl (by rw[htm];omega)<|ah<|dr ?_;refine pD ?_;rintro v H' ⟨A2,c2,rfl,rfl⟩;refine aN ?_;refine aM [0] ⟨_,rfl,eL,?_,A2,c2,rfl,rfl⟩;unfold kK;rw[if_pos (.inr (.inr (.inr (by show (aJ T).1.length%2≠0;rw[hL];exact hev))))]
 have hev:L.length%2=0:=No.1 hev;refine dc 36 rfl (by rw[htm];omega)<|ah<|bo rfl (ag ?_);have hL2:2<=L.length:=aa;refine aR (aH 0 rfl) λ ⟨_,_,hAn0,hAl⟩=>?_;obtain⟨gn,rfl⟩:=hAn0 aa;obtain⟨x0,hx0⟩:∃ x,L[0]?=some x:=⟨_,be aa⟩;obtain⟨x1,hx1⟩:∃ x,L[1]?=some x:=⟨_,be aa⟩
 have hgr:gh L=⟨x0,x1,d6 (L.drop 2)⟩:=by
  unfold gh;rw[Nf,Nf,hx0,hx1];rfl
 refine cq ?_;refine bM 9 (dT [0,1,2,3,4,5,6]++[(7,false),(8,false)]) [0,1,2,7,8,9] aX ab rfl<|a9 ?_;refine bh (v:=ap gn 0) rfl (bn (m:=0) rfl aa) ?_;refine bh (v:=af x0) rfl (aw 0 rfl rfl rfl (bQ hx0)) ?_;refine a9 ?_;refine bh (v:=ap gn 1) rfl (bn (m:=1) rfl aa) ?_;refine bh (v:=af x1) rfl (aw 0 rfl rfl rfl (bQ hx1)) ?_;refine yr ?_;refine dD λ p7=>?_;refine b6 [1,2,3,8,9,10]<|cz ?_;refine dE 0 ?_;refine b6 [1,2,3,8,9,10]<|cM<|dv ?_;refine gK ?_;obtain⟨D,hD⟩:∃ D,D=L.drop 2:=⟨_,rfl⟩;have hDl:D.length=L.length-2:=by rw[hD,Oe]
 have hDg:∀ i,D[i]?=L[2+i]?:=λ i=>by rw[hD,Ol]
 rw[<- hD] at hgr;refine bX 180 2 ?_
 refine bP (σ:=Nat×OA_×Nat) (λ q=>[(8,af ((2+2*q.1:Nat):Int)),(7,ap p7 0),(5,ax gn 0 L.length cn),(0,ap pp 0),(1,ax bb ob ([b0]::T).length cb)])
  (λ q=>[.own (.slice q.2.1 (d6 (D.take (2*q.1))).length q.2.2) 180 2 (d6 (D.take (2*q.1))).length (fO (d6 (D.take (2*q.1)))),blk p7 178 [af x0,af x1,.slice q.2.1 (d6 (D.take (2*q.1))).length q.2.2],.own (ax gn 0 L.length cn) 2 1 L.length (aj L),.seg bb ob (cv ([b0]::T)),.seg pp 0 [ap p 0,dk t],.tab 0 V.oM,.tab 3 V.oP,.tab 5 V.oE])
  (λ q=>2*q.1<=D.length) (λ q=>D.length-2*q.1) (0,none,0) [0,1,2,3,4,9,10,11] a7 ab rfl (Nl _) ?_
 rintro⟨k,Ae,ce⟩ hk;simp only at hk ⊢;have hEl:=sN k (D.take (2*k)) (by rw[NE];omega);refine ao ?_;refine ak rfl (λ hlt=>ag ?_) (λ hge=>aO ?_)
 ·have hlt:2+2*k<L.length:=by omega
  obtain⟨y0,hy0⟩:∃ y,L[2+2*k]?=some y:=⟨_,be hlt⟩;obtain⟨y1,hy1⟩:∃ y,L[2+2*k+1]?=some y:=⟨_,be aa⟩;have hst:=zo (D:=D) (k:=k) (by rw[hDg];exact hy0) (by rw[hDg];exact hy1);refine am (aq ?_);refine cq ?_;refine bM 15 (dT [0,1,2,3,4,5,6,7,8,9,10,11]++[(12,false),(13,false)]++dT [14]) [1,2] aX ab rfl<|a9 ?_;refine bh (v:=.slice Ae (d6 (D.take (2*k))).length ce) rfl (ad 0 rfl) ?_;refine a9 ?_;refine bh (v:=ap gn (2+2*k)) rfl (bn rfl hlt) ?_;refine bh (v:=af y0) rfl (aw 1 rfl rfl rfl (bQ hy0)) ?_;refine a9 ?_;refine dK 59 (v':=af ((2+2*k+1:Nat):Int)) rfl (Na (Value.int .i64) (cp aa))<|bh (v:=ap gn (2+2*k+1)) rfl (bn rfl aa) ?_;refine bh (v:=af y1) rfl (aw 1 rfl rfl rfl (bQ hy1)) ?_;refine yr ?_;refine dp λ g=>?_;refine b6 [2,3]<|cz ?_;refine bx (n:=(d6 (D.take (2*k))).length) (off:=0) (m:=1) (news:=fO [⟨y0,y1⟩]) 1 0 rfl rfl rfl rfl rfl rfl ab rfl rfl (aS g _ _ (0,0)) aK rfl rfl aa aa (λ _ _=>rfl) λ A2 c2=>b6 [2,3]<|a9 ?_;refine cM<|dE 2 ?_;refine dv ?_;refine⟨(k+1,A2,c2),[1,2,3,4,5,6,7,8],⟨?_,rfl,rfl,rfl,rfl,an⟩,ab,?_,by simp only;omega,by simp only;omega⟩
  ·refine Na (λ z=>some (af z)) ((cp aa).trans ?_);omega
  ·simp only[hst];rw[H4,Nj];rfl
 have hkk:2*k=D.length:=by
  have:¬ 2+2*k<L.length:=aa;omega
 rw[hkk,NH] at*;have hgf:(gh L).Fits:=tT hLi aa;have hge:(gh L).edges=d6 D:=by rw[hgr]
 refine aR (aH 0 rfl) λ ⟨_,_,hAe0,hAel⟩=>?_;obtain⟨ge,hAe⟩:=bg hAe0 hAel;have hAe':(gh L).edges≠[]->Ae=aL ge 0:=λ h=>hAe (λ h0=>h (by rw[hge];exact Ny.1 (by have:=sT (d6 D);rw[h0] at this;simp at this;omega)));have hgv:Value.agg #[af x0,af x1,.slice Ae (d6 D).length ce]=xQ (gh L) Ae ce:=by rw[hgr];rfl
 have hseg:aY.seg ge 0 (fO (gh L).edges)=aY.seg ge 0 (fO (d6 D)):=by rw[hge]
 refine iv (σ:={ q:(Int×LI_×LI_×LI_)×(OA_×OA_×OA_)×(Nat×Nat×Nat)×Nat//sR (gh L) (b0.toNat:Int) q.1.1 q.1.2.1/\(q.1.1=0->JB (gh L) q.1.2.1 q.1.2.2.1 q.1.2.2.2)/\(q.1.1≠0->q.1.2.2.1=[]/\q.1.2.2.2=[])/\q.1.2.2.1.length<=200/\q.1.2.2.2.length<=200/\q.1.2.1.length<=1500 })
  (λ q=>[(9,.slice q.1.2.1.1 q.1.1.2.1.length q.1.2.2.1.1),(10,ap q.1.2.2.2 0),(11,af q.1.1.1)])
  (λ q=>[blk q.1.2.2.2 182 [.slice q.1.2.1.2.1 q.1.1.2.2.1.length q.1.2.2.1.2.1,.slice q.1.2.1.2.2 q.1.1.2.2.2.length q.1.2.2.1.2.2],.own (.slice q.1.2.1.1 q.1.1.2.1.length q.1.2.2.1.1) 3 1 q.1.1.2.1.length (aj q.1.1.2.1),.own (.slice q.1.2.1.2.1 q.1.1.2.2.1.length q.1.2.2.1.2.1) 3 1 q.1.1.2.2.1.length (aj q.1.1.2.2.1),.own (.slice q.1.2.1.2.2 q.1.1.2.2.2.length q.1.2.2.1.2.2) 3 1 q.1.1.2.2.2.length (aj q.1.1.2.2.2),.tab 0 V.oM,.tab 3 V.oP,.tab 5 V.oE]) ?_ ?_
 ·refine ly (Sf:=[.seg pp 0 [ap p 0,dk t],blk p7 178 [af x0,af x1,.slice Ae (d6 D).length ce],.seg bb ob (cv ([b0]::T))])<|jU [0,1,2,3,4,5,6,7,8] bG [4,1,3] ab rfl<|m8 ?_;refine aG [999] (v:=ap p 0) rfl (aZ (i:=0) 0 rfl rfl rfl) rfl<|aG [999] (v:=xQ (gh L) Ae ce) rfl (by rw[← hgv];exact ad 1 rfl) rfl<|m8 ?_;refine aG [999] (v:=ap bb (ob+0)) rfl (gq (m:=0) rfl ai) rfl<|aG [999] (v:=dk [b0]) rfl (aZ (i:=0) 2 rfl rfl rfl) rfl<|aG [999] (v:=.int .u8 (b0.toNat:Int)) rfl (tx (i:=0) rfl rfl rfl rfl rfl) rfl<|cM<|av 9 [14] bG ab ⟨⟨_,rfl,?_⟩,⟨_,rfl,?_⟩,trivial⟩
  ·refine eW (fst:=[]) (cap:=[]) (vR (b0.toNat:Int) (gh L) hgf Ae ce ge 0 hAe' (ap p 0)) rfl ⟨fX 0 rfl (by rw[hge];exact bC hAe) (by rw[hge];exact bW hAe),an⟩ ?_;rintro v H' ⟨e,l,sl,sr,A1,Al,Ar,c1,cl,cr,h1,h2,h3,h4,h5,h6,rfl,rfl⟩;refine ah ⟨⟨[7,4,6],by decide,rfl⟩,?_⟩;refine jU [10,11,12,13] bG [7,4,6] ab rfl<|m8 ?_;refine cM<|av 14 [] bG ab ⟨⟨_,rfl,?_⟩,an⟩;refine dD λ p10=>?_;refine ah ⟨⟨[8,5,7],by decide,rfl⟩,?_⟩;refine av 15 [] bG ab ⟨⟨_,rfl,?_⟩,an⟩;refine db [] rfl ⟨⟨[8,5,7],ab,rfl⟩,?_⟩;refine av 16 [] bG ab ⟨⟨_,rfl,?_⟩,an⟩;refine dE 0 ?_;refine ah ⟨⟨[8,5,7],by decide,rfl⟩,?_⟩;refine av 17 [] bG ab ⟨⟨_,rfl,?_⟩,an⟩;refine db [] rfl ⟨⟨[8,5,7],ab,rfl⟩,?_⟩;exact fd bG ⟨⟨((e,l,sl,sr),(A1,Al,Ar),(c1,cl,cr),p10),h1,λ h=>(h2 h).2.2,h3,h4,h5,h6⟩,a7,ay.picks [0,1,2,3,9,10,11] ab rfl⟩
  ·refine dD λ p10=>?_;refine ah ⟨⟨[5,2,4],by decide,rfl⟩,?_⟩;refine av 9 [] bG ab ⟨⟨_,rfl,?_⟩,an⟩;refine eW (fst:=[]) (cap:=[]) (vR (b0.toNat:Int) (gh L) hgf Ae ce ge 0 hAe' (ap p 0)) rfl ⟨fX 1 rfl (by rw[hge];exact bC hAe) (by rw[hge];exact bW hAe),an⟩ ?_;rintro v H' ⟨e,l,sl,sr,A1,Al,Ar,c1,cl,cr,h1,h2,h3,h4,h5,h6,rfl,rfl⟩;refine ah ⟨⟨[8,5,7],by decide,rfl⟩,?_⟩;refine jU [10,11,12,13] bG [8,5,7] ab rfl<|m8 ?_;refine cM<|av 15 [] bG ab ⟨⟨_,rfl,?_⟩,an⟩;refine db [] rfl ⟨⟨[8,5,7],ab,rfl⟩,?_⟩;refine av 16 [] bG ab ⟨⟨_,rfl,?_⟩,an⟩;refine dE 3 ?_;refine ah ⟨⟨[8,5,7],by decide,rfl⟩,?_⟩;refine av 17 [] bG ab ⟨⟨_,rfl,?_⟩,an⟩;refine db [] rfl ⟨⟨[8,5,7],ab,rfl⟩,?_⟩;exact fd bG ⟨⟨((e,l,sl,sr),(A1,Al,Ar),(c1,cl,cr),p10),h1,λ h=>(h2 h).2.2,h3,h4,h5,h6⟩,a7,ay.picks [3,0,1,2,9,10,11] ab rfl⟩
 rintro⟨⟨⟨e,l,sl,sr⟩,⟨A1,Al,Ar⟩,⟨c1,cl,cr⟩,p10⟩,h1,h2,h3,h4,h5,h6⟩;simp only at h1 h2 h3 h4 h5 h6 ⊢;have hpc:=we h1;obtain⟨g1,g2,g3⟩:=h1.good hgf
 obtain⟨b1,b2,b3⟩:(∀ x∈l,b7 x)/\(∀ x∈sl,b7 x)/\(∀ x∈sr,b7 x):=by
  by_cases he:e=0
  ·obtain⟨hGR,hM,_⟩:=g3 he;have hc:=h2 he;exact⟨vc hgf hM,λ x hx=>by have:=hc.isl.rng x hx;have:=hGR.left;unfold b7;omega,λ x hx=>by have:=hc.isr.rng x hx;have:=hGR.right;unfold b7;omega⟩
  ·obtain⟨rfl,rfl⟩:=h3 he;obtain rfl:=g2 he;exact⟨λ x hx=>absurd hx Nt,λ x hx=>absurd hx Nt,λ x hx=>absurd hx Nt⟩
 refine aR (aH 1 rfl) λ ⟨_,_,hy1,hz1⟩=>?_;obtain⟨u1,hu1⟩:=bg hy1 hz1;refine aR (aH 2 rfl) λ ⟨_,_,hy2,hz2⟩=>?_;obtain⟨u2,hu2⟩:=bg hy2 hz2;refine aR (aH 3 rfl) λ ⟨_,_,hy3,hz3⟩=>?_;obtain⟨u3,hu3⟩:=bg hy3 hz3;refine cq ?_;refine bM 12 (dT [0,1,3,4,6,7]++[(2,false),(5,false),(8,false),(9,false),(10,false)]++dT [11]) [0] aX ab rfl<|a9 ?_;refine bh (v:=.slice Al sl.length cl) rfl (ad 0 rfl) ?_;refine a9 ?_;refine bh (v:=.slice Ar sr.length cr) rfl (ad 0 rfl) ?_;refine cz ?_;refine dG (xb V [112,97,105,114,115] ab l b1 aa A1 _ c1 u1 0 (dx hu1) rfl) rfl ⟨ff 1 rfl hu1,⟨4,ai,rfl⟩,⟨5,ai,rfl⟩,⟨6,ai,rfl⟩,an⟩ ?_;refine j2 ?_;refine⟨rfl,b6 [0] ?_⟩;refine cz ?_;refine dG (xb V [108,101,102,116] ab sl b2 aa Al _ cl u2 0 (dx hu2) rfl) rfl ⟨ff 2 rfl hu2,⟨4,ai,rfl⟩,⟨5,ai,rfl⟩,⟨6,ai,rfl⟩,an⟩ ?_;refine j2 ?_;refine⟨rfl,b6 [0] ?_⟩;refine cz ?_;refine dG (xb V [114,105,103,104,116] ab sr b3 aa Ar _ cr u3 0 (dx hu3) rfl) rfl ⟨ff 3 rfl hu3,⟨4,ai,rfl⟩,⟨5,ai,rfl⟩,⟨6,ai,rfl⟩,an⟩ ?_;refine j2 ?_;refine⟨rfl,b6 [0] ?_⟩;refine cz ?_;refine dp λ g9=>?_;refine lx 1 3 (by rfl) ab<|b6 [1]<|cz ?_;refine dG (jA V e hpc.inB (aL g9 0) 3 3) rfl ⟨⟨5,ai,rfl⟩,⟨6,ai,rfl⟩,⟨7,ai,rfl⟩,an⟩ ?_
 have hok2:∀ o,o=cG e [gD [112,97,105,114,115] l,gD [108,101,102,116] sl,gD [114,105,103,104,116] sr]->kK ([b0]::T) o:=λ o ho=>by
  unfold kK
  rw[if_neg (by
   rintro (h|h|h|h)
   ·exact h3' h
   ·exact h rfl
   ·exact h hq0
   ·exact h (by show (aJ T).1.length%2=0;rw[hL];exact hev))]
  refine⟨e,l,sl,sr,?_,?_,h3,h4,h5,h6,ho⟩
  ·show sR (gh (aJ T).1) _ e l;rw[hL];exact h1
  ·show e=0->JB (gh (aJ T).1) l sl sr;rw[hL];exact h2
 rintro v H' (⟨h0,rfl,rfl⟩|⟨h0,A2,c2,rfl,rfl⟩)
 ·refine⟨rfl,b6 [1] ?_⟩;refine ir ?_;refine aM [0] ⟨_,rfl,_,hok2 _ rfl,aL g9 0,3,?_,?_⟩
  ·unfold cG;rw[if_neg (λ h=>h h0)];rfl
  ·unfold cG;rw[if_neg (λ h=>h h0)];rfl
 ·refine⟨rfl,b6 [2] ?_⟩;refine ir ?_;refine aM [0] ⟨_,rfl,_,hok2 _ rfl,A2,c2,?_,?_⟩
  ·unfold cG;rw[if_pos h0];rfl
  ·unfold cG;rw[if_pos h0]
open Lib
theorem Az(V:LibV)(pp p:Nat)(m:cO)(t line:cP)(T:Ws)(hwe:∀ x∈T,x.length<=10000000)(hTl:T.length<=3000)(cb bb ob:Nat)(hnc:T.length+1<=cb):
 Fn 36 [.pointer (some ⟨pp,0,none⟩),dk line,.slice (some ⟨bb,ob,none⟩) (T.length+1) cb] (aC (bO pp p m t)) (kR bb ob [112,97,105,114,115] T V++bO pp p m t) (vx pp p λ o q' t'=>t'=t/\q'=m.sta/\kK T o):=by
 generalize hM:aC _=M
 refine aT Tryz.func36 λ w0=>?_;refine v7 ?_
 refine bA [] (fS V T (λ y hy=>hwe y hy) aa (fA (aL bb ob) cb 1 1) T.length (cb-1) bb (ob+1) (λ hne=>by
  have:=NM.2 hne;rw[eS (b:=bb) (o:=ob) (n:=T.length+1) aK aa aa]) rfl) rfl rfl rfl rfl aX ⟨⟨0,_,by simp[LibV.heap],rfl,dz (bq bb ob (cv ([112,97,105,114,115]::T))) 1,.inr rfl⟩,⟨1,by simp[LibV.heap],rfl⟩,⟨2,by simp[LibV.heap],rfl⟩,⟨3,by simp[LibV.heap],rfl⟩,an⟩ aK ?_
 rintro v H' ⟨An,cn,rfl,rfl⟩;refine wg ?_;refine aF (v:=dk [112,97,105,114,115]) (aZ (i:=0) 1 rfl rfl rfl) ?_;refine Gv ?_;refine lF 75 [115,111,108,118,101] ?_;refine fL ?_;refine tm 105 [112,97,105,114,115] ?_;refine dr ?_;refine aR (aH 7 rfl) λ ⟨_,_,hB1,hn1⟩=>?_;obtain⟨w1,hB1⟩:=bg hB1 hn1;refine aR (aH 8 rfl) λ ⟨_,_,hB2,hn2⟩=>?_;obtain⟨w2,hB2⟩:=bg hB2 hn2;refine aR (aH 9 rfl) λ ⟨_,_,hB3,hn3⟩=>?_;obtain⟨w3,hB3⟩:=bg hB3 hn3;refine wW ?_;refine aA 109 (v':=.slice (fA (aL bb ob) cb 1 1) T.length (cb-1)) rfl (by show Value.slice _ _ _=_;simp) ?_
 refine bA [] (Ey V pp p m t w1 w2 w3 T hTl hwe (fA (aL bb ob) cb 1 1) T.length (cb-1) bb (ob+1) (λ hne=>by
  have:=NM.2 hne;rw[eS (b:=bb) (o:=ob) (n:=T.length+1) aK aa aa]) rfl aa) rfl rfl rfl rfl aX ⟨fX 1 rfl (dz (bq bb ob (cv ([112,97,105,114,115]::T))) 1) (.inr rfl),ew 5 rfl,ew 6 rfl,ff 7 rfl hB1,ff 8 rfl hB2,ff 9 rfl hB3,⟨2,ai,rfl⟩,⟨3,ai,rfl⟩,⟨4,ai,rfl⟩,an⟩ aK ?_
 rintro v H' ⟨o,ho,A2,c2,rfl,rfl⟩;refine ec ?_;exact aM [0,6,7,8,9,10] ⟨_,rfl,o,m,t,A2,c2,⟨rfl,rfl,ho⟩,rfl,rfl⟩
theorem mw(V:LibV)(pp p:Nat)(m:cO)(t line w:cP)(n1:w≠[124])(n2:w≠[102,108,111,119])(n3:w≠[99,117,116])(n4:w≠[115,111,108,118,101])(n5:w≠[112,97,105,114,115]){R:List cP->du->cP->Prop}
 (TA:Fn 71 [.pointer (some ⟨pp,0,none⟩),dk w] (aC (bO pp p m t)) (V.heap++bO pp p m t) (vx pp p R)) (cb bb ob:Nat) (hnc:1<=cb):
 Fn 36 [.pointer (some ⟨pp,0,none⟩),dk line,.slice (some ⟨bb,ob,none⟩) 1 cb] (aC (bO pp p m t)) (kR bb ob w [] V++bO pp p m t) (vx pp p R):=by
 have T:Ws:=[];have hwe:∀ x∈([]:Ws),x.length<=10000000:=λ x h=>absurd h Nt;have hM2:=hnc
 generalize hM:aC _=M at TA ⊢
 refine aT Tryz.func36 λ w0=>?_;refine c9 ?_;refine aF (f5 (i:=1) rfl rfl rfl rfl rfl ab) ?_;refine eW (fS V [] hwe ai _ 0 (cb-1) 0 0 (λ hne=>absurd rfl hne) rfl) rfl ⟨⟨0,_,by simp[kR,LibV.heap],rfl,fE,.inl rfl⟩,⟨1,by simp[kR,LibV.heap],rfl⟩,⟨2,by simp[kR,LibV.heap],rfl⟩,⟨3,by simp[kR,LibV.heap],rfl⟩,an⟩ ?_;rintro v H' ⟨An,cn,rfl,rfl⟩;refine dQ ?_;refine aF (v:=ap bb (ob+0)) (gq (m:=0) rfl ab) ?_;refine Hj ?_;refine ak rfl (λ _=>?_) (λ h=>absurd rfl h);refine aI ?_;refine aF (v:=ap bb (ob+0)) (gq (m:=0) rfl ab) ?_;refine aF (v:=dk w) (aZ (i:=0) 1 rfl rfl rfl) ?_;subst hM;refine bK (fst:=[]) (cap:=[]) [] TA rfl rfl rfl rfl aX (K:=V.heap) (ay.picks [5,6,7,8,9,2,3,4] ab rfl) ⟨⟨0,ai,rfl⟩,⟨1,ai,rfl⟩,⟨2,ai,rfl⟩,an⟩ aK ?_;rintro v H' ⟨o,m',t',A2,c2,h,rfl,rfl⟩;refine ec ?_;exact aM [0,1,2,3,4,5] ⟨_,rfl,o,m',t',A2,c2,h,rfl,rfl⟩
theorem Aq(V:LibV)(pp p:Nat)(m:cO)(t line w:cP)(n1:w≠[124])(n2:w≠[102,108,111,119])(n3:w≠[99,117,116])(n4:w≠[115,111,108,118,101])(n5:w≠[112,97,105,114,115])(T:Ws)(hT:T≠[])(hwe:∀ x∈T,x.length<=10000000)(hTl:T.length<=3000)(cb bb ob:Nat)(hnc:T.length+1<=cb):
 Fn 36 [.pointer (some ⟨pp,0,none⟩),dk line,.slice (some ⟨bb,ob,none⟩) (T.length+1) cb] (aC (bO pp p m t)) (kR bb ob w T V++bO pp p m t) (vx pp p λ o q' t'=>q'=m.sta/\t'=t/\o=eL):=by
 have hpos:=NM.2 hT
 generalize hM:aC _=M
 refine aT Tryz.func36 λ w0=>?_;refine v7 ?_
 refine bA [] (fS V T (λ y hy=>hwe y hy) aa (fA (aL bb ob) cb 1 1) T.length (cb-1) bb (ob+1) (λ hne=>by
  have:=NM.2 hne;rw[eS (b:=bb) (o:=ob) (n:=T.length+1) aK aa aa]) rfl) rfl rfl rfl rfl aX ⟨⟨0,_,by simp[LibV.heap],rfl,dz (bq bb ob (cv (w::T))) 1,.inr rfl⟩,⟨1,by simp[LibV.heap],rfl⟩,⟨2,by simp[LibV.heap],rfl⟩,⟨3,by simp[LibV.heap],rfl⟩,an⟩ aK ?_
 rintro v H' ⟨An,cn,rfl,rfl⟩;refine wg ?_;refine Hj ?_;refine ak rfl (λ h=>absurd h aa) (λ _=>ag ?_);refine cq ?_;refine pD ?_;rintro v H' ⟨A2,c2,rfl,rfl⟩;refine aN ?_;refine aM [0,6,7,8,9,10] ⟨_,rfl,eL,m,t,A2,c2,?_,rfl,rfl⟩;exact ji
open Lib
def tK:aV:=⟨2,1,2,[⟨1,2,5⟩]⟩
theorem sj:tK.Right:=⟨ab,ab,ab,ab,ab,by
 intro a ha;rw[Ni.1 ha]
 decide,ab⟩
def L8:List cP:=[[124,32,112,32,109,97,120,32,50,32,49],[124,32,110,32,49,32,115],[124,32,110,32,50,32,116],[124,32,97,32,49,32,50,32,53]]
def L1:List cP:=[[108,111,97,100],[115,111,108,118,101,32,116],[99,104,101,99,107]]
def KA:cP:=[105,116,101,109,115]
def L3:cP:=[118,97,108,117,101,32,53]
def L6:cP:=[112,97,116,104,32,53,32,49,32,50]
def MN:cP:=[112,32,109,97,120,32,50,32,49,10,110,32,49,32,115,10,110,32,50,32,116,10,97,32,49,32,50,32,53,10]
theorem J3:cN MN=(tK,0,0):=by kernel_rfl
theorem rz{q:du}{t line:cP}{ws:Ws}{o:List cP}{q1:du}{t1 r:cP}(h:ez q t line o q1 t1)(hw:bB line=[124]::ws)(hr:nX line=r):q1=q/\t1=t++(r++[10])/\o=[]:=by
 unfold ez at h;rw[hw] at h;simp only at h;rw[if_neg ab] at h;unfold th at h;rw[if_pos rfl,hr] at h;exact h
theorem rv{d:Nat}(h:d<10):itoa (d:Int)=[UInt8.ofNat (48+d)]:=by
 unfold itoa;rw[if_neg aa,NA,yy h]
theorem LF{f:LI_}(h:jy tK f):f=[5]:=by
 have hl:=h.1.len
 obtain⟨x,rfl⟩:∃ x,f=[x]:=by
  cases f with
  |nil=>exact absurd hl ab
  |cons x r=>
   cases r with
   |nil=>exact⟨x,rfl⟩
   |cons y r=>simp[tK] at hl
 have h1:=h.1.all (⟨1,2,5⟩,x) (by simp[tK])
 have h5:aD tK [5]:=by
  refine⟨⟨rfl,λ p hp=>?_⟩,λ v hv k1 k2=>?_⟩
  ·have:p=(⟨1,2,5⟩,5):=by simpa [tK] using hp
   subst this
   decide
  ·have h1:1<=v:=hv.1;have h2:v<=2:=hv.2;have k1:v≠1:=k1;have k2:v≠2:=k2;omega
 have:=DD sj h h5;have e:∀ y:Int,dH (tK.arcs.zip [y]) tK.snk=y:=λ y=>by simp[dH,tK]
 rw[e,e] at this;simp only at h1;rw[show x=5 by omega]
theorem Dq{N:aV}(hR:N.Right){f s:LI_}(h:jy N f)(hs:sx N f s):sU N f s=0:=by
 obtain⟨hc,hcl,_⟩:=hs.cut hR h;unfold sU;rw[if_pos h.1,if_pos hc,if_pos ((uH hR h.1 hc).2 hcl).symm]
theorem Km:pP tK [5]=[(112,[0],5)]:=by kernel_rfl
theorem Mi:qp tK [(112,[0],5)]=0:=by kernel_rfl
theorem K9:dU tK [(112,[0],5)]=L6++[10]:=by
 unfold dU me hU;rw[Nv,Og,OA,List.flatten_nil,NN,qc];show (nt 112++([5,1,2].map λ n=>32::itoa n).flatten)++[10]=_;simp only[Nv,Og];rw[show itoa 5=[53] from rv (d:=5) ab,show itoa 1=[49] from rv (d:=1) ab,show itoa 2=[50] from rv (d:=2) ab]
 decide
theorem MT:gD kz [5]=L3:=by
 rw[qc];simp only[Nv,Og];rw[show itoa 5=[53] from rv (d:=5) ab]
 decide
theorem Hh(q:du)(ha:q.a=true)(hb:q.b=true)(hd:q.d=true)(l:LB_):q.lack l=0:=by
 unfold du.lack;rw[if_neg (by rw[ha];decide),if_pos];intro c _
 cases c
 ·exact hb
 ·exact hd
theorem JU{os:List (List cP)}{q2:du}{t2:cP}(h:jY D5 [] (L8++L1) os q2 t2):os=[[],[],[],[],nj,[L3],nj]/\∃ s,q2=⟨tK,[5],s,true,true,true⟩/\sx tK [5] s:=by
 obtain⟨o1,_,q1,t1,h1,⟨o2,_,q3,t3,h3,⟨o4,_,q5,t5,h5,⟨o6,_,q7,t7,h7,⟨o8,_,q9,t9,h9,⟨o10,_,q11,t11,h11,⟨o12,_,q13,t13,h13,⟨rfl,rfl,rfl⟩,rfl⟩,rfl⟩,rfl⟩,rfl⟩,rfl⟩,rfl⟩,rfl⟩:=h;obtain⟨rfl,rfl,rfl⟩:=rz (ws:=[[112],[109,97,120],[50],[49]]) (r:=[112,32,109,97,120,32,50,32,49]) h1 ab ab;obtain⟨rfl,rfl,rfl⟩:=rz (ws:=[[110],[49],[115]]) (r:=[110,32,49,32,115]) h3 ab ab;obtain⟨rfl,rfl,rfl⟩:=rz (ws:=[[110],[50],[116]]) (r:=[110,32,50,32,116]) h5 ab ab;obtain⟨rfl,rfl,rfl⟩:=rz (ws:=[[97],[49],[50],[53]]) (r:=[97,32,49,32,50,32,53]) h7 ab ab;have hp:cN (((([]++([112,32,109,97,120,32,50,32,49]++[10]))++([110,32,49,32,115]++[10]))++([110,32,50,32,116]++[10]))++([97,32,49,32,50,32,53]++[10]))=(tK,0,0):=J3
 -- load
 unfold ez at h9;rw[show bB [108,111,97,100]=[[108,111,97,100]] by decide] at h9;simp only at h9;rw[if_neg ab] at h9;unfold th at h9;rw[if_neg ab,if_neg ab,if_neg ab,if_neg ab,if_neg ab,if_pos rfl] at h9;unfold fU at h9;rw[if_pos rfl,hp] at h9;obtain⟨rfl,⟨h0,_⟩|⟨_,rfl,rfl⟩⟩:=h9
 ·exact absurd rfl h0
 -- solve
 unfold ez at h11;rw[show bB [115,111,108,118,101,32,116]=[[115,111,108,118,101],[116]] by decide] at h11;simp only at h11;rw[if_neg ab] at h11;unfold th at h11;rw[if_neg ab,if_neg ab,if_neg ab,if_pos rfl] at h11;obtain⟨rfl,h11⟩:=h11;rw[if_pos ab] at h11;unfold jl at h11;rw[if_neg ab,if_pos ab] at h11;obtain⟨f,s,hf,hs,rfl,rfl⟩:=h11;simp only at hf hs ⊢;have hm:=hf.max sj;obtain rfl:=LF hm
 -- check
 unfold ez at h13;rw[show bB [99,104,101,99,107]=[[99,104,101,99,107]] by decide] at h13;simp only at h13;rw[if_neg ab] at h13;unfold th at h13;rw[if_neg ab,if_neg ab,if_neg ab,if_neg ab,if_neg ab,if_pos rfl] at h13;unfold fU at h13;rw[if_neg ab] at h13;obtain⟨rfl,rfl,h13⟩:=h13;rw[if_pos rfl] at h13
 have hc:(du.mk tK [5] s true true true).checkZ=0:=by
  unfold du.checkZ;rw[Hh _ rfl rfl rfl,if_neg (λ h=>h rfl)];exact Dq sj hm hs
 rw[hc] at h13;subst h13;refine⟨?_,s,rfl,hs⟩;rw[show dH (tK.arcs.zip [5]) tK.snk=5 by decide,MT];rfl
theorem HK{q:du}{s:LI_}(hq:q=⟨tK,[5],s,true,true,true⟩){t:cP}{o:List cP}{q1:du}{t1:cP}(h:ez q t KA o q1 t1):o=[L6]:=by
 subst hq;unfold ez at h;rw[show bB KA=[KA] by decide] at h;simp only at h;rw[if_neg ab] at h;unfold th at h;rw[if_neg ab,if_neg ab,if_neg ab,if_neg ab,if_neg ab,if_pos rfl] at h;unfold fU at h;rw[if_neg ab] at h;obtain⟨_,_,h⟩:=h;rw[if_neg ab,if_neg ab,if_pos ab] at h
 have h5:aD tK [5]:=by
  refine⟨⟨rfl,λ p hp=>?_⟩,λ v hv k1 k2=>?_⟩
  ·have:p=(⟨1,2,5⟩,5):=by simpa [tK] using hp
   subst this
   decide
  ·have h1:1<=v:=hv.1;have h2:v<=2:=hv.2;have k1:v≠1:=k1;have k2:v≠2:=k2;omega
 have hz:(du.mk tK [5] s true true true).itemsZ=([(112,[0],5)],0):=by
  unfold du.itemsZ;rw[Hh _ rfl rfl rfl,if_neg (λ h=>h rfl),if_pos h5,Km]
 unfold du.itemsT at h;rw[hz] at h;simp only at h;rw[if_neg (λ h=>h rfl),Mi,K9] at h;rw[h];unfold cG;rw[if_neg (λ h=>h rfl)]
 decide
theorem AE{os:List (List cP)}{q2:du}{t2:cP}(h:jY D5 [] (L8++L1++[KA]) os q2 t2):os=[[],[],[],[],nj,[L3],nj,[L6]]:=by
 have key:∀ {ls ms:List cP} {q:du} {t:cP} {os:List (List cP)} {q2:du} {t2:cP},jY q t (ls++ms) os q2 t2->∃ o1 o2 q1 t1,jY q t ls o1 q1 t1/\jY q1 t1 ms o2 q2 t2/\os=o1++o2:=by
  intro ls
  induction ls with
  |nil=>intro ms q t os q2 t2 h;exact⟨[],os,q,t,⟨rfl,rfl,rfl⟩,h,rfl⟩
  |cons l ls ih=>
   rintro ms q t os q2 t2 ⟨o,os1,q1,t1,h1,h2,rfl⟩;obtain⟨o1,o2,q3,t3,h3,h4,rfl⟩:=ih h2;exact⟨o::o1,o2,q3,t3,⟨o,o1,q1,t1,h1,h3,rfl⟩,h4,rfl⟩
 obtain⟨o1,o2,q1,t1,h1,⟨o,_,q3,t3,h3,⟨rfl,rfl,rfl⟩,rfl⟩,rfl⟩:=key h;obtain⟨rfl,s,hs,_⟩:=JU h1;rw[HK hs h3];rfl
open Lib
theorem eb{pp p:Nat}{R R':List cP->du->cP->Prop}(h:∀ o q t,R o q t->R' o q t)(v:Value)(H':Heap)(hd:vx pp p R v H'):vx pp p R' v H':=by
 obtain⟨o,m',t',A,c,h1,h2,h3⟩:=hd;exact⟨o,m',t',A,c,h _ _ _ h1,h2,h3⟩
theorem hJ{q:du}{t w:cP}{P:List cP->Prop}(hw:w≠[108,111,97,100])(h:∀ o,P o->(if w=[99,104,101,99,107] then o=cG q.checkZ nj
 else if w=kz then o=cG q.valZ.2 [gD kz [q.valZ.1]]
 else if w=[105,116,101,109,115] then o=q.itemsT
 else if w=[114,101,112,111,114,116] then o=cG q.repZ.2 (aB q.repZ.1)
 else if w=[112,114,105,110,116] then o=cG q.printZ.2 (aB q.printZ.1)
 else if w=[99,111,117,110,116] then q.countR o
 else o=eL)) (o:List cP) (q':du) (t':cP) (ha:x6 q t P o q' t'):fU q t w o q' t':=by
 obtain⟨h1,h2,h3⟩:=ha;unfold fU;rw[if_neg hw];exact⟨h1,h2,h o h3⟩
theorem qZ{q:du}{t line w:cP}(n1:w≠[124])(n2:w≠[102,108,111,119])(n3:w≠[99,117,116])(n4:w≠[115,111,108,118,101])(n5:w≠[112,97,105,114,115])(o:List cP)(q':du)(t':cP)(h:fU q t w o q' t'):th q t line w [] o q' t':=by
 unfold th;rw[if_neg n1,if_neg n2,if_neg n3,if_neg n4,if_neg n5,if_pos rfl];exact h
theorem Ig{q:du}{t line:cP}{T:Ws}(o:List cP)(q':du)(t':cP)(h:q'=q/\t'=t++(nX line++[10])/\o=[]):th q t line [124] T o q' t':=by
 unfold th;rw[if_pos rfl];exact h
theorem zl{q:du}{t line:cP}{T:Ws}(o:List cP)(q':du)(t':cP)(h:t'=t/\(if T.length=1/\(T.getD 0 []).length=1 then jl q (((T.getD 0 []).getD 0 0).toNat:Int) o q' else q'=q/\o=eL)):th q t line [115,111,108,118,101] T o q' t':=by
 unfold th;rw[if_neg ab,if_neg ab,if_neg ab,if_pos rfl];exact h
theorem Mh(V:LibV):Le V λ l=>l∈L8++L1++[KA]:=by
 intro pp p m t line w T cb bb ob hm hL hl ht hw hh hnc;have hwe:∀ x∈T,x.length<=10000000:=λ x hx=>by have:=kM line x (by rw[hw];simp[hx]);omega
 have hTl:T.length<=3000:=by have:=kB line;rw[hw,Nh] at this;omega
 have bar:w=[124]->Fn 36 [ap pp 0,dk line,ax bb ob (T.length+1) cb] (aC (bO pp p m t)) ([.seg bb ob (cv (w::T))]++V.heap++bO pp p m t) (vx pp p (th m.sta t line w T)):=λ e=>by
  subst e;exact (yO V pp p m t line ht hl T hwe hTl cb bb ob hnc).mono (eb Ig)
 simp only[L8,L1,KA,Od,Oq,Nn,Nt,or_false] at hL
 rcases hL with rfl|rfl|rfl|rfl|rfl|rfl|rfl|rfl
 ·rw[show bB [124,32,112,32,109,97,120,32,50,32,49]=[[124],[112],[109,97,120],[50],[49]] by decide] at hw;exact bar (Pk hw).1.symm
 ·rw[show bB [124,32,110,32,49,32,115]=[[124],[110],[49],[115]] by decide] at hw;exact bar (Pk hw).1.symm
 ·rw[show bB [124,32,110,32,50,32,116]=[[124],[110],[50],[116]] by decide] at hw;exact bar (Pk hw).1.symm
 ·rw[show bB [124,32,97,32,49,32,50,32,53]=[[124],[97],[49],[50],[53]] by decide] at hw;exact bar (Pk hw).1.symm
 ·rw[show bB [108,111,97,100]=[[108,111,97,100]] by decide] at hw;obtain⟨rfl,rfl⟩:=Pk hw;exact (mw V pp p m t _ _ ab ab ab ab ab (vN V pp p m t ht) cb bb ob hnc).mono (eb (qZ ab ab ab ab ab))
 ·rw[show bB [115,111,108,118,101,32,116]=[[115,111,108,118,101],[116]] by decide] at hw;obtain⟨rfl,rfl⟩:=Pk hw;exact (vt V pp p m hm t _ [[116]] hwe hTl cb bb ob hnc).mono (eb zl)
 ·rw[show bB [99,104,101,99,107]=[[99,104,101,99,107]] by decide] at hw;obtain⟨rfl,rfl⟩:=Pk hw;exact (mw V pp p m t _ _ ab ab ab ab ab (wL V pp p m hm t) cb bb ob hnc).mono (eb λ o q' t' h=>qZ ab ab ab ab ab o q' t' (hJ ab (λ o h=>by rw[if_pos rfl];exact h) o q' t' h))
 ·rw[show bB [105,116,101,109,115]=[[105,116,101,109,115]] by decide] at hw;obtain⟨rfl,rfl⟩:=Pk hw;exact (mw V pp p m t _ _ ab ab ab ab ab (vQ V pp p m hm t) cb bb ob hnc).mono (eb λ o q' t' h=>qZ ab ab ab ab ab o q' t' (hJ ab (λ o h=>by rw[if_neg ab,if_neg ab,if_pos rfl];exact h) o q' t' h))
open Lib
def Lr:cP:=[124,32,112,32,109,97,120,32,50,32,49,10,124,32,110,32,49,32,115,10,124,32,110,32,50,32,116,10,124,32,97,32,49,32,50,32,53,10,108,111,97,100,10,115,111,108,118,101,32,116,10,99,104,101,99,107,10,105,116,101,109,115]
theorem sw:aB Lr=L8++L1++[KA]:=by decide+kernel
theorem GQ{v:Value}{H':Heap}(h:KK Lr v H'):∃ (A:OA_) (c:Nat) (A0 A1 A2 A3 A4 A5 A6 A7:OA_) (c0 c1 c2 c3 c4 c5 c6 c7:Nat),v=.slice A 8 c/\H'=B4 A c [⟨A0,c0,[]⟩,⟨A1,c1,[]⟩,⟨A2,c2,[]⟩,⟨A3,c3,[]⟩,⟨A4,c4,nj⟩,⟨A5,c5,[L3]⟩,⟨A6,c6,nj⟩,⟨A7,c7,[L6]⟩]:=by
 obtain⟨rows,A,c,h1,_,rfl,rfl⟩:=h;obtain⟨q,t,ht⟩:=h1 ab (by rw[sw];decide);rw[sw] at ht;have hr:=AE ht
 match rows,hr with
 |[⟨A0,c0,_⟩,⟨A1,c1,_⟩,⟨A2,c2,_⟩,⟨A3,c3,_⟩,⟨A4,c4,_⟩,⟨A5,c5,_⟩,⟨A6,c6,_⟩,⟨A7,c7,_⟩],hr=>
  simp only[Nv,Og,OO,and_true] at hr;obtain⟨rfl,rfl,rfl,rfl,rfl,rfl,rfl,rfl⟩:=hr;exact⟨A,c,A0,A1,A2,A3,A4,A5,A6,A7,c0,c1,c2,c3,c4,c5,c6,c7,rfl,rfl⟩
 |[],hr|[_],hr|[_,_],hr|[_,_,_],hr|[_,_,_,_],hr|[_,_,_,_,_],hr|[_,_,_,_,_,_],hr|[_,_,_,_,_,_,_],hr=>simp at hr
 |_::_::_::_::_::_::_::_::_::_,hr=>simp at hr
theorem FJ(V:LibV):Fn 11 [] [] V.heap λ v H'=>v=.bool true/\H'=[]:=by
 refine aT Tryz.func11 λ w0=>?_;refine mM ?_
 refine bA [] (yg V (Mh V) Lr ab (λ _ _ l hl=>by
  rw[sw] at hl;refine⟨hl,?_⟩;have:∀ x∈L8++L1++[KA],x.length<=3000:=ab;exact this l hl)) rfl rfl rfl rfl aX ⟨⟨0,by simp[LibV.heap],rfl⟩,⟨1,by simp[LibV.heap],rfl⟩,⟨2,by simp[LibV.heap],rfl⟩,an⟩ aK ?_
 rintro v H' hq;obtain⟨A,c,A0,A1,A2,A3,A4,A5,A6,A7,c0,c1,c2,c3,c4,c5,c6,c7,rfl,rfl⟩:=GQ hq;refine ec ?_;refine aR (aH 0 rfl) λ ⟨_,_,hA,_⟩=>?_;obtain⟨g,rfl⟩:=hA (Nat.succ_pos _);refine aR (aH 6 rfl) λ ⟨_,_,h5,_⟩=>?_;obtain⟨g5,rfl⟩:=h5 (Nat.succ_pos _);refine aR (aH 7 rfl) λ ⟨_,_,h6,_⟩=>?_;obtain⟨g6,rfl⟩:=h6 (Nat.succ_pos _);refine aR (aH 8 rfl) λ ⟨_,_,h7,_⟩=>?_;obtain⟨g7,rfl⟩:=h7 (Nat.succ_pos _);refine aI ?_;refine dt 6 rfl ab<|ek ?_;refine ae [3] (v:=ap g 5) (bn (m:=5) rfl ab) rfl<|ae [3] (v:=ax g5 0 1 c5) (aw 0 rfl rfl rfl rfl) rfl<|ek ?_;refine dt 13 rfl ab<|bp [3,10] ?_;refine ae [3,10] (v:=ap g 5) (bn (m:=5) rfl ab) rfl<|ae [3,10] (v:=ax g5 0 1 c5) (aw 0 rfl rfl rfl rfl) rfl<|bp [3,10] ?_;refine ae [3,10] (v:=ap g5 0) (bn (m:=0) rfl ab) rfl<|ae [3,10] (v:=dk L3) (aw 6 rfl rfl rfl rfl) rfl<|bp [3,10] ?_;refine aA 21 (v':=.bool true) rfl (Na Value.bool ((iS _ L3).trans (aQ rfl)))<|bp [3,10,18] ?_;refine ae [3,10,18] (v:=ap g 6) (bn (m:=6) rfl ab) rfl<|ae [3,10,18] (v:=ax g6 0 1 c6) (aw 0 rfl rfl rfl rfl) rfl<|bp [3,10,18] ?_;refine dt 28 rfl ab<|bp [3,10,18,25] ?_;refine ae [3,10,18,25] (v:=ap g 6) (bn (m:=6) rfl ab) rfl<|ae [3,10,18,25] (v:=ax g6 0 1 c6) (aw 0 rfl rfl rfl rfl) rfl<|bp [3,10,18,25] ?_;refine ae [3,10,18,25] (v:=ap g6 0) (bn (m:=0) rfl ab) rfl<|ae [3,10,18,25] (v:=dk [111,107]) (aw 7 rfl rfl rfl rfl) rfl<|bp [3,10,18,25] ?_;refine aA 36 (v':=.bool true) rfl (Na Value.bool ((iS _ [111,107]).trans (aQ rfl)))<|bp [3,10,18,25,33] ?_;refine ae [3,10,18,25,33] (v:=ap g 7) (bn (m:=7) rfl ab) rfl<|ae [3,10,18,25,33] (v:=ax g7 0 1 c7) (aw 0 rfl rfl rfl rfl) rfl<|bp [3,10,18,25,33] ?_;refine dt 43 rfl ab<|bp [3,10,18,25,33,40] ?_;refine ae [3,10,18,25,33,40] (v:=ap g 7) (bn (m:=7) rfl ab) rfl<|ae [3,10,18,25,33,40] (v:=ax g7 0 1 c7) (aw 0 rfl rfl rfl rfl) rfl<|bp [3,10,18,25,33,40] ?_;refine ae [3,10,18,25,33,40] (v:=ap g7 0) (bn (m:=0) rfl ab) rfl<|ae [3,10,18,25,33,40] (v:=dk L6) (aw 8 rfl rfl rfl rfl) rfl<|bp [3,10,18,25,33,40] ?_;exact ah<|aM [] ⟨_,rfl,Na Value.bool ((iS _ L6).trans (aQ rfl)),rfl⟩
open Lib
theorem D2(V:LibV)(pp p:Nat)(m:cO)(hm:m.sta.OK)(t w:cP)(ht:t.length<=9999999):Fn 71 [.pointer (some ⟨pp,0,none⟩),dk w] (aC (bO pp p m t)) (V.heap++bO pp p m t) (vx pp p (fU m.sta t w)):=by
 by_cases h0:w=[108,111,97,100]
 ·subst h0;exact vN V pp p m t ht
 by_cases h1:w=[99,104,101,99,107]
 ·subst h1;exact (wL V pp p m hm t).mono (eb (hJ h0 λ o h=>by rw[if_pos rfl];exact h))
 by_cases h2:w=[118,97,108,117,101]
 ·subst h2;exact (Eb V pp p m hm t).mono (eb (hJ h0 λ o h=>by rw[if_neg h1,if_pos (by rfl)];exact h))
 have h2':w≠kz:=h2;by_cases h3:w=[105,116,101,109,115]
 ·subst h3;exact (vQ V pp p m hm t).mono (eb (hJ h0 λ o h=>by rw[if_neg h1,if_neg h2',if_pos rfl];exact h))
 by_cases h4:w=[114,101,112,111,114,116]
 ·subst h4;exact (Df V pp p m hm t).mono (eb (hJ h0 λ o h=>by rw[if_neg h1,if_neg h2',if_neg h3,if_pos rfl];exact h))
 by_cases h5:w=[112,114,105,110,116]
 ·subst h5;exact (Da V pp p m hm t).mono (eb (hJ h0 λ o h=>by rw[if_neg h1,if_neg h2',if_neg h3,if_neg h4,if_pos rfl];exact h))
 by_cases h6:w=[99,111,117,110,116]
 ·subst h6;exact (DZ V pp p m hm t).mono (eb (hJ h0 λ o h=>by rw[if_neg h1,if_neg h2',if_neg h3,if_neg h4,if_neg h5,if_pos rfl];exact h))
 exact (Dh V pp p m t w h0 h1 h2 h3 h4 h5 h6).mono (eb (hJ h0 λ o h=>by rw[if_neg h1,if_neg h2',if_neg h3,if_neg h4,if_neg h5,if_neg h6];exact h))
theorem Lu(V:LibV):Le V λ _=>True:=by
 intro pp p m t line w T cb bb ob hm _ hl ht hw hh hnc;have hwe:∀ x∈T,x.length<=10000000:=λ x hx=>by have:=kM line x (by rw[hw];simp[hx]);omega
 have hTl:T.length<=3000:=by have:=kB line;rw[hw,Nh] at this;omega
 by_cases h0:w=[124]
 ·subst h0;exact (yO V pp p m t line ht hl T hwe hTl cb bb ob hnc).mono (eb Ig)
 by_cases h1:w=[102,108,111,119]
 ·subst h1;refine (ED V pp p m t line T hwe hTl cb bb ob hnc).mono (eb λ o q' t' h=>?_);unfold th;rw[if_neg h0,if_pos rfl];exact h
 by_cases h2:w=[99,117,116]
 ·subst h2;refine (Gk V pp p m t line T hwe hTl cb bb ob hnc).mono (eb λ o q' t' h=>?_);unfold th;rw[if_neg h0,if_neg h1,if_pos rfl];exact h
 by_cases h3:w=[115,111,108,118,101]
 ·subst h3;exact (vt V pp p m hm t line T hwe hTl cb bb ob hnc).mono (eb zl)
 by_cases h4:w=[112,97,105,114,115]
 ·subst h4;refine (Az V pp p m t line T hwe hTl cb bb ob hnc).mono (eb λ o q' t' h=>?_);unfold th;rw[if_neg h0,if_neg h1,if_neg h2,if_neg h3,if_pos rfl];exact h
 by_cases h5:T=[]
 ·subst h5;exact (mw V pp p m t line w h0 h1 h2 h3 h4 (D2 V pp p m hm t w ht) cb bb ob hnc).mono (eb (qZ h0 h1 h2 h3 h4))
 ·refine (Aq V pp p m t line w h0 h1 h2 h3 h4 T h5 hwe hTl cb bb ob hnc).mono (eb λ o q' t' h=>?_);unfold th;rw[if_neg h0,if_neg h1,if_neg h2,if_neg h3,if_neg h4,if_neg h5];exact h
end Go.Proofs.YtmcnpaelaieniaaGreatDoor
