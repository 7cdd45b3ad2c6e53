import Derived.Test.YtmcnpaelaieniaaGreatDoorQX137
/- A part of the proof. -/
set_option linter.unusedVariables false
set_option linter.unusedSimpArgs false
set_option maxHeartbeats 8000000
namespace Go.Proofs.YtmcnpaelaieniaaGreatDoor
open Go.RowKit
def Jj(N:aV)(f:LI_)(least:Int)(m:Nat)(v:Value)(H':Heap):Prop:=
 (aD N f/\1<=least/\∃ (f':LI_) (ws:List (LN_×Int)) (k:Nat) (Ao:OA_) (co:Nat),ry N least f ws f'/\2*N.arcs.length<=k/\k<=jd N.nodes.toNat N.arcs.length/\ws.length<=N.arcs.length/\
  v=.tuple #[.slice Ao m co,.int .i64 (ws.length:Int),.int .i64 (k:Int),.int .i64 0]/\H'=[.own (.slice Ao m co) 2 1 m (aj f')])\/
 (¬ aD N f/\v=.tuple #[.slice none 0 0,.int .i64 0,.int .i64 0,.int .i64 (eP N f)]/\H'=[])\/(aD N f/\least<1/\v=.tuple #[.slice none 0 0,.int .i64 0,.int .i64 0,.int .i64 3]/\H'=[])
theorem E9(N:aV)(hN:N.Fits)(hR:N.Right)(A:OA_)(c b o:Nat)(hA:N.arcs≠[]->A=some ⟨b,o,none⟩)(f:LI_)(F:OA_)(cf bf of:Nat)(hF:f≠[]->F=some ⟨bf,of,none⟩)(hf:∀ x∈f,b7 x)(hfl:f.length*8<=140737488351232)(least:Int)(hlb:b7 least):
 Fn 232 [bZ N A c,.slice F f.length cf,.int .i64 least] [] [.seg b o (arcs N.arcs),.seg bf of (aj f)] (Jj N f least f.length):=by
 have hnn:=hR.nodes;have hl2:=hR.len;obtain⟨n,hn⟩:∃ n:Nat,N.nodes=n:=⟨N.nodes.toNat,aa⟩;refine aT Tryz.func232 λ w0=>?_;refine bu ?_;refine cY (cs:=bU N A c) λ p=>?_;refine ie ?_;refine dG (yw N hN hR A c b o hA f F cf bf of hF hf hfl least) rfl ⟨bz 1 rfl,bz 2 rfl,an⟩ ?_;rintro v H' (⟨C,hle,lv,B,cb,p2,rfl,rfl⟩|⟨C,rfl,rfl⟩|⟨C,hle,rfl,rfl⟩)
 case inr.inl=>
  refine fD ?_;refine ak rfl (λ h=>?_) (λ h=>absurd (cZ.1 (No.1 h)) C);refine ao ?_;refine aM [] ⟨_,rfl,.inr (.inl ⟨C,rfl,rfl⟩)⟩
 case inr.inr=>
  refine fD ?_;refine ak rfl (λ h=>?_) (λ h=>absurd h ab);refine ao ?_;refine aM [] ⟨_,rfl,.inr (.inr ⟨C,hle,rfl,rfl⟩)⟩
 refine fD ?_;refine ak rfl (λ h=>absurd rfl h) (λ _=>ag ?_);refine GV ?_;rintro v H' (⟨_,A1,S,rfl,rfl⟩|⟨h,_,_⟩)
 case inr=>exact absurd C h
 refine ec ?_;have hfN:=C.len;obtain⟨ls,M⟩:∃ ls,ls=di N (bc (N.arcs.zip f)) least lv (2*N.arcs.length):=⟨_,rfl⟩;rw[<- M];have hH:∀ r∈ls,r<2*N.arcs.length:=λ r z=>(fI.1 (M▸z)).1;have hlsh:ls.length<=N.arcs.length:=M▸z1 N _ least lv _;have hG:=j3 p2;rw[<- M] at hG;refine aR (aH 1 rfl) λ ⟨_,_,hB,hlB⟩=>?_;obtain⟨gB,hB⟩:=bg hB hlB;refine aR (aH 0 rfl) λ ⟨_,_,hy,k0⟩=>?_;obtain⟨gr,hy⟩:=bg hy k0;have hB':ls≠[]->B=aL gB 0:=λ h=>hB (by intro h0;apply h;have:=f0 ls;unfold cJ at this;rw[h0] at this;exact Ny.1 this.symm);obtain⟨d,j⟩:∃ x,x=bc (N.arcs.zip f):=⟨_,rfl⟩;have I:d.length=2*N.arcs.length:=by rw[j];exact kg C.len
 have ht:d≠[]->A1=aL gr 0:=λ h=>hy (by rw[<- j];intro h0;exact h (Ny.1 (by rw[<- bY,h0];rfl)));rw[<- j];refine cq ?_;refine bM 7 (dT [0,1,3,4]++[(2,false),(5,false)]++dT [6]) [2] aX ab rfl ?_
 (repeat' (first|refine eJ (gs:=[999]) rfl rfl ?_|refine aG [999] rfl (ad (v:=bZ N A c) 0 rfl) rfl ?_))
 refine cz ?_;have p8:aj d≠[]->A1=aL gr 0:=by rw[j];exact hy
 have TC:=gW A1 S gr 0 d ht aa;rw[I] at TC;refine dG TC rfl ⟨ff 0 rfl p8,an⟩ ?_;rintro _ H' ⟨Ac,cc,rfl,rfl⟩;refine⟨rfl,b6 [3] ?_⟩;refine cz ?_;refine dG (Ly N hR A c b o hA Ac cc ls hH aa B cb gB 0 hB' least n hn) rfl ⟨bz 4 rfl,ff 2 rfl hB,an⟩ ?_;rintro _ H' ⟨pe,gl,gu,pt,ps,gn,go,co,cap,rows,rfl,hd,hL,rfl⟩;refine⟨dl rfl (dd _ _),?_⟩;refine cD ay.swap<|b6 [10]<|eJ (gs:=[999]) rfl rfl<|gA ?_;refine aR (aH 7 rfl) λ ⟨_,_,ho,U⟩=>?_;obtain⟨gc,ho⟩:=bg ho U
 obtain⟨A0,hb⟩:∃ A0:Heap,A0=lT pt ps go gn co cap (n+1) ⟨λ _=>lN 4611686018427387904,λ _=>none,0⟩++[blk pe 310 (yF N A c Ac cc least n gl gu (.pointer (some ⟨pt,0,none⟩)) ls.length 0),.own (.slice (some ⟨gl,0,none⟩) (n+1) (n+1)) 23 1 (n+1) (rows.map cT),.own (.slice (some ⟨gu,0,none⟩) (n+1) (n+1)) 23 1 (n+1) ((List.replicate (n+1) en).map cT)]++
  [.own (.slice Ac (2*N.arcs.length) cc) 2 1 (2*N.arcs.length) (aj d),.own (.slice A1 (2*N.arcs.length) S) 2 1 (2*N.arcs.length) (aj d),.own (.slice B ls.length cb) 3 1 ls.length (cJ ls),blk p 33 (bU N A c),.seg b o (arcs N.arcs),.seg bf of (aj f)]:=⟨_,rfl⟩
 refine bS (K:=A0++(rows++List.replicate (n+1) en).map (bd 3)) (by rw[hb];exact ay.refl) ?_;have hj:A0.length=13:=by rw[hb];rfl
 have k2:∀ w,dN w0 [] w (A0++(rows++List.replicate (n+1) en).map (bd 3))->
  ∀ v:Nat,∃ gv:Nat,∀ row,rows[v]?=some row->row.l.length<=row.c/\(aj row.l≠[]->row.A=aL gv 0):=by
  intro w hw v
  cases hv:rows[v]? with
  |none=>exact⟨0,λ row h=>by cases h⟩
  |some row=>
   obtain⟨_,h2,h3,h4⟩:=aH (X:=⟨w0,[],⟨0,[]⟩⟩) (13+v) (show _=some (bd 3 row) by
    rw[NB aa,hj,NY,Nk,NZ (Ng.1 hv).1,hv];rfl) w hw
   obtain⟨gv,hz⟩:=bg h3 h4;exact⟨gv,λ row' h=>by simp only[Nc] at h;subst h;exact⟨h2,hz⟩⟩
 refine aR k2 λ D=>?_;obtain⟨gv,hz⟩:∃ gv:Nat->Nat,∀ (v:Nat) (row:fg),rows[v]?=some row->row.l.length<=row.c/\(aj row.l≠[]->row.A=aL (gv v) 0):=⟨λ v=>Classical.choose (D v),λ v=>Pg (D v)⟩
 clear D k2
 obtain⟨P,E⟩:∃ P:EP,P={ N:=N,least:=least,n:=n,A:=A,c:=c,b:=b,o:=o,gr:=gc,Ar:=Ac,cr:=cc,gl:=gl,gu:=gu,pe:=pe,pt:=pt,ps:=ps,go:=go,gn:=gn,co:=co,cap:=cap,rowsL:=rows }:=⟨_,rfl⟩;obtain⟨s0,y⟩:∃ s:ES,s={ vals:=rows.map cT,un:=List.replicate (n+1) en,fs:=⟨λ _=>lN 4611686018427387904,λ _=>none,0⟩,rm:=d,k:=ls.length,w:=0 }:=⟨_,rfl⟩
 refine bS (K:=gZ P s0++[P.sg,.own (.slice A1 (2*N.arcs.length) S) 2 1 (2*N.arcs.length) (aj d),.seg bf of (aj f)]) (by
  rw[hb,E,y];exact ay.mid [0,1,2,3,4,7,5,6] [11,8,12] rfl rfl ab) ?_
 clear hb hj
 have hP:mX P (fF N ls) (dL lv) gv:=by
  rw[E];exact⟨hR,hn,hG,hd,hL,λ v row h=>(hz v row h).2,λ v=>Ov (lp N ls v) aa,hA,λ h=>ho (by intro h0;rw[h0] at U;simp at U;exact h (Ny.1 (show N.arcs.length=0 by omega))),hlb⟩
 have u:P.N=N:=by rw[E]
 have hc:P.least=least:=by rw[E]
 have V:P.n=n:=by rw[E]
 have hPr:P.rowsL=rows:=by rw[E]
 have hPp:P.pe=pe:=by rw[E]
 have hI0:lJ P (fF N ls) gv d d (List.replicate (n+1) 0) (λ _=>none) (λ _=>4611686018427387904) s0:=by
  refine⟨⟨_,by rw[y,V];exact iJ.new ab⟩,⟨by rw[V];simp,λ _ _ _ h=>(by cases h),λ _ _ _=>rfl,by rw[y,u];exact I,λ _ _ _ _=>by rw[y],λ _ _=>by rw[y],λ r=>by rw[j];exact gC hR C.toRanged r⟩,?_,?_⟩
  ·rw[y,hPr];refine⟨ai,λ v row q z hq=>?_⟩;rw[Nw] at hq;split at hq
   ·simp only[Option.some.injEq] at hq;subst hq;have h1:=hz v row z;refine⟨row.A,row.c,by rw[List.getElem?_map,z];rfl,h1.1,fun hp=>h1.2 (fun h0=>?_)⟩;have:row.l.length=0:=by rw[← bY,h0];rfl
    omega
   ·cases hq
  ·rw[y,V];refine⟨ai,λ w row z=>?_⟩;rw[Nw] at z;split at z
   ·simp only[Nc] at z;subst z;exact⟨[],rfl,PH,λ v=>by simp⟩
   ·cases z
 have Y:PI P.N (fF N ls) P.least d (List.replicate (n+1) 0) []:=by
  have:=PI.start (N:=N) (L:=fF N ls) (least:=least) (rm:=d);rw[hn,NA] at this;rw[u,hc];exact this
 have k4:1<=P.least:=by rw[hc];exact hle
 rw[<- hPp];refine gN ?_;refine dI (Lg hP k4 s0 hI0 Y (λ _ _ _ h=>(by cases h)) (f:=f) (by rw[u];exact C) (by rw[u];exact j)) rfl ay.refl ⟨bz 0 rfl,an⟩ ?_;rintro _ H' ⟨t,rfl,hS,hIt,O,hs,hwt,hct⟩;refine⟨dl rfl (dd _ _),?_⟩;refine ah<|gN ?_;refine dI (GU hP t.s hIt) rfl ay.refl ⟨bz 0 rfl,an⟩ ?_;rintro _ H' ⟨par3,val3,a,rfl,Z,k3,hw3,hc3⟩;refine⟨dl rfl (dd _ _),?_⟩;refine ah ?_
 refine bS (K:=P.fo a.fs++[P.pc a.k a.w,P.rc a.rm,.own (.slice A1 (2*N.arcs.length) S) 2 1 (2*N.arcs.length) (aj d),.seg bf of (aj f)]) (by
  refine ay.trans (ay.swap (A:=P.fo a.fs++[P.pc a.k a.w,P.rc a.rm,P.lc a.vals,P.uc a.un]) (R:=P.rows a.un) (B:=[P.sg,.own (.slice A1 (2*N.arcs.length) S) 2 1 (2*N.arcs.length) (aj d),.seg bf of (aj f)]))<|ay.trans (ay.re [0,1,2,3,4,5,9,10] rfl ab) (ay.sub (List.sublist_append_left _ _)))<|?_
 refine gN ?_;refine eW (gW F cf bf of f hF aa) rfl ⟨bz 7 rfl,an⟩ ?_;rintro _ H' ⟨Ao,H,rfl,rfl⟩;refine cR ?_;rw[u,hc] at hS;have hcl:(di N (bc (N.arcs.zip f)) least lv (2*N.arcs.length)).length<=_:=lK N _ least lv _;obtain⟨hcnt,q1,_⟩:=hS.count hR hG hle (ls:=ls) (λ v r=>iU) C j;have hcnt2:qM ls least d<=ls.length:=OD _ _;rw[u] at O hs
 have n1:∀ r∈ls,cI r∉ls:=by
  intro r z b2;rw[M] at z b2;have h1:=(fI.1 z).2.2.2;have h2:=(fI.1 b2).2.2.2;rw[ky,iK] at h2;omega
 have l2:∀ r∈ls,a.rm.getD r 0=(bc (N.arcs.zip t.f)).getD r 0:=by
  intro r z;rw[<- hs];refine Z.lead (eN N r) r (iU.2 ⟨z,rfl⟩) λ q hq _=>absurd (k3 _ ?_) hq;have:=ow hR (hH r z);rw[V];omega
 have hg:∀ r,r∉ls->a.rm.getD r 0=(bc (N.arcs.zip f)).getD r 0:=by
  intro r z;rw[<- j];exact Z.rest r λ v hv=>z (iU.1 hv).1
 have ha:∀ r,r∉ls->cI r∉ls->(bc (N.arcs.zip t.f)).getD r 0=(bc (N.arcs.zip f)).getD r 0:=by
  intro r h1 h2;rw[<- hs,<- j];exact q1 r h1 h2
 have hrl3:a.rm.length=2*N.arcs.length:=by have:=Z.rml;rw[u] at this;exact this
 have r1:=O.len
 have hPrc:P.rc a.rm=.own (.slice P.Ar (2*N.arcs.length) P.cr) 2 1 (2*N.arcs.length) (aj a.rm):=by
  show aY.own (.slice P.Ar (2*P.N.arcs.length) P.cr) _ _ _ _=_;rw[u]
 have l1:0<N.arcs.length->A1=aL gr 0:=λ h=>ht (by intro h0;rw[h0] at I;simp at I;omega);obtain⟨m,hm⟩:∃ m,m=N.arcs.length:=⟨_,rfl⟩;have hI:f.length=m:=aa;rw[hI]
 refine bS (K:=P.fo a.fs++[P.pc a.k a.w,P.rc a.rm,.own (.slice A1 (2*N.arcs.length) S) 2 1 (2*N.arcs.length) (aj d),.own (.slice Ao m H) 2 1 m (aj (pk f t.f ls m 0))]) (by
  rw[<- hI,BM];exact ay.re (A:=[.own (.slice Ao f.length H) 2 1 f.length (aj f)]++(P.fo a.fs++[P.pc a.k a.w,P.rc a.rm,.own (.slice A1 (2*N.arcs.length) S) 2 1 (2*N.arcs.length) (aj d),.seg bf of (aj f)])) (R:=[]) [1,2,3,4,5,6,7,0] rfl ab) ?_
 refine gK ?_
 refine cA (σ:=Nat) (λ k=>[(48,af (k:Int)),(47,af ((2*N.arcs.length:Nat):Int)),(46,.slice A1 (2*N.arcs.length) S),(15,.slice Ao m H),(14,ap P.pe 0),(12,.slice A1 (2*N.arcs.length) S)])
  (λ k=>P.fo a.fs++[P.pc (a.k+k) a.w,P.rc a.rm,.own (.slice A1 (2*N.arcs.length) S) 2 1 (2*N.arcs.length) (aj d),.own (.slice Ao m H) 2 1 m (aj (pk f t.f ls m k))])
  (λ k=>k<=2*N.arcs.length) (λ k=>2*N.arcs.length-k) 0 a7 ay.refl (Nl _) ?_
 intro k hk;refine iL ?_;refine ak rfl (λ hlt=>ag ?_) (λ hge=>aO ?_)
 ·have Q:k<2*N.arcs.length:=by omega
  have hkm:k/2<m:=aa;obtain rfl:=l1 aa;have h6:=hP.room (r:=k) (by rw[u];exact Q);have hr0:(aj d)[k]?=some (af (d.getD k 0)):=ep (by rw[Nf,be aa];rfl);have hr3:(aj a.rm)[k]?=some (af (a.rm.getD k 0)):=ep (by rw[Nf,be aa];rfl);have b0:=gC hR C.toRanged k;have b1:=gC hR O.toRanged k;rw[<- j] at b0
  have b3:0<=a.rm.getD k 0/\a.rm.getD k 0<=4611686018427387903:=by
   by_cases e:k∈ls
   ·rw[l2 k e];exact b1
   ·rw[hg k e,<- j];exact b0
  obtain⟨r2,hV⟩:=Eu C.len r1 l2 hg ha n1 Q;rw[<- j] at r2 hV;have o0:=CA hR C.toRanged O.toRanged (ls:=ls) (k:=k) (i:=k/2) aa;have o1:=CA hR C.toRanged O.toRanged (ls:=ls) (k:=k+1) (i:=k/2) aa;refine aR (aH 7 rfl) λ ⟨_,_,hAo,_⟩=>?_;obtain⟨a1,rfl⟩:=hAo aa;refine am (aq ?_);refine ao ?_;refine gN ?_;refine cD (ay.re (A:=P.fo a.fs++[P.pc (a.k+k) a.w,P.rc a.rm,.own (ax gr 0 (2*N.arcs.length) S) 2 1 (2*N.arcs.length) (aj d),.own (ax a1 0 m H) 2 1 m (aj (pk f t.f ls m k))]) (R:=[]) [4,0,1,2,3,5,6,7] rfl ab)<|bK [999] (mS P (a.k+k) a.w) rfl rfl rfl rfl aX ay.refl an aK<|?_;rintro v0 H' rfl;refine dw ?_;refine cD (ay.re (A:=[P.pc (a.k+k+1) a.w]++(P.fo a.fs++[P.rc a.rm,.own (ax gr 0 (2*N.arcs.length) S) 2 1 (2*N.arcs.length) (aj d),.own (ax a1 0 m H) 2 1 m (aj (pk f t.f ls m k))])) (R:=[]) [1,2,3,4,0,5,6,7] rfl ab)<|fC ?_;refine bM 13 (dT [0,1,2,3,4,5,6,7,8,9,10,11,12]) [4,5,6] aX ab rfl ?_
  (repeat' (first|refine eJ (gs:=[999]) rfl rfl ?_|refine aG [999] rfl (ad 0 rfl) rfl ?_|refine aG [999] rfl (bn rfl Q) rfl ?_|refine aG [999] rfl (aw 2 rfl rfl rfl hr0) rfl ?_|refine aG [999] rfl (ic (b:=P.gr) (n:=2*P.N.arcs.length) (c:=P.cr) rfl (Na (λ A=>some (Value.slice A (2*P.N.arcs.length) P.cr)) h6) rfl rfl rfl (by rw[u];exact Q)) rfl ?_|refine aG [999] rfl (aw (g:=P.gr) (n:=2*P.N.arcs.length) (cap:=P.cr) 1 rfl rfl (Na (λ A=>some (aY.own (.slice A (2*P.N.arcs.length) P.cr) 2 1 (2*P.N.arcs.length) (aj a.rm))) h6) hr3) rfl ?_))
  refine gA ?_;refine bD 17 (v':=af (d.getD k 0-a.rm.getD k 0)) rfl (Na (Value.int .i64) (cp aa))<|ao ?_;have hand:IntKind.i64.wrap ((BitVec.ofInt IntKind.i64.bits (k:Int)&&& BitVec.ofInt IntKind.i64.bits 1).toNat:Int)=(k:Int)%2:=CK k
  have hq:∀ x:Int,x=((k:Int)).tdiv 2->IntKind.i64.wrap x=((k/2:Nat):Int):=by
   intro x hx;rw[hx,PO aa,cp aa];omega
  have n2:=nM (f:=f) (f':=t.f) (ls:=ls) (k:=k) hkm;have p4:(aj (pk f t.f ls m k))[k/2]?=some (af (lO f t.f ls k (k/2))):=ep n2;refine cq ?_;refine ak rfl (λ heq=>?_) (λ hne=>?_)
  ·rw[hand] at heq;have q2:=r2 aa;refine bu ?_;refine nG ?_;refine aA 70 (v':=af ((k/2:Nat):Int)) rfl (Na (Value.int .i64) (hq _ rfl))<|aF (bn rfl hkm) ?_;refine aF (aw 7 rfl rfl rfl p4) ?_;refine lB ?_;refine aA 74 (v':=af (lO f t.f ls (k+1) (k/2))) rfl (Na (Value.int .i64) ((cp aa).trans q2))<|KR ?_;refine⟨k+1,⟨?_,rfl,rfl,rfl,rfl,rfl,an⟩,ay.refl,Q,by show 2*N.arcs.length-(k+1)<2*N.arcs.length-k;omega⟩;refine fy ?_;rw[cp aa];rfl
  ·rw[hand] at hne;have q2:=hV aa;refine bu ?_;refine nG ?_;refine aA 78 (v':=af ((k/2:Nat):Int)) rfl (Na (Value.int .i64) (hq _ rfl))<|aF (bn rfl hkm) ?_;refine aF (aw 7 rfl rfl rfl p4) ?_;refine lB ?_;refine aA 82 (v':=af (lO f t.f ls (k+1) (k/2))) rfl (Na (Value.int .i64) ((cp aa).trans q2))<|KR ?_;refine⟨k+1,⟨?_,rfl,rfl,rfl,rfl,rfl,an⟩,ay.refl,Q,by show 2*N.arcs.length-(k+1)<2*N.arcs.length-k;omega⟩;refine fy ?_;rw[cp aa];rfl
 ·obtain rfl:k=2*N.arcs.length:=by omega
  have hoe:pk f t.f ls m (2*N.arcs.length)=t.f:=by
   have:=FO (f:=f) (f':=t.f) (ls:=ls) aa;rw[hI,hm] at this;rw[hm];exact this
  rw[hoe];refine cq ?_;refine bM 19 (dT [0,1,2,3,4,5,6,7,8,9,10,11,12]++[(13,false)]++dT [14,15,16,17,18]) [4] aX ab rfl<|q6 ?_;refine cz ?_
  have hwl:ei (a.w:Int)=(t.ws.length:Int):=by
   have:s0.w=0:=by rw[y]
   exact (cp aa).trans aa
  obtain⟨K,hK⟩:∃ K,K=a.k+2*N.arcs.length+a.fs.k:=⟨_,rfl⟩
  have hKB:K<=jd n N.arcs.length:=by
   have e1:a.cost=a.k+a.fs.k:=rfl;have e2:s0.cost=ls.length:=by rw[y];rfl
   rw[V] at hct hc3;have e3:dy (fF N ls) n (List.replicate (n+1) 0)<=ls.length:=Et N ls n;have e4:eG n*dy (fF N ls) n (List.replicate (n+1) 0)<=eG n*N.arcs.length:=O6 _ aa;have e5:eO n*kb t.par n<=eO n*(n+1):=O6 _ (u6 _ _);unfold jd;rw[OQ];omega
  have hKs:K<9000000000000000000:=by
   have h1:n<=500:=aa
   have h2:em (n+1)<=3000000:=by
    unfold em;have:(n+1)*(n+1)<=501*501:=OS aa aa
    first|omega|(rw[Nat.mul_assoc];omega)|grind
   have h3:(eG n+3)*N.arcs.length<=46000000*2000:=OS (by unfold eG;omega) hl2;have h4:eO n*(n+1)<=16000000*501:=OS (by unfold eO;omega) aa;have h5:(2*em (n+1)+11*(n+1)+1)*(n+1)<=7000000*501:=OS aa aa;unfold jd at hKB;omega
  refine dI (De a.fs) rfl ay.refl an ?_;rintro _ H' ⟨rfl,rfl⟩;refine⟨rfl,b6 [4] ?_⟩;refine eJ (gs:=[999]) rfl rfl<|dK 99 (v':=af (K:Int)) rfl (Na (Value.int .i64) ?_) ?_
  ·show ei (ei ((a.k+2*N.arcs.length:Nat):Int)+ei (a.fs.k:Int))=K;have h1:ei (a.fs.k:Int)=(a.fs.k:Int):=cp aa;have h2:ei ((a.k+2*N.arcs.length:Nat):Int)=((a.k+2*N.arcs.length:Nat):Int):=cp aa;rw[h1,h2];exact (cp aa).trans aa
  refine dK 89 (v':=af (t.ws.length:Int)) rfl (Na (Value.int .i64) hwl)<|m8 ?_;refine cM<|fC ?_;have hBl:=hS.bl hR hG hle C j (pos:=List.replicate (n+1) 0) (W:=[]) (by rw[u,hc] at Y;exact Y);have hnt:N.nodes.toNat=n:=aa;refine aM [7] ⟨_,rfl,.inl ⟨C,hle,t.f,t.ws,K,Ao,H,⟨lv,p2,O,?_⟩,aa,by rw[hnt];exact hKB,aa,rfl,rfl⟩⟩;rw[hnt,<- M,<- j,<- hs];exact hBl
theorem z4(N:aV)(l:N.Fits)(a:N.Right)(A:OA_)(c b o:Nat)(m:N.arcs≠[]->A=some ⟨b,o,none⟩)(f:LI_)(d:aD N f)(F:OA_)(cf e of:Nat)(n:f≠[]->F=some ⟨e,of,none⟩)(least:Int)(hle:1<=least)(g:b7 least):
 Fn 231 [.agg #[],bZ N A c,.slice F f.length cf,.int .i64 least] [] [.seg b o (arcs N.arcs),.seg e of (aj f)] λ v H'=>∃ (f':LI_) (ws:List (LN_×Int)) (Ao:OA_) (co k:Nat),ry N least f ws f'/\2*N.arcs.length<=k/\k<=jd N.nodes.toNat N.arcs.length/\
  v=.tuple #[.slice Ao f.length co,.int .i64 (ws.length:Int),.int .i64 (k:Int)]/\H'=[.own (.slice Ao f.length co) 2 1 f.length (aj f')]:=by
 have hl:=d.len;have q:=a.len;refine aT Tryz.func231 λ w0=>?_;refine bu ?_;refine cY (cs:=[]) λ u=>?_;refine cY (cs:=bU N A c) λ p=>?_;refine ie ?_;refine dG (E9 N l a A c b o m f F cf e of n (aD.inB a d.toRanged) aa least g) rfl ⟨bz 2 rfl,bz 3 rfl,an⟩ ?_;rintro v H' (⟨_,_,f',ws,k,Ao,co,r,i,j,_,rfl,rfl⟩|⟨s,_,_⟩|⟨_,t,_,_⟩)
 case inr.inl=>exact absurd d s
 case inr.inr=>omega
 refine fD ?_;exact aM [0] ⟨_,rfl,f',ws,Ao,co,k,r,i,j,rfl,rfl⟩
theorem BZ:Fn 75 [.int .u8 116] [] [] λ v H'=>v=.iface 191 (.agg #[])/\H'=[]:=by
 refine aT Tryz.func75 λ w0=>?_;refine mG ?_;refine ao ?_;refine ak rfl (λ h=>absurd h ab) (λ _=>?_);refine ao ?_;refine ak rfl (λ _=>?_) (λ h=>absurd rfl h);refine aI ?_;refine fv ?_;refine aN ?_;exact j0
theorem zH{n m:Nat}(b:n<=500)(a:m<=2000):jd n m<=200000000000:=by
 have c:em (n+1)<=3000000:=by
  unfold em;have:(n+1)*(n+1)<=501*501:=OS aa aa;omega
 have d:(eG n+3)*m<=46000000*2000:=OS (by unfold eG;omega) a;have e:eO n*(n+1)<=16000000*501:=OS (by unfold eO;omega) aa;have f:(2*em (n+1)+11*(n+1)+1)*(n+1)<=7000000*501:=OS aa aa;unfold jd;omega
structure FT where
 f:LI_
 A:OA_
 c:Nat
 p:Nat
 k:Nat
 s:Nat
 lv:LI_
theorem yK(N:aV)(hN:N.Fits)(hR:N.Right)(A:OA_)(c b o:Nat)(hA:N.arcs≠[]->A=some ⟨b,o,none⟩)(f:LI_)(hf:aD N f)(F:OA_)(cf bf of:Nat)(hF:f≠[]->F=some ⟨bf,of,none⟩)(least:Int)(hle:1<=least)(Q:b7 least):
 Fn 38 [bZ N A c,.slice F f.length cf,.int .i64 least,.int .u8 116] [] [.seg b o (arcs N.arcs),.seg bf of (aj f)] λ v H'=>∃ (f':LI_) (p k s:Nat) (A':OA_) (c':Nat),Dn N least f p k f'/\(k:Int)<=9223372036854775806/\(p:Int)+1<=N.nodes/\2*N.arcs.length*p<=s/\s<=jd N.nodes.toNat N.arcs.length*p/\
  v=.tuple #[qT A' f'.length c' p k s,.int .i64 0]/\H'=[.own (.slice A' f'.length c') 2 1 f'.length (aj f')]:=by
 have hl:=hf.len;have R:=hR.len;refine ia Tryz.func38 rfl rfl λ w0=>bu ?_;refine cY (cs:=bU N A c) λ p4=>?_;refine dD λ S=>?_;refine Fu ?_;rintro v H' (⟨_,_,lv,t,rfl,rfl⟩|⟨U,_,_⟩|⟨_,u,_,_⟩)
 case inr.inl=>exact absurd hf U
 case inr.inr=>omega
 refine fD ?_;refine ak rfl (λ h=>absurd rfl h) (λ _=>ag ?_);refine aI ?_;refine cj (BZ) rfl an ?_;refine cR ?_;refine bo rfl (ag ?_);refine aI ?_;refine eW (gW F cf bf of f hF aa) rfl ⟨bz 3 rfl,an⟩ ?_;rintro v H' ⟨A0,c0,rfl,rfl⟩;refine fv ?_;refine dD λ w=>?_;refine iA ?_;refine gK ?_;have hz:=dm hR hf.toRanged N.snk;have hq:=hR.nodes;have hn:=hR.src;have h0:=hR.snk;have hc:=hR.diff;have V:=zH (n:=N.nodes.toNat) (m:=N.arcs.length) aa R
 have x:0<=dL lv N.snk.toNat->((0:Nat):Int)+1<=dL lv N.snk.toNat:=by
  intro h
  rcases Int.lt_or_eq_of_le h with h|h
  ·omega
  ·have:=t.zero _ h.symm;omega
 refine bP (σ:=FT) (λ s=>[(10,af (dL s.lv N.snk.toNat)),(12,.iface 191 (.agg #[])),(13,ap w 0),(8,ap S 0),(4,ap p4 0),(2,af least)])
  (λ s=>[blk w 47 [.slice s.A s.f.length s.c,af (s.p:Int),af (s.k:Int),af (s.s:Int)],.own (.slice s.A s.f.length s.c) 2 1 s.f.length (aj s.f),blk S 47 [.slice none 0 0,af 0,af 0,af 0],blk p4 33 (bU N A c),.seg b o (arcs N.arcs)])
  (λ s=>(s.p:Int)+1<=N.nodes/\(0<=dL s.lv N.snk.toNat->(s.p:Int)+1<=dL s.lv N.snk.toNat)/\2*N.arcs.length*s.p<=s.s/\s.s<=jd N.nodes.toNat N.arcs.length*s.p/\aD N s.f/\fw N (bc (N.arcs.zip s.f)) least s.lv/\s.p<=s.k/\dH (N.arcs.zip f) N.snk+s.k<=dH (N.arcs.zip s.f) N.snk/\∀ p k f',Dn N least s.f p k f'->Dn N least f (s.p+p) (s.k+k) f')
  (λ s=>(4611686018427387903-dH (N.arcs.zip s.f) N.snk).toNat) ⟨f,A0,c0,0,0,0,lv⟩ [0,1,2,3,4] a7 ab rfl ⟨by show ((0:Nat):Int)+1<=_;omega,x,ai,ai,hf,t,Nr _,ai,λ p k f' h=>by simpa using h⟩ ?_
 rintro⟨y,O,P,p,k,s,hs⟩ ⟨z,B,l,q,d,a,X,C,Y⟩;simp only at z B l q d a X C Y ⊢;have ha:=dm hR d.toRanged N.snk;have h3:=d.len;refine ao ?_;refine ak rfl (λ r=>ag ?_) (λ u=>aO ?_)
 ·refine aq<|aR (aH 1 rfl) fun ⟨_,_,g,D⟩=>?_;obtain⟨gc,g⟩:=bg g D;refine aI ?_;refine qa ?_;refine bj (v:=.slice O y.length P) 0 ?_;refine az ?_;refine wd [] (z4 N hN hR A c b o hA y d O P gc 0 (fun h=>g (by simpa [aj] using h)) least hle Q) rfl rfl rfl rfl aX rfl aX ⟨bz 4 rfl,ff 1 rfl g,trivial⟩ aK ?_;rintro v H' ⟨f1,ws,Z,cg,st,hb,E,H,rfl,rfl⟩;have hk:jd N.nodes.toNat N.arcs.length*p≤200000000000*500:=Nat.mul_le_mul V aa;have h4:=a.rng N.snk.toNat;have hy:=B r;refine dw ?_;refine eF (aH 0 rfl) fun ⟨_,_,i,I⟩=>?_;obtain⟨g1,i⟩:=bg i I;have K:f1≠[]→Z=aL g1 0:=fun h=>i (by simpa [aj] using h);obtain⟨e,hH,h1⟩:=hb.keeps hR hle d a;have h2:=List.length_pos_iff.2 (h1 r);have hv:=e.len;have hlen:y.length=f1.length:=aa;rw[hlen];refine aN ?_;have hr:=dm hR e.toRanged N.snk
  have ht:(ws.length:Int)<=least*ws.length:=by
   have:=Int.mul_le_mul_of_nonneg_right hle (show (0:Int)<=ws.length by omega);omega
  refine KO ?_;refine bj (v:=af s) 1 ?_;refine az ?_;refine aA 59 (v':=af ((s+st:Nat):Int)) rfl (Na (Value.int .i64) ((cp aa).trans aa))<|fv ?_;refine dE 1 ?_;refine ah<|bu ?_;refine bj (v:=bZ N A c) 4 ?_;refine az ?_;refine dG (tu N hN hR A c b o hA f1 Z cg g1 0 K (aD.inB hR e.toRanged) aa least) rfl ⟨bz 5 rfl,ff 0 rfl i,an⟩ ?_;rintro v H' (⟨_,_,L,j,rfl,rfl⟩|⟨U,_,_⟩|⟨_,u,_,_⟩)
  case inr.inl=>exact absurd e U
  case inr.inr=>omega
  refine ec ?_;have hex:2*N.arcs.length*(p+1)=2*N.arcs.length*p+2*N.arcs.length:=by rw[Oy,NT]
  have hx:jd N.nodes.toNat N.arcs.length*(p+1)=jd N.nodes.toNat N.arcs.length*p+jd N.nodes.toNat N.arcs.length:=by rw[Oy,NT]
  refine⟨⟨f1,Z,cg,p+1,k+ws.length,s+st,L⟩,[1,0,3,4,5],a7,ab,rfl,⟨by show ((p+1:Nat):Int)+1<=N.nodes;omega,λ h=>(by have:=(hb.rise hR hle d a j h).2;show ((p+1:Nat):Int)+1<=dL L N.snk.toNat;omega),by show 2*N.arcs.length*(p+1)<=s+st;rw[hex];exact Nat.add_le_add l E,by show s+st<=jd N.nodes.toNat N.arcs.length*(p+1);rw[hx];exact Nat.add_le_add q H,e,j,by simp only;omega,by simp only;omega,λ p' k' f' h=>?_⟩,by simp only;omega⟩;have:=Y _ _ _ (.step a r hb h);simp only;rw[show p+1+p'=p+(p'+1) by omega,show k+ws.length+k'=k+(ws.length+k') by omega];exact this
 ·have M:=Y _ _ _ (.stop a aa);rw[OZ,OZ] at M;refine bu ?_;refine bj (v:=qT O y.length P p k s) 0 ?_;refine lI ?_;refine lz ?_;exact⟨[_,_],[1],_,⟨⟨S,2,_,_,rfl,rfl,rfl⟩,rfl,an⟩,ab,rfl,y,p,k,s,O,P,M,aa,z,l,q,rfl,rfl⟩
theorem JI(N:aV)(l:N.Fits)(e:N.Right)(A:OA_)(c b o:Nat)(m:N.arcs≠[]->A=some ⟨b,o,none⟩):
 Fn 16 [bZ N A c,.int .u8 116] [] [.seg b o (arcs N.arcs)] λ v H'=>∃ (f':LI_) (p k s:Nat) (a:OA_) (d:Nat),Dn N 1 (List.replicate N.arcs.length 0) p k f'/\(k:Int)<=9223372036854775806/\(p:Int)+1<=N.nodes/\2*N.arcs.length*p<=s/\s<=jd N.nodes.toNat N.arcs.length*p/\
  v=.tuple #[qT a f'.length d p k s,.int .i64 0]/\H'=[.own (.slice a f'.length d) 2 1 f'.length (aj f')]:=by
 have q:=e.len;refine ia Tryz.func16 rfl rfl λ w0=>bu ?_;refine cY (cs:=bU N A c) λ w=>?_;refine dD λ r=>?_;refine H0 ?_
 (first|refine aG [] rfl (ad 0 rfl) rfl ?_|refine aG [] rfl (ad 1 rfl) rfl ?_|refine aG [] rfl (ad 2 rfl) rfl ?_|refine aG [] rfl (ad 3 rfl) rfl ?_|refine aG [] rfl (ad 4 rfl) rfl ?_|refine aG [] rfl (ad 5 rfl) rfl ?_)
 refine jI ?_;refine cX (n:=N.arcs.length) (c:=N.arcs.length) rfl rfl rfl rfl rfl rfl aa aa aa aK λ g=>b6 [2,3]<|?_;rw[show made [af 0] (N.arcs.length*1)=aj (List.replicate N.arcs.length 0) by rw[c8,NT];simp[aj]];refine cz ?_;refine bA [] (yK N l e A c b o m (List.replicate N.arcs.length 0) (iV N e) (aL g 0) N.arcs.length g 0 aK 1 ab ab) rfl rfl rfl (by rw[NP];rfl) aX ⟨bz 3 rfl,fX 0 rfl ca (bW aK),an⟩ aK ?_;rintro v H' ⟨f',p,k,s,a,d,t,u,f,i,j,rfl,rfl⟩;refine⟨rfl,b6 [3,4] ?_⟩;refine hZ [] rfl<|dE 2 ?_;refine lz ?_;exact⟨[_,_],[0],_,⟨⟨r,2,_,_,rfl,rfl,rfl⟩,rfl,an⟩,ab,rfl,f',p,k,s,a,d,t,u,f,i,j,rfl,rfl⟩
theorem Dn.lev{N:aV}{least:Int}{f f':LI_}{p k:Nat}(h:Dn N least f p k f'):∃ lv,fw N (bc (N.arcs.zip f)) least lv:=by
 cases h with
 |stop a _=>exact⟨_,a⟩
 |step a _ _ _=>exact⟨_,a⟩
theorem Dn.few0{N:aV}(g:N.Right){least:Int}(hle:1<=least){f f':LI_}{p k:Nat}(h:Dn N least f p k f'):aD N f->∀ lv,fw N (bc (N.arcs.zip f)) least lv->
 (dL lv N.snk.toNat<0->p=0)/\(0<=dL lv N.snk.toNat->(p:Int)+dL lv N.snk.toNat<=N.nodes):=by
 induction h with
 |stop b m=>
  intro i lv a;have:=qY a b N.snk.toNat;exact⟨λ _=>rfl,λ h=>by omega⟩
 |@step f f1 f' n ws p k b m j o q=>
  intro i lv a;have e:=qY a b N.snk.toNat;obtain⟨k1,_,_⟩:=j.keeps g hle i b;obtain⟨c,d⟩:=o.lev;obtain⟨r,i2⟩:=q k1 c d;have t:=b.rng N.snk.toNat;have s:=g.nodes;refine⟨λ h=>by omega,λ h=>?_⟩;by_cases l:0<=dL c N.snk.toNat
  ·have u:=(j.rise g hle i b d l).2;have v:=i2 l;omega
  ·have:=r aa;omega
theorem Dn.few{N:aV}(a:N.Right){least:Int}(hle:1<=least){f f':LI_}{p k:Nat}(h:Dn N least f p k f')(c:aD N f):(p:Int)+1<=N.nodes:=by
 obtain⟨lv,b⟩:=h.lev;obtain⟨d,e⟩:=h.few0 a hle c lv b;have g:=a.nodes;have l:=a.diff;have m:=a.src;have n:=a.snk;by_cases i:0<=dL lv N.snk.toNat
 ·have o:=e i
  have:dL lv N.snk.toNat≠0:=λ j=>by
   have:=b.zero _ j;omega
  omega
 ·have:=d aa;omega
theorem zn(N:aV)(t:N.Fits)(i:N.Right)(A:OA_)(c b o:Nat)(u:N.arcs≠[]->A=some ⟨b,o,none⟩)(f:LI_)(j:aD N f)(F:OA_)(cf e of:Nat)(w:f≠[]->F=some ⟨e,of,none⟩)(least:Int)(hle:1<=least)(l:b7 least)(sg:Int)(m:sg=112\/sg=116):
 Fn 38 [bZ N A c,.slice F f.length cf,.int .i64 least,.int .u8 sg] [] [.seg b o (arcs N.arcs),.seg e of (aj f)] λ v H'=>∃ (f':LI_) (p k s:Nat) (a:OA_) (d:Nat),Dn N least f p k f'/\(k:Int)<=9223372036854775806/\(p:Int)+1<=N.nodes/\(sg=112->s=0)/\(sg=116->2*N.arcs.length*p<=s)/\s<=jd N.nodes.toNat N.arcs.length*p/\
  v=.tuple #[qT a f'.length d p k s,.int .i64 0]/\H'=[.own (.slice a f'.length d) 2 1 f'.length (aj f')]:=by
 rcases m with rfl|rfl
 ·refine (B3 N t i A c b o u f j F cf e of w least hle).mono ?_;rintro v H' ⟨f',p,k,a,d,g,n,rfl,rfl⟩;exact⟨f',p,k,0,a,d,g,n,g.few i hle j,λ _=>rfl,λ h=>absurd h ab,Nl _,rfl,rfl⟩
 ·refine (yK N t i A c b o u f j F cf e of w least hle l).mono ?_;rintro v H' ⟨f',p,k,s,a,d,g,n,hp,q,r,rfl,rfl⟩;exact⟨f',p,k,s,a,d,g,n,hp,λ h=>absurd h ab,λ _=>q,r,rfl,rfl⟩
theorem xF(N:aV)(m:N.Fits)(e:N.Right)(A:OA_)(c b o:Nat)(n:N.arcs≠[]->A=some ⟨b,o,none⟩)(sg:Int)(g:sg=112\/sg=116):
 Fn 16 [bZ N A c,.int .u8 sg] [] [.seg b o (arcs N.arcs)] λ v H'=>∃ (f':LI_) (p k s:Nat) (a:OA_) (d:Nat),Dn N 1 (List.replicate N.arcs.length 0) p k f'/\(k:Int)<=9223372036854775806/\(p:Int)+1<=N.nodes/\(sg=112->s=0)/\(sg=116->2*N.arcs.length*p<=s)/\s<=jd N.nodes.toNat N.arcs.length*p/\
  v=.tuple #[qT a f'.length d p k s,.int .i64 0]/\H'=[.own (.slice a f'.length d) 2 1 f'.length (aj f')]:=by
 rcases g with rfl|rfl
 ·refine (LY N m e A c b o n).mono ?_;rintro v H' ⟨f',p,k,a,d,f,i,rfl,rfl⟩;exact⟨f',p,k,0,a,d,f,i,f.few e ab (iV N e),λ _=>rfl,λ h=>absurd h ab,Nl _,rfl,rfl⟩
 ·refine (JI N m e A c b o n).mono ?_;rintro v H' ⟨f',p,k,s,a,d,f,i,hp,j,l,rfl,rfl⟩;exact⟨f',p,k,s,a,d,f,i,hp,λ h=>absurd h ab,λ _=>j,l,rfl,rfl⟩
section
variable {cs:LI_} {mo:Int}
end
end Go.Proofs.YtmcnpaelaieniaaGreatDoor
