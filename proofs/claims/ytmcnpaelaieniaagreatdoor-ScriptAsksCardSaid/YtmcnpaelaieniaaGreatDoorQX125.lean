import Derived.Test.YtmcnpaelaieniaaGreatDoorQX136
/- A part of the proof. -/
set_option linter.unusedVariables false
set_option linter.unusedSimpArgs false
set_option maxHeartbeats 8000000
namespace Go.Proofs.YtmcnpaelaieniaaGreatDoor
open Go.RowKit
def JB(N:aR)(f:LI_)(least:Int)(m:Nat)(v:Value)(H':Heap):Prop:=
 (aD N f/\1<=least/\∃ (f':LI_) (ws:List (LN_×Int)) (k:Nat) (Ao:OA_) (co:Nat),nf N least f ws f'/\2*N.arcs.length<=k/\k<=i8 N.nodes.toNat N.arcs.length/\ws.length<=N.arcs.length/\
  v=.tuple #[.slice Ao m co,.int .i64 (ws.length:Int),.int .i64 (k:Int),.int .i64 0]/\H'=[.own (.slice Ao m co) 2 1 m (aj f')])\/
 (¬ aD N f/\v=.tuple #[.slice none 0 0,.int .i64 0,.int .i64 0,.int .i64 (eQ N f)]/\H'=[])\/(aD N f/\least<1/\v=.tuple #[.slice none 0 0,.int .i64 0,.int .i64 0,.int .i64 3]/\H'=[])
theorem EE(N:aR)(hN:N.Fits)(hR:N.Right)(A:OA_)(c b o:Nat)(hA:N.arcs≠[]->A=some ⟨b,o,none⟩)(f:LI_)(F:OA_)(cf bf of:Nat)(hF:f≠[]->F=some ⟨bf,of,none⟩)(hf:∀ x∈f,b9 x)(hfl:f.length*8<=140737488351232)(least:Int)(hlb:b9 least):
 Fn 232 [cd N A c,.slice F f.length cf,.int .i64 least] [] [.seg b o (arcs N.arcs),.seg bf of (aj f)] (JB N f least f.length):=by
 have hnn:=hR.nodes;have hl2:=hR.len;obtain⟨n,hn⟩:∃ n:Nat,N.nodes=n:=⟨N.nodes.toNat,aa⟩;refine aT Tryz.func232 λ w0=>?_;refine bA ?_;refine dh (cs:=bY N A c) λ p=>?_;refine ip ?_;refine dB (ye N hN hR A c b o hA f F cf bf of hF hf hfl least) rfl ⟨bx 1 rfl,bx 2 rfl,be⟩ ?_;rintro v H' (⟨C,hle,lv,B,cb,p2,rfl,rfl⟩|⟨C,rfl,rfl⟩|⟨C,hle,rfl,rfl⟩)
 case inr.inl=>
  refine fO ?_;refine ak rfl (λ h=>?_) (λ h=>absurd (de.1 (Nn.1 h)) C);refine ao ?_;refine aL [] ⟨_,rfl,.inr (.inl ⟨C,rfl,rfl⟩)⟩
 case inr.inr=>
  refine fO ?_;refine ak rfl (λ h=>?_) (λ h=>absurd h ab);refine ao ?_;refine aL [] ⟨_,rfl,.inr (.inr ⟨C,hle,rfl,rfl⟩)⟩
 refine fO ?_;refine ak rfl (λ h=>absurd rfl h) (λ _=>ag ?_);refine Id ?_;rintro v H' (⟨_,A1,S,rfl,rfl⟩|⟨h,_,_⟩)
 case inr=>exact absurd C h
 refine ef ?_;have hfN:=C.len;obtain⟨ls,M⟩:∃ ls,ls=dj N (a9 (N.arcs.zip f)) least lv (2*N.arcs.length):=⟨_,rfl⟩;rw[<- M];have hH:∀ r∈ls,r<2*N.arcs.length:=λ r z=>(fI.1 (M▸z)).1;have hlsh:ls.length<=N.arcs.length:=M▸AM N _ least lv _;have hG:=km p2;rw[<- M] at hG;refine aP (aH 1 rfl) λ ⟨_,_,hB,hlB⟩=>?_;obtain⟨gB,hB⟩:=bo hB hlB;refine aP (aH 0 rfl) λ ⟨_,_,hy,k0⟩=>?_;obtain⟨gr,hy⟩:=bo hy k0;have hB':ls≠[]->B=aJ gB 0:=λ h=>hB (by intro h0;apply h;have:=fV ls;unfold cJ at this;rw[h0] at this;exact Nw.1 this.symm);obtain⟨d,j⟩:∃ x,x=a9 (N.arcs.zip f):=⟨_,rfl⟩;have I:d.length=2*N.arcs.length:=by rw[j];exact ku C.len
 have ht:d≠[]->A1=aJ gr 0:=λ h=>hy (by rw[<- j];intro h0;exact h (Nw.1 (by rw[<- bU,h0];rfl)));rw[<- j];refine cA ?_;refine bK 7 (dS [0,1,3,4]++[(2,false),(5,false)]++dS [6]) [2] aW ab rfl ?_
 (repeat' (first|refine eI (gs:=[999]) rfl rfl ?_|refine aF [999] rfl (ad (v:=cd N A c) 0 rfl) rfl ?_))
 refine cz ?_;have p8:aj d≠[]->A1=aJ gr 0:=by rw[j];exact hy
 have TC:=gS A1 S gr 0 d ht aa;rw[I] at TC;refine dB TC rfl ⟨gy 0 rfl p8,be⟩ ?_;rintro _ H' ⟨Ac,cc,rfl,rfl⟩;refine⟨rfl,bZ [3] ?_⟩;refine cz ?_;refine dB (Le N hR A c b o hA Ac cc ls hH aa B cb gB 0 hB' least n hn) rfl ⟨bx 4 rfl,gy 2 rfl hB,be⟩ ?_;rintro _ H' ⟨pe,gl,gu,pt,ps,gn,go,co,cap,rows,rfl,hd,hL,rfl⟩;refine⟨dc rfl (dd _ _),?_⟩;refine cK aw.swap<|bZ [10]<|eI (gs:=[999]) rfl rfl<|gF ?_;refine aP (aH 7 rfl) λ ⟨_,_,ho,U⟩=>?_;obtain⟨gc,ho⟩:=bo ho U
 obtain⟨A0,hb⟩:∃ A0:Heap,A0=l8 pt ps go gn co cap (n+1) ⟨λ _=>lX 4611686018427387904,λ _=>none,0⟩++[blk pe 310 (zt N A c Ac cc least n gl gu (.pointer (some ⟨pt,0,none⟩)) ls.length 0),.own (.slice (some ⟨gl,0,none⟩) (n+1) (n+1)) 23 1 (n+1) (rows.map cT),.own (.slice (some ⟨gu,0,none⟩) (n+1) (n+1)) 23 1 (n+1) ((List.replicate (n+1) ek).map cT)]++
  [.own (.slice Ac (2*N.arcs.length) cc) 2 1 (2*N.arcs.length) (aj d),.own (.slice A1 (2*N.arcs.length) S) 2 1 (2*N.arcs.length) (aj d),.own (.slice B ls.length cb) 3 1 ls.length (cJ ls),blk p 33 (bY N A c),.seg b o (arcs N.arcs),.seg bf of (aj f)]:=⟨_,rfl⟩
 refine bQ (K:=A0++(rows++List.replicate (n+1) ek).map (bg 3)) (by rw[hb];exact aw.refl) ?_;have hj:A0.length=13:=by rw[hb];rfl
 have k2:∀ w,dL w0 [] w (A0++(rows++List.replicate (n+1) ek).map (bg 3))->
  ∀ v:Nat,∃ gv:Nat,∀ row,rows[v]?=some row->row.l.length<=row.c/\(aj row.l≠[]->row.A=aJ gv 0):=by
  intro w hw v
  cases hv:rows[v]? with
  |none=>exact⟨0,λ row h=>by cases h⟩
  |some row=>
   obtain⟨_,h2,h3,h4⟩:=aH (X:=⟨w0,[],⟨0,[]⟩⟩) (13+v) (show _=some (bg 3 row) by
    rw[Nu aa,hj,NV,Ni,NY (Nb.1 hv).1,hv];rfl) w hw
   obtain⟨gv,hz⟩:=bo h3 h4;exact⟨gv,λ row' h=>by simp only[Na] at h;subst h;exact⟨h2,hz⟩⟩
 refine aP k2 λ D=>?_;obtain⟨gv,hz⟩:∃ gv:Nat->Nat,∀ (v:Nat) (row:ff),rows[v]?=some row->row.l.length<=row.c/\(aj row.l≠[]->row.A=aJ (gv v) 0):=⟨λ v=>Classical.choose (D v),λ v=>Pf (D v)⟩
 clear D k2
 obtain⟨P,E⟩:∃ P:EP,P={ N:=N,least:=least,n:=n,A:=A,c:=c,b:=b,o:=o,gr:=gc,Ar:=Ac,cr:=cc,gl:=gl,gu:=gu,pe:=pe,pt:=pt,ps:=ps,go:=go,gn:=gn,co:=co,cap:=cap,rowsL:=rows }:=⟨_,rfl⟩;obtain⟨s0,y⟩:∃ s:ES,s={ vals:=rows.map cT,un:=List.replicate (n+1) ek,fs:=⟨λ _=>lX 4611686018427387904,λ _=>none,0⟩,rm:=d,k:=ls.length,w:=0 }:=⟨_,rfl⟩
 refine bQ (K:=g7 P s0++[P.sg,.own (.slice A1 (2*N.arcs.length) S) 2 1 (2*N.arcs.length) (aj d),.seg bf of (aj f)]) (by
  rw[hb,E,y];exact aw.mid [0,1,2,3,4,7,5,6] [11,8,12] rfl rfl ab) ?_
 clear hb hj
 have hP:mr P (fC N ls) (dF lv) gv:=by
  rw[E];exact⟨hR,hn,hG,hd,hL,λ v row h=>(hz v row h).2,λ v=>Ot (lg N ls v) aa,hA,λ h=>ho (by intro h0;rw[h0] at U;simp at U;exact h (Nw.1 (show N.arcs.length=0 by omega))),hlb⟩
 have u:P.N=N:=by rw[E]
 have hc:P.least=least:=by rw[E]
 have V:P.n=n:=by rw[E]
 have hPr:P.rowsL=rows:=by rw[E]
 have hPp:P.pe=pe:=by rw[E]
 have hI0:lG P (fC N ls) gv d d (List.replicate (n+1) 0) (λ _=>none) (λ _=>4611686018427387904) s0:=by
  refine⟨⟨_,by rw[y,V];exact iW.new ab⟩,⟨by rw[V];simp,λ _ _ _ h=>(by cases h),λ _ _ _=>rfl,by rw[y,u];exact I,λ _ _ _ _=>by rw[y],λ _ _=>by rw[y],λ r=>by rw[j];exact gJ hR C.toRanged r⟩,?_,?_⟩
  ·rw[y,hPr];refine⟨ai,λ v row q z hq=>?_⟩;rw[Nt] at hq;split at hq
   ·simp only[Option.some.injEq] at hq;subst hq;have h1:=hz v row z;refine⟨row.A,row.c,by rw[List.getElem?_map,z];rfl,h1.1,fun hp=>h1.2 (fun h0=>?_)⟩;have:row.l.length=0:=by rw[← bU,h0];rfl
    omega
   ·cases hq
  ·rw[y,V];refine⟨ai,λ w row z=>?_⟩;rw[Nt] at z;split at z
   ·simp only[Na] at z;subst z;exact⟨[],rfl,PG,λ v=>by simp⟩
   ·cases z
 have Y:PI P.N (fC N ls) P.least d (List.replicate (n+1) 0) []:=by
  have:=PI.start (N:=N) (L:=fC N ls) (least:=least) (rm:=d);rw[hn,Nz] at this;rw[u,hc];exact this
 have k4:1<=P.least:=by rw[hc];exact hle
 rw[<- hPp];refine gD ?_;refine dC (Ld hP k4 s0 hI0 Y (λ _ _ _ h=>(by cases h)) (f:=f) (by rw[u];exact C) (by rw[u];exact j)) rfl aw.refl ⟨bx 0 rfl,be⟩ ?_;rintro _ H' ⟨t,rfl,hS,hIt,O,hs,hwt,hct⟩;refine⟨dc rfl (dd _ _),?_⟩;refine ah<|gD ?_;refine dC (Hz hP t.s hIt) rfl aw.refl ⟨bx 0 rfl,be⟩ ?_;rintro _ H' ⟨par3,val3,a,rfl,Z,k3,hw3,hc3⟩;refine⟨dc rfl (dd _ _),?_⟩;refine ah ?_
 refine bQ (K:=P.fo a.fs++[P.pc a.k a.w,P.rc a.rm,.own (.slice A1 (2*N.arcs.length) S) 2 1 (2*N.arcs.length) (aj d),.seg bf of (aj f)]) (by
  refine aw.trans (aw.swap (A:=P.fo a.fs++[P.pc a.k a.w,P.rc a.rm,P.lc a.vals,P.uc a.un]) (R:=P.rows a.un) (B:=[P.sg,.own (.slice A1 (2*N.arcs.length) S) 2 1 (2*N.arcs.length) (aj d),.seg bf of (aj f)]))<|aw.trans (aw.re [0,1,2,3,4,5,9,10] rfl ab) (aw.sub (List.sublist_append_left _ _)))<|?_
 refine gD ?_;refine fh (gS F cf bf of f hF aa) rfl ⟨bx 7 rfl,be⟩ ?_;rintro _ H' ⟨Ao,H,rfl,rfl⟩;refine cS ?_;rw[u,hc] at hS;have hcl:(dj N (a9 (N.arcs.zip f)) least lv (2*N.arcs.length)).length<=_:=lB N _ least lv _;obtain⟨hcnt,q1,_⟩:=hS.count hR hG hle (ls:=ls) (λ v r=>iM) C j;have hcnt2:qU ls least d<=ls.length:=OA _ _;rw[u] at O hs
 have n1:∀ r∈ls,cF r∉ls:=by
  intro r z b2;rw[M] at z b2;have h1:=(fI.1 z).2.2.2;have h2:=(fI.1 b2).2.2.2;rw[kP,iK] at h2;omega
 have l2:∀ r∈ls,a.rm.getD r 0=(a9 (N.arcs.zip t.f)).getD r 0:=by
  intro r z;rw[<- hs];refine Z.lead (eL N r) r (iM.2 ⟨z,rfl⟩) λ q hq _=>absurd (k3 _ ?_) hq;have:=nA hR (hH r z);rw[V];omega
 have hg:∀ r,r∉ls->a.rm.getD r 0=(a9 (N.arcs.zip f)).getD r 0:=by
  intro r z;rw[<- j];exact Z.rest r λ v hv=>z (iM.1 hv).1
 have ha:∀ r,r∉ls->cF r∉ls->(a9 (N.arcs.zip t.f)).getD r 0=(a9 (N.arcs.zip f)).getD r 0:=by
  intro r h1 h2;rw[<- hs,<- j];exact q1 r h1 h2
 have hrl3:a.rm.length=2*N.arcs.length:=by have:=Z.rml;rw[u] at this;exact this
 have r1:=O.len
 have hPrc:P.rc a.rm=.own (.slice P.Ar (2*N.arcs.length) P.cr) 2 1 (2*N.arcs.length) (aj a.rm):=by
  show aU.own (.slice P.Ar (2*P.N.arcs.length) P.cr) _ _ _ _=_;rw[u]
 have l1:0<N.arcs.length->A1=aJ gr 0:=λ h=>ht (by intro h0;rw[h0] at I;simp at I;omega);obtain⟨m,hm⟩:∃ m,m=N.arcs.length:=⟨_,rfl⟩;have hI:f.length=m:=aa;rw[hI]
 refine bQ (K:=P.fo a.fs++[P.pc a.k a.w,P.rc a.rm,.own (.slice A1 (2*N.arcs.length) S) 2 1 (2*N.arcs.length) (aj d),.own (.slice Ao m H) 2 1 m (aj (pm f t.f ls m 0))]) (by
  rw[<- hI,B6];exact aw.re (A:=[.own (.slice Ao f.length H) 2 1 f.length (aj f)]++(P.fo a.fs++[P.pc a.k a.w,P.rc a.rm,.own (.slice A1 (2*N.arcs.length) S) 2 1 (2*N.arcs.length) (aj d),.seg bf of (aj f)])) (R:=[]) [1,2,3,4,5,6,7,0] rfl ab) ?_
 refine gz ?_
 refine cN (σ:=Nat) (λ k=>[(48,af (k:Int)),(47,af ((2*N.arcs.length:Nat):Int)),(46,.slice A1 (2*N.arcs.length) S),(15,.slice Ao m H),(14,ap P.pe 0),(12,.slice A1 (2*N.arcs.length) S)])
  (λ k=>P.fo a.fs++[P.pc (a.k+k) a.w,P.rc a.rm,.own (.slice A1 (2*N.arcs.length) S) 2 1 (2*N.arcs.length) (aj d),.own (.slice Ao m H) 2 1 m (aj (pm f t.f ls m k))])
  (λ k=>k<=2*N.arcs.length) (λ k=>2*N.arcs.length-k) 0 a8 aw.refl (Nk _) ?_
 intro k hk;refine iN ?_;refine ak rfl (λ hlt=>ag ?_) (λ hge=>aO ?_)
 ·have Q:k<2*N.arcs.length:=by omega
  have hkm:k/2<m:=aa;obtain rfl:=l1 aa;have h6:=hP.room (r:=k) (by rw[u];exact Q);have hr0:(aj d)[k]?=some (af (d.getD k 0)):=ep (by rw[Nc,an aa];rfl);have hr3:(aj a.rm)[k]?=some (af (a.rm.getD k 0)):=ep (by rw[Nc,an aa];rfl);have b0:=gJ hR C.toRanged k;have b1:=gJ hR O.toRanged k;rw[<- j] at b0
  have b3:0<=a.rm.getD k 0/\a.rm.getD k 0<=4611686018427387903:=by
   by_cases e:k∈ls
   ·rw[l2 k e];exact b1
   ·rw[hg k e,<- j];exact b0
  obtain⟨r2,hV⟩:=E0 C.len r1 l2 hg ha n1 Q;rw[<- j] at r2 hV;have o0:=CI hR C.toRanged O.toRanged (ls:=ls) (k:=k) (i:=k/2) aa;have o1:=CI hR C.toRanged O.toRanged (ls:=ls) (k:=k+1) (i:=k/2) aa;refine aP (aH 7 rfl) λ ⟨_,_,hAo,_⟩=>?_;obtain⟨a1,rfl⟩:=hAo aa;refine am (au ?_);refine ao ?_;refine gD ?_;refine cK (aw.re (A:=P.fo a.fs++[P.pc (a.k+k) a.w,P.rc a.rm,.own (ax gr 0 (2*N.arcs.length) S) 2 1 (2*N.arcs.length) (aj d),.own (ax a1 0 m H) 2 1 m (aj (pm f t.f ls m k))]) (R:=[]) [4,0,1,2,3,5,6,7] rfl ab)<|bJ [999] (m0 P (a.k+k) a.w) rfl rfl rfl rfl aW aw.refl be aE<|?_;rintro v0 H' rfl;refine dE ?_;refine cK (aw.re (A:=[P.pc (a.k+k+1) a.w]++(P.fo a.fs++[P.rc a.rm,.own (ax gr 0 (2*N.arcs.length) S) 2 1 (2*N.arcs.length) (aj d),.own (ax a1 0 m H) 2 1 m (aj (pm f t.f ls m k))])) (R:=[]) [1,2,3,4,0,5,6,7] rfl ab)<|fw ?_;refine bK 13 (dS [0,1,2,3,4,5,6,7,8,9,10,11,12]) [4,5,6] aW ab rfl ?_
  (repeat' (first|refine eI (gs:=[999]) rfl rfl ?_|refine aF [999] rfl (ad 0 rfl) rfl ?_|refine aF [999] rfl (bG rfl Q) rfl ?_|refine aF [999] rfl (aA 2 rfl rfl rfl hr0) rfl ?_|refine aF [999] rfl (ij (b:=P.gr) (n:=2*P.N.arcs.length) (c:=P.cr) rfl (M8 (λ A=>some (Value.slice A (2*P.N.arcs.length) P.cr)) h6) rfl rfl rfl (by rw[u];exact Q)) rfl ?_|refine aF [999] rfl (aA (g:=P.gr) (n:=2*P.N.arcs.length) (cap:=P.cr) 1 rfl rfl (M8 (λ A=>some (aU.own (.slice A (2*P.N.arcs.length) P.cr) 2 1 (2*P.N.arcs.length) (aj a.rm))) h6) hr3) rfl ?_))
  refine gF ?_;refine bB 17 (v':=af (d.getD k 0-a.rm.getD k 0)) rfl (M8 (Value.int .i64) (cv aa))<|ao ?_;have hand:IntKind.i64.wrap ((BitVec.ofInt IntKind.i64.bits (k:Int)&&& BitVec.ofInt IntKind.i64.bits 1).toNat:Int)=(k:Int)%2:=Ch k
  have hq:∀ x:Int,x=((k:Int)).tdiv 2->IntKind.i64.wrap x=((k/2:Nat):Int):=by
   intro x hx;rw[hx,PN aa,cv aa];omega
  have n2:=od (f:=f) (f':=t.f) (ls:=ls) (k:=k) hkm;have p4:(aj (pm f t.f ls m k))[k/2]?=some (af (mi f t.f ls k (k/2))):=ep n2;refine cA ?_;refine ak rfl (λ heq=>?_) (λ hne=>?_)
  ·rw[hand] at heq;have q2:=r2 aa;refine bA ?_;refine oa ?_;refine aB 70 (v':=af ((k/2:Nat):Int)) rfl (M8 (Value.int .i64) (hq _ rfl))<|aG (bG rfl hkm) ?_;refine aG (aA 7 rfl rfl rfl p4) ?_;refine lK ?_;refine aB 74 (v':=af (mi f t.f ls (k+1) (k/2))) rfl (M8 (Value.int .i64) ((cv aa).trans q2))<|KZ ?_;refine⟨k+1,⟨?_,rfl,rfl,rfl,rfl,rfl,be⟩,aw.refl,Q,by show 2*N.arcs.length-(k+1)<2*N.arcs.length-k;omega⟩;refine fJ ?_;rw[cv aa];rfl
  ·rw[hand] at hne;have q2:=hV aa;refine bA ?_;refine oa ?_;refine aB 78 (v':=af ((k/2:Nat):Int)) rfl (M8 (Value.int .i64) (hq _ rfl))<|aG (bG rfl hkm) ?_;refine aG (aA 7 rfl rfl rfl p4) ?_;refine lK ?_;refine aB 82 (v':=af (mi f t.f ls (k+1) (k/2))) rfl (M8 (Value.int .i64) ((cv aa).trans q2))<|KZ ?_;refine⟨k+1,⟨?_,rfl,rfl,rfl,rfl,rfl,be⟩,aw.refl,Q,by show 2*N.arcs.length-(k+1)<2*N.arcs.length-k;omega⟩;refine fJ ?_;rw[cv aa];rfl
 ·obtain rfl:k=2*N.arcs.length:=by omega
  have hoe:pm f t.f ls m (2*N.arcs.length)=t.f:=by
   have:=FZ (f:=f) (f':=t.f) (ls:=ls) aa;rw[hI,hm] at this;rw[hm];exact this
  rw[hoe];refine cA ?_;refine bK 19 (dS [0,1,2,3,4,5,6,7,8,9,10,11,12]++[(13,false)]++dS [14,15,16,17,18]) [4] aW ab rfl<|qZ ?_;refine cz ?_
  have hwl:ei (a.w:Int)=(t.ws.length:Int):=by
   have:s0.w=0:=by rw[y]
   exact (cv aa).trans aa
  obtain⟨K,hK⟩:∃ K,K=a.k+2*N.arcs.length+a.fs.k:=⟨_,rfl⟩
  have hKB:K<=i8 n N.arcs.length:=by
   have e1:a.cost=a.k+a.fs.k:=rfl;have e2:s0.cost=ls.length:=by rw[y];rfl
   rw[V] at hct hc3;have e3:dv (fC N ls) n (List.replicate (n+1) 0)<=ls.length:=DD N ls n;have e4:eG n*dv (fC N ls) n (List.replicate (n+1) 0)<=eG n*N.arcs.length:=O7 _ aa;have e5:eM n*kj t.par n<=eM n*(n+1):=O7 _ (vr _ _);unfold i8;rw[ON];omega
  have hKs:K<9000000000000000000:=by
   have h1:n<=500:=aa
   have h2:em (n+1)<=3000000:=by
    unfold em;have:(n+1)*(n+1)<=501*501:=OP aa aa
    first|omega|(rw[Nat.mul_assoc];omega)|grind
   have h3:(eG n+3)*N.arcs.length<=46000000*2000:=OP (by unfold eG;omega) hl2;have h4:eM n*(n+1)<=16000000*501:=OP (by unfold eM;omega) aa;have h5:(2*em (n+1)+11*(n+1)+1)*(n+1)<=7000000*501:=OP aa aa;unfold i8 at hKB;omega
  refine dC (Dv a.fs) rfl aw.refl be ?_;rintro _ H' ⟨rfl,rfl⟩;refine⟨rfl,bZ [4] ?_⟩;refine eI (gs:=[999]) rfl rfl<|dG 99 (v':=af (K:Int)) rfl (M8 (Value.int .i64) ?_) ?_
  ·show ei (ei ((a.k+2*N.arcs.length:Nat):Int)+ei (a.fs.k:Int))=K;have h1:ei (a.fs.k:Int)=(a.fs.k:Int):=cv aa;have h2:ei ((a.k+2*N.arcs.length:Nat):Int)=((a.k+2*N.arcs.length:Nat):Int):=cv aa;rw[h1,h2];exact (cv aa).trans aa
  refine dG 89 (v':=af (t.ws.length:Int)) rfl (M8 (Value.int .i64) hwl)<|m8 ?_;refine cP<|fw ?_;have hBl:=hS.bl hR hG hle C j (pos:=List.replicate (n+1) 0) (W:=[]) (by rw[u,hc] at Y;exact Y);have hnt:N.nodes.toNat=n:=aa;refine aL [7] ⟨_,rfl,.inl ⟨C,hle,t.f,t.ws,K,Ao,H,⟨lv,p2,O,?_⟩,aa,by rw[hnt];exact hKB,aa,rfl,rfl⟩⟩;rw[hnt,<- M,<- j,<- hs];exact hBl
theorem Bm(N:aR)(l:N.Fits)(a:N.Right)(A:OA_)(c b o:Nat)(m:N.arcs≠[]->A=some ⟨b,o,none⟩)(f:LI_)(d:aD N f)(F:OA_)(cf e of:Nat)(n:f≠[]->F=some ⟨e,of,none⟩)(least:Int)(hle:1<=least)(g:b9 least):
 Fn 231 [.agg #[],cd N A c,.slice F f.length cf,.int .i64 least] [] [.seg b o (arcs N.arcs),.seg e of (aj f)] λ v H'=>∃ (f':LI_) (ws:List (LN_×Int)) (Ao:OA_) (co k:Nat),nf N least f ws f'/\2*N.arcs.length<=k/\k<=i8 N.nodes.toNat N.arcs.length/\
  v=.tuple #[.slice Ao f.length co,.int .i64 (ws.length:Int),.int .i64 (k:Int)]/\H'=[.own (.slice Ao f.length co) 2 1 f.length (aj f')]:=by
 have hl:=d.len;have q:=a.len;refine aT Tryz.func231 λ w0=>?_;refine bA ?_;refine dh (cs:=[]) λ u=>?_;refine dh (cs:=bY N A c) λ p=>?_;refine ip ?_;refine dB (EE N l a A c b o m f F cf e of n (aD.inB a d.toRanged) aa least g) rfl ⟨bx 2 rfl,bx 3 rfl,be⟩ ?_;rintro v H' (⟨_,_,f',ws,k,Ao,co,r,i,j,_,rfl,rfl⟩|⟨s,_,_⟩|⟨_,t,_,_⟩)
 case inr.inl=>exact absurd d s
 case inr.inr=>omega
 refine fO ?_;exact aL [0] ⟨_,rfl,f',ws,Ao,co,k,r,i,j,rfl,rfl⟩
theorem BJ:Fn 75 [.int .u8 116] [] [] λ v H'=>v=.iface 191 (.agg #[])/\H'=[]:=by
 refine aT Tryz.func75 λ w0=>?_;refine mI ?_;refine ao ?_;refine ak rfl (λ h=>absurd h ab) (λ _=>?_);refine ao ?_;refine ak rfl (λ _=>?_) (λ h=>absurd rfl h);refine aI ?_;refine fv ?_;refine aN ?_;exact j7
theorem yp{n m:Nat}(b:n<=500)(a:m<=2000):i8 n m<=200000000000:=by
 have c:em (n+1)<=3000000:=by
  unfold em;have:(n+1)*(n+1)<=501*501:=OP aa aa;omega
 have d:(eG n+3)*m<=46000000*2000:=OP (by unfold eG;omega) a;have e:eM n*(n+1)<=16000000*501:=OP (by unfold eM;omega) aa;have f:(2*em (n+1)+11*(n+1)+1)*(n+1)<=7000000*501:=OP aa aa;unfold i8;omega
structure FT where
 f:LI_
 A:OA_
 c:Nat
 p:Nat
 k:Nat
 s:Nat
 lv:LI_
theorem yj(N:aR)(hN:N.Fits)(hR:N.Right)(A:OA_)(c b o:Nat)(hA:N.arcs≠[]->A=some ⟨b,o,none⟩)(f:LI_)(hf:aD N f)(F:OA_)(cf bf of:Nat)(hF:f≠[]->F=some ⟨bf,of,none⟩)(least:Int)(hle:1<=least)(Q:b9 least):
 Fn 38 [cd N A c,.slice F f.length cf,.int .i64 least,.int .u8 116] [] [.seg b o (arcs N.arcs),.seg bf of (aj f)] λ v H'=>∃ (f':LI_) (p k s:Nat) (A':OA_) (c':Nat),Dn N least f p k f'/\(k:Int)<=9223372036854775806/\(p:Int)+1<=N.nodes/\2*N.arcs.length*p<=s/\s<=i8 N.nodes.toNat N.arcs.length*p/\
  v=.tuple #[rh A' f'.length c' p k s,.int .i64 0]/\H'=[.own (.slice A' f'.length c') 2 1 f'.length (aj f')]:=by
 have hl:=hf.len;have R:=hR.len;refine ie Tryz.func38 rfl rfl λ w0=>bA ?_;refine dh (cs:=bY N A c) λ p4=>?_;refine dM λ S=>?_;refine FX ?_;rintro v H' (⟨_,_,lv,t,rfl,rfl⟩|⟨U,_,_⟩|⟨_,u,_,_⟩)
 case inr.inl=>exact absurd hf U
 case inr.inr=>omega
 refine fO ?_;refine ak rfl (λ h=>absurd rfl h) (λ _=>ag ?_);refine aI ?_;refine cH (BJ) rfl be ?_;refine cS ?_;refine bu rfl (ag ?_);refine aI ?_;refine fh (gS F cf bf of f hF aa) rfl ⟨bx 3 rfl,be⟩ ?_;rintro v H' ⟨A0,c0,rfl,rfl⟩;refine fv ?_;refine dM λ w=>?_;refine iG ?_;refine gz ?_;have hz:=dl hR hf.toRanged N.snk;have hq:=hR.nodes;have hn:=hR.src;have h0:=hR.snk;have hc:=hR.diff;have V:=yp (n:=N.nodes.toNat) (m:=N.arcs.length) aa R
 have x:0<=dF lv N.snk.toNat->((0:Nat):Int)+1<=dF lv N.snk.toNat:=by
  intro h
  rcases Int.lt_or_eq_of_le h with h|h
  ·omega
  ·have:=t.zero _ h.symm;omega
 refine bS (σ:=FT) (λ s=>[(10,af (dF s.lv N.snk.toNat)),(12,.iface 191 (.agg #[])),(13,ap w 0),(8,ap S 0),(4,ap p4 0),(2,af least)])
  (λ s=>[blk w 47 [.slice s.A s.f.length s.c,af (s.p:Int),af (s.k:Int),af (s.s:Int)],.own (.slice s.A s.f.length s.c) 2 1 s.f.length (aj s.f),blk S 47 [.slice none 0 0,af 0,af 0,af 0],blk p4 33 (bY N A c),.seg b o (arcs N.arcs)])
  (λ s=>(s.p:Int)+1<=N.nodes/\(0<=dF s.lv N.snk.toNat->(s.p:Int)+1<=dF s.lv N.snk.toNat)/\2*N.arcs.length*s.p<=s.s/\s.s<=i8 N.nodes.toNat N.arcs.length*s.p/\aD N s.f/\fu N (a9 (N.arcs.zip s.f)) least s.lv/\s.p<=s.k/\dJ (N.arcs.zip f) N.snk+s.k<=dJ (N.arcs.zip s.f) N.snk/\∀ p k f',Dn N least s.f p k f'->Dn N least f (s.p+p) (s.k+k) f')
  (λ s=>(4611686018427387903-dJ (N.arcs.zip s.f) N.snk).toNat) ⟨f,A0,c0,0,0,0,lv⟩ [0,1,2,3,4] a8 ab rfl ⟨by show ((0:Nat):Int)+1<=_;omega,x,ai,ai,hf,t,Np _,ai,λ p k f' h=>by simpa using h⟩ ?_
 rintro⟨y,O,P,p,k,s,hs⟩ ⟨z,B,l,q,d,a,X,C,Y⟩;simp only at z B l q d a X C Y ⊢;have ha:=dl hR d.toRanged N.snk;have h3:=d.len;refine ao ?_;refine ak rfl (λ r=>ag ?_) (λ u=>aO ?_)
 ·refine au<|aP (aH 1 rfl) fun ⟨_,_,g,D⟩=>?_;obtain⟨gc,g⟩:=bo g D;refine aI ?_;refine sy ?_;refine bh (v:=.slice O y.length P) 0 ?_;refine az ?_;refine wG [] (Bm N hN hR A c b o hA y d O P gc 0 (fun h=>g (by simpa [aj] using h)) least hle Q) rfl rfl rfl rfl aW rfl aW ⟨bx 4 rfl,gy 1 rfl g,trivial⟩ aE ?_;rintro v H' ⟨f1,ws,Z,cg,st,hb,E,H,rfl,rfl⟩;have hk:i8 N.nodes.toNat N.arcs.length*p≤200000000000*500:=Nat.mul_le_mul V aa;have h4:=a.rng N.snk.toNat;have hy:=B r;refine dE ?_;refine fj (aH 0 rfl) fun ⟨_,_,i,I⟩=>?_;obtain⟨g1,i⟩:=bo i I;have K:f1≠[]→Z=aJ g1 0:=fun h=>i (by simpa [aj] using h);obtain⟨e,hH,h1⟩:=hb.keeps hR hle d a;have h2:=List.length_pos_iff.2 (h1 r);have hv:=e.len;have hlen:y.length=f1.length:=aa;rw[hlen];refine aN ?_;have hr:=dl hR e.toRanged N.snk
  have ht:(ws.length:Int)<=least*ws.length:=by
   have:=Int.mul_le_mul_of_nonneg_right hle (show (0:Int)<=ws.length by omega);omega
  refine KD ?_;refine bh (v:=af s) 1 ?_;refine az ?_;refine aB 59 (v':=af ((s+st:Nat):Int)) rfl (M8 (Value.int .i64) ((cv aa).trans aa))<|fv ?_;refine dz 1 ?_;refine ah<|bA ?_;refine bh (v:=cd N A c) 4 ?_;refine az ?_;refine dB (tn N hN hR A c b o hA f1 Z cg g1 0 K (aD.inB hR e.toRanged) aa least) rfl ⟨bx 5 rfl,gy 0 rfl i,be⟩ ?_;rintro v H' (⟨_,_,L,j,rfl,rfl⟩|⟨U,_,_⟩|⟨_,u,_,_⟩)
  case inr.inl=>exact absurd e U
  case inr.inr=>omega
  refine ef ?_;have hex:2*N.arcs.length*(p+1)=2*N.arcs.length*p+2*N.arcs.length:=by rw[Ow,NR]
  have hx:i8 N.nodes.toNat N.arcs.length*(p+1)=i8 N.nodes.toNat N.arcs.length*p+i8 N.nodes.toNat N.arcs.length:=by rw[Ow,NR]
  refine⟨⟨f1,Z,cg,p+1,k+ws.length,s+st,L⟩,[1,0,3,4,5],a8,ab,rfl,⟨by show ((p+1:Nat):Int)+1<=N.nodes;omega,λ h=>(by have:=(hb.rise hR hle d a j h).2;show ((p+1:Nat):Int)+1<=dF L N.snk.toNat;omega),by show 2*N.arcs.length*(p+1)<=s+st;rw[hex];exact Nat.add_le_add l E,by show s+st<=i8 N.nodes.toNat N.arcs.length*(p+1);rw[hx];exact Nat.add_le_add q H,e,j,by simp only;omega,by simp only;omega,λ p' k' f' h=>?_⟩,by simp only;omega⟩;have:=Y _ _ _ (.step a r hb h);simp only;rw[show p+1+p'=p+(p'+1) by omega,show k+ws.length+k'=k+(ws.length+k') by omega];exact this
 ·have M:=Y _ _ _ (.stop a aa);rw[OZ,OZ] at M;refine bA ?_;refine bh (v:=rh O y.length P p k s) 0 ?_;refine lJ ?_;refine lI ?_;exact⟨[_,_],[1],_,⟨⟨S,2,_,_,rfl,rfl,rfl⟩,rfl,be⟩,ab,rfl,y,p,k,s,O,P,M,aa,z,l,q,rfl,rfl⟩
theorem Jv(N:aR)(l:N.Fits)(e:N.Right)(A:OA_)(c b o:Nat)(m:N.arcs≠[]->A=some ⟨b,o,none⟩):
 Fn 16 [cd N A c,.int .u8 116] [] [.seg b o (arcs N.arcs)] λ v H'=>∃ (f':LI_) (p k s:Nat) (a:OA_) (d:Nat),Dn N 1 (List.replicate N.arcs.length 0) p k f'/\(k:Int)<=9223372036854775806/\(p:Int)+1<=N.nodes/\2*N.arcs.length*p<=s/\s<=i8 N.nodes.toNat N.arcs.length*p/\
  v=.tuple #[rh a f'.length d p k s,.int .i64 0]/\H'=[.own (.slice a f'.length d) 2 1 f'.length (aj f')]:=by
 have q:=e.len;refine ie Tryz.func16 rfl rfl λ w0=>bA ?_;refine dh (cs:=bY N A c) λ w=>?_;refine dM λ r=>?_;refine F3 ?_
 (first|refine aF [] rfl (ad 0 rfl) rfl ?_|refine aF [] rfl (ad 1 rfl) rfl ?_|refine aF [] rfl (ad 2 rfl) rfl ?_|refine aF [] rfl (ad 3 rfl) rfl ?_|refine aF [] rfl (ad 4 rfl) rfl ?_|refine aF [] rfl (ad 5 rfl) rfl ?_)
 refine jM ?_;refine cY (n:=N.arcs.length) (c:=N.arcs.length) rfl rfl rfl rfl rfl rfl aa aa aa aE λ g=>bZ [2,3]<|?_;rw[show made [af 0] (N.arcs.length*1)=aj (List.replicate N.arcs.length 0) by rw[db,NR];simp[aj]];refine cz ?_;refine bj [] (yj N l e A c b o m (List.replicate N.arcs.length 0) (iS N e) (aJ g 0) N.arcs.length g 0 aE 1 ab ab) rfl rfl rfl (by rw[NN];rfl) aW ⟨bx 3 rfl,gC 0 rfl b8 (bO aE),be⟩ aE ?_;rintro v H' ⟨f',p,k,s,a,d,t,u,f,i,j,rfl,rfl⟩;refine⟨rfl,bZ [3,4] ?_⟩;refine ib [] rfl<|dz 2 ?_;refine lI ?_;exact⟨[_,_],[0],_,⟨⟨r,2,_,_,rfl,rfl,rfl⟩,rfl,be⟩,ab,rfl,f',p,k,s,a,d,t,u,f,i,j,rfl,rfl⟩
theorem Dn.lev{N:aR}{least:Int}{f f':LI_}{p k:Nat}(h:Dn N least f p k f'):∃ lv,fu N (a9 (N.arcs.zip f)) least lv:=by
 cases h with
 |stop a _=>exact⟨_,a⟩
 |step a _ _ _=>exact⟨_,a⟩
theorem Dn.few0{N:aR}(g:N.Right){least:Int}(hle:1<=least){f f':LI_}{p k:Nat}(h:Dn N least f p k f'):aD N f->∀ lv,fu N (a9 (N.arcs.zip f)) least lv->
 (dF lv N.snk.toNat<0->p=0)/\(0<=dF lv N.snk.toNat->(p:Int)+dF lv N.snk.toNat<=N.nodes):=by
 induction h with
 |stop b m=>
  intro i lv a;have:=nL a b N.snk.toNat;exact⟨λ _=>rfl,λ h=>by omega⟩
 |@step f f1 f' n ws p k b m j o q=>
  intro i lv a;have e:=nL a b N.snk.toNat;obtain⟨k1,_,_⟩:=j.keeps g hle i b;obtain⟨c,d⟩:=o.lev;obtain⟨r,i2⟩:=q k1 c d;have t:=b.rng N.snk.toNat;have s:=g.nodes;refine⟨λ h=>by omega,λ h=>?_⟩;by_cases l:0<=dF c N.snk.toNat
  ·have u:=(j.rise g hle i b d l).2;have v:=i2 l;omega
  ·have:=r aa;omega
theorem Dn.few{N:aR}(a:N.Right){least:Int}(hle:1<=least){f f':LI_}{p k:Nat}(h:Dn N least f p k f')(c:aD N f):(p:Int)+1<=N.nodes:=by
 obtain⟨lv,b⟩:=h.lev;obtain⟨d,e⟩:=h.few0 a hle c lv b;have g:=a.nodes;have l:=a.diff;have m:=a.src;have n:=a.snk;by_cases i:0<=dF lv N.snk.toNat
 ·have o:=e i
  have:dF lv N.snk.toNat≠0:=λ j=>by
   have:=b.zero _ j;omega
  omega
 ·have:=d aa;omega
theorem yr(N:aR)(t:N.Fits)(i:N.Right)(A:OA_)(c b o:Nat)(u:N.arcs≠[]->A=some ⟨b,o,none⟩)(f:LI_)(j:aD N f)(F:OA_)(cf e of:Nat)(w:f≠[]->F=some ⟨e,of,none⟩)(least:Int)(hle:1<=least)(l:b9 least)(sg:Int)(m:sg=112\/sg=116):
 Fn 38 [cd N A c,.slice F f.length cf,.int .i64 least,.int .u8 sg] [] [.seg b o (arcs N.arcs),.seg e of (aj f)] λ v H'=>∃ (f':LI_) (p k s:Nat) (a:OA_) (d:Nat),Dn N least f p k f'/\(k:Int)<=9223372036854775806/\(p:Int)+1<=N.nodes/\(sg=112->s=0)/\(sg=116->2*N.arcs.length*p<=s)/\s<=i8 N.nodes.toNat N.arcs.length*p/\
  v=.tuple #[rh a f'.length d p k s,.int .i64 0]/\H'=[.own (.slice a f'.length d) 2 1 f'.length (aj f')]:=by
 rcases m with rfl|rfl
 ·refine (Cz N t i A c b o u f j F cf e of w least hle).mono ?_;rintro v H' ⟨f',p,k,a,d,g,n,rfl,rfl⟩;exact⟨f',p,k,0,a,d,g,n,g.few i hle j,λ _=>rfl,λ h=>absurd h ab,Nk _,rfl,rfl⟩
 ·refine (yj N t i A c b o u f j F cf e of w least hle l).mono ?_;rintro v H' ⟨f',p,k,s,a,d,g,n,hp,q,r,rfl,rfl⟩;exact⟨f',p,k,s,a,d,g,n,hp,λ h=>absurd h ab,λ _=>q,r,rfl,rfl⟩
theorem xW(N:aR)(m:N.Fits)(e:N.Right)(A:OA_)(c b o:Nat)(n:N.arcs≠[]->A=some ⟨b,o,none⟩)(sg:Int)(g:sg=112\/sg=116):
 Fn 16 [cd N A c,.int .u8 sg] [] [.seg b o (arcs N.arcs)] λ v H'=>∃ (f':LI_) (p k s:Nat) (a:OA_) (d:Nat),Dn N 1 (List.replicate N.arcs.length 0) p k f'/\(k:Int)<=9223372036854775806/\(p:Int)+1<=N.nodes/\(sg=112->s=0)/\(sg=116->2*N.arcs.length*p<=s)/\s<=i8 N.nodes.toNat N.arcs.length*p/\
  v=.tuple #[rh a f'.length d p k s,.int .i64 0]/\H'=[.own (.slice a f'.length d) 2 1 f'.length (aj f')]:=by
 rcases g with rfl|rfl
 ·refine (K3 N m e A c b o n).mono ?_;rintro v H' ⟨f',p,k,a,d,f,i,rfl,rfl⟩;exact⟨f',p,k,0,a,d,f,i,f.few e ab (iS N e),λ _=>rfl,λ h=>absurd h ab,Nk _,rfl,rfl⟩
 ·refine (Jv N m e A c b o n).mono ?_;rintro v H' ⟨f',p,k,s,a,d,f,i,hp,j,l,rfl,rfl⟩;exact⟨f',p,k,s,a,d,f,i,hp,λ h=>absurd h ab,λ _=>j,l,rfl,rfl⟩
section
variable {cs:LI_} {mo:Int}
end
theorem Nx.uniq{N:aR}{L:Nat->LN_}{least:Int}{rm:LI_}(w:N.src.toNat≠N.snk.toNat){pos W pos' o:LN_}{b:Bool}(h:Nx N L least rm pos W b pos' o):∀ {V:LN_} {m:Bool} {e n:LN_},V=W->Nx N L least rm pos V m e n->b=m/\pos'=e/\o=n:=by
 induction h with
 |hit k=>
  intro V m e n c h
  cases h with
  |hit _=>exact⟨rfl,rfl,c.symm⟩
  |go k1 _ _ _ _=>rw[c] at k1;exact absurd k k1
  |skip k1 _ _ _ _=>rw[c] at k1;exact absurd k k1
  |back k1 _ _ _ _=>rw[c] at k1;exact absurd k k1
  |stop k1 _ _=>rw[<- c] at k;exact absurd k k1
 |@go pos W pos' o r p b k g l u _ s=>
  intro V m e n c h
  cases h with
  |hit k1=>rw[c] at k1;exact absurd k1 k
  |go k1 a d i j=>
   subst c;rw[g] at a;simp only[Na] at a;subst a;rw[l] at d;simp only[Na] at d;subst d;exact s rfl j
  |skip k1 a d i j=>
   subst c;rw[g] at a;simp only[Na] at a;subst a;rw[l] at d;simp only[Na] at d;subst d;omega
  |back k1 a d i j=>
   subst c;rw[g] at a;simp only[Na] at a;subst a;have:=(Nb.1 l).1;omega
  |stop k1 a d=>
   subst c;have f:pos[N.src.toNat]?=some p:=g;rw[f] at a;simp only[Na] at a;subst a;have:=(Nb.1 l).1;have t:p<(L N.src.toNat).length:=this;omega
 |@skip pos W pos' o r p b k g l u _ s=>
  intro V m e n c h
  cases h with
  |hit k1=>rw[c] at k1;exact absurd k1 k
  |go k1 a d i j=>
   subst c;rw[g] at a;simp only[Na] at a;subst a;rw[l] at d;simp only[Na] at d;subst d;omega
  |skip k1 a d i j=>
   subst c;rw[g] at a;simp only[Na] at a;subst a;exact s rfl j
  |back k1 a d i j=>
   subst c;rw[g] at a;simp only[Na] at a;subst a;have:=(Nb.1 l).1;omega
  |stop k1 a d=>
   subst c;have f:pos[N.src.toNat]?=some p:=g;rw[f] at a;simp only[Na] at a;subst a;have t:p<(L N.src.toNat).length:=(Nb.1 l).1;omega
 |@back pos W pos' o r p q b k g l u _ s=>
  intro V m e n c h
  cases h with
  |hit k1=>rw[c] at k1;exact absurd k1 k
  |go k1 a d i j=>
   subst c;rw[g] at a;simp only[Na] at a;subst a;have:=(Nb.1 d).1;omega
  |skip k1 a d i j=>
   subst c;rw[g] at a;simp only[Na] at a;subst a;have:=(Nb.1 d).1;omega
  |@back _ x _ _ z A B _ k1 a d i j=>
   obtain⟨y,v⟩:=List.append_inj' c rfl;subst y;simp only[OG,PJ] at v;subst v;rw[u] at i;simp only[Na] at i;subst i;exact s rfl j
  |stop k1 a d=>
   exact absurd c ai
 |stop k g l=>
  intro V m e n c h
  cases h with
  |hit k1=>rw[c] at k1;exact absurd k1 k
  |go k1 a d i j=>
   subst c;have f:=a;rw[show dQ N []=N.src.toNat from rfl,g] at f;simp only[Na] at f;subst f;have t:=(Nb.1 d).1;rw[show dQ N []=N.src.toNat from rfl] at t;omega
  |skip k1 a d i j=>
   subst c;have f:=a;rw[show dQ N []=N.src.toNat from rfl,g] at f;simp only[Na] at f;subst f;have t:=(Nb.1 d).1;rw[show dQ N []=N.src.toNat from rfl] at t;omega
  |back k1 a d i j=>exact absurd c ai
  |stop _ _ _=>exact⟨rfl,rfl,rfl⟩
theorem Bl.uniq{N:aR}{L:Nat->LN_}{least:Int}(c:N.src.toNat≠N.snk.toNat){rm rm':LI_}{pos W:LN_}{ws:List (LN_×Int)}(h:Bl N L least rm pos W ws rm'):∀ {a:List (LN_×Int)} {b:LI_},Bl N L least rm pos W a b->ws=a/\rm'=b:=by
 induction h with
 |stop d=>
  intro a b h
  cases h with
  |stop _=>exact⟨rfl,rfl⟩
  |walk k1 _=>have:=(d.uniq c rfl k1).1;cases this
 |walk d _ e=>
  intro a b h
  cases h with
  |stop k1=>have:=(d.uniq c rfl k1).1;cases this
  |walk k1 f=>
   obtain⟨_,g,i⟩:=d.uniq c rfl k1;subst g;subst i;obtain⟨j,k⟩:=e f;exact⟨by rw[j],k⟩
theorem nf.uniq{N:aR}(e:N.Right){least:Int}{f f1 f2:LI_}{b c:List (LN_×Int)}(j:nf N least f b f1)(k:nf N least f c f2):b=c/\f1=f2:=by
 have l:=e.src;have m:=e.snk;have n:=e.diff;obtain⟨a,g,a2,a3⟩:=j;obtain⟨d,h,o,p⟩:=k
 obtain rfl:a=d:=by
  have hu:=nL g h;have hl:a.length=d.length:=by rw[g.len,h.len]
  apply O3
  intro i;by_cases hi:i<a.length
  ·have:=hu i;unfold dF at this;rw[Nc,Nc,an hi,an aa] at this;rw[an hi,an aa]
   simpa using this
  ·rw[NX aa,NX aa]
 obtain⟨q,r⟩:=a3.uniq aa p;exact⟨q,zR a2.len o.len r⟩
theorem Dn.uniq{N:aR}(i:N.Right){least:Int}(hle:1<=least){f f1:LI_}{g k1:Nat}(h:Dn N least f g k1 f1):∀ {f2:LI_} {a b:Nat},Dn N least f a b f2->f1=f2/\g=a/\k1=b:=by
 induction h with
 |stop e j=>
  intro f2 a b h
  cases h with
  |stop _ _=>exact⟨rfl,rfl,rfl⟩
  |step c d _ _=>rw[AZ c e] at d;omega
 |step e j k _ l=>
  intro f2 a b h
  cases h with
  |stop c d=>rw[AZ c e] at d;omega
  |step c d m n=>
   obtain⟨rfl,rfl⟩:=k.uniq i m;obtain⟨o,p,q⟩:=l n;exact⟨o,aa,aa⟩
end Go.Proofs.YtmcnpaelaieniaaGreatDoor
