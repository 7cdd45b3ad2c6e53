import Derived.Test.YtmcnpaelaieniaaGreatDoorQX130
/- A part of the proof. -/
set_option linter.unusedVariables false
set_option linter.unusedSimpArgs false
set_option maxHeartbeats 8000000
namespace Go.Proofs.YtmcnpaelaieniaaGreatDoor
open Go.RowKit
def Gm(q:aV×Nat×Int)(v:Value)(H':Heap):Prop:=∃ (A:OA_) (c:Nat),v=.tuple #[bZ q.1 A c,.int .i64 q.2.1,.int .i64 q.2.2]/\H'=[.own (.slice A q.1.arcs.length c) 37 3 q.1.arcs.length (arcs q.1.arcs)]
theorem ka:∀ (l cur:LU_),∀ x∈da cur l,x.length<=cur.length+l.length
 |[],cur,x,a=>by
  unfold da at a;split at a
  ·cases a
  ·obtain rfl:=Ni.1 a;simp
 |b::l,cur,x,a=>by
  unfold da at a;rw[Nh];split at a
  ·split at a
   ·have:=ka l [] x a;simp at this;omega
   ·rcases Nn.1 a with rfl|a
    ·omega
    ·have:=ka l [] x a;simp at this;omega
  ·have:=ka l _ x a;simp at this;omega
theorem kM(l:LU_):∀ x∈bB l,x.length<=l.length:=λ x a=>by
 have:=ka l [] x a
 simpa using this
theorem mn(c:UInt8):∀ (l cur:LU_),∀ x∈cL c cur l,x.length<=cur.length+l.length
 |[],cur,x,a=>by
  obtain rfl:=Ni.1 a;simp
 |b::l,cur,x,a=>by
  unfold cL at a;rw[Nh];split at a
  ·rcases Nn.1 a with rfl|a
   ·omega
   ·have:=mn c l [] x a;simp at this;omega
  ·have:=mn c l _ x a;simp at this;omega
theorem pZ(l:LU_):∀ x∈aB l,x.length<=l.length:=λ x a=>by
 unfold aB at a;split at a
 ·cases a
 ·have b:=mn 10 _ [] x a
  have c:(Lib.trimSuffix l [10]).length<=l.length:=by
   unfold Lib.trimSuffix;split<;>simp
  simp at b;omega
theorem nR(V:LibV)(l:LU_)(hl:l.length<=9999999):Fn 19 [dk l] [] V.heap (Gm (cN l)):=by
 have L:=nK l;refine ia Tryz.func19 rfl rfl λ w0=>bu ?_;refine dD λ f=>?_;refine fP ?_;refine aF (v:=.agg (Ln tC none 0).toArray) (eE rfl rfl rfl rfl rfl rfl) ?_;refine cY (cs:=Ln tC none 0) λ p=>?_;refine kp 37 3<|dQ ?_;refine eW (kJ V l aa) rfl ⟨⟨3,ai,rfl⟩,⟨4,ai,rfl⟩,⟨5,ai,rfl⟩,an⟩ ?_;rintro v H' ⟨w,n,z,rfl,rfl⟩;subst z;refine cR ?_;refine aq ?_
 refine bP (σ:=Nat×Rd×OA_×Nat) (λ s=>[(17,af s.1),(16,af (aB l).length),(15,.slice w (aB l).length (aB l).length),(6,.slice w (aB l).length (aB l).length),(5,ap p 0),(2,ap f 0)])
  (λ s=>rK p s.2.2.1 s.2.2.2 s.2.1++[blk f 33 (bU nh none 0),.own (.slice w (aB l).length (aB l).length) 9 1 (aB l).length (cv (aB l))]++V.heap)
  (λ s=>s.1<=(aB l).length/\s.2.1.OK/\fj tC 0 (aB l)=fj s.2.1 s.1 ((aB l).drop s.1)) (λ s=>(aB l).length-s.1) (0,tC,none,0) [2,1,3,0,4,5,6] a7 ab rfl ⟨Nl _,Hv,rfl⟩ ?_
 rintro⟨k,r,A,c⟩ ⟨M,ok,j⟩;simp only at M ok j ⊢;refine ao ?_;refine am (ak rfl (λ N=>ag ?_) (λ O=>aO ?_))
 ·have a:k<(aB l).length:=by omega
  obtain⟨x,C⟩:∃ x,(aB l)[k]?=some x:=⟨(aB l)[k],be a⟩;have P:=pZ l x (Nb C);refine aR (aH 3 rfl) (λ Q=>?_);obtain⟨gl,rfl⟩:=Q.2.2.1 aa
  have b:fj tC 0 (aB l)=if (r.line (bB x)).2≠0 then (r,k+1,(r.line (bB x)).2) else fj (r.line (bB x)).1 (k+1) ((aB l).drop (k+1)):=by
   rw[j,N5 a]
   have:(aB l)[k]=x:=by
    have:=be a;rw[C] at this;exact (NK this).symm
   rw[this];rfl
  refine am (aq ?_);refine aI ?_;refine aF (bn rfl a) ?_;refine aF (aw 3 rfl rfl rfl (eg C)) ?_;refine dQ ?_;refine dG (uU x aa) rfl an ?_;rintro v H' ⟨B,n,z,rfl,rfl⟩;subst z;refine dw ?_;refine eF (aH 0 rfl) (λ hw=>?_)
  obtain⟨o,D⟩:∃ o,bB x≠[]->B=aL o 0:=by
   by_cases h:bB x=[]
   ·exact⟨0,λ k=>absurd h k⟩
   ·obtain⟨g,e⟩:=hw.2.2.1 (NM.2 h);exact⟨g,λ _=>e⟩
  have q:cv (bB x)≠[]->B=aL o 0:=λ h=>D (by rintro e;rw[e] at h;exact h rfl);have R:=kB x;have E:=kM x;refine cj (Lc (bB x) aa B o 0 D) rfl ⟨ff 0 rfl q,an⟩ ?_;refine dD λ Y=>?_;refine dE 0 ?_;refine dQ ?_;refine aF (a8 (i:=1) 0 rfl rfl rfl rfl) ?_;refine az ?_;refine aF (a8 (i:=0) 0 rfl rfl rfl rfl) ?_
  refine bK (fst:=[]) (cap:=[]) [] (J0 V (bB x) (fun y S=>by have:=E y S;omega) aa B o 0 D p r ok A c) rfl rfl rfl rfl (FE _) (K:=[.own (.slice B (bB x).length (bB x).length) 9 1 (bB x).length (cv (bB x)),blk f 33 (bU nh none 0),.own (ax gl 0 (aB l).length (aB l).length) 9 1 (aB l).length (cv (aB l))]++V.heap) (ay.picks [2,3,1,4,5,6,7,8] ab rfl)
   ⟨ff 0 rfl q,⟨3,ai,rfl⟩,⟨4,ai,rfl⟩,⟨5,ai,rfl⟩,an⟩ aK ?_
  rintro v H' ⟨rfl,U,X,rfl⟩;refine fD ?_;refine ak rfl (λ he=>?_) (λ he=>ag ?_)
  ·rw[if_pos he] at b;refine aI ?_;refine aF (v:=bZ nh none 0) (eE rfl rfl rfl rfl rfl rfl) ?_;refine az ?_;refine dE 3 ?_;refine az ?_;refine kp 37 3<|fC ?_;refine bN ⟨[_,_,_],[0],_,⟨⟨f,4,_,_,rfl,rfl,rfl⟩,rfl,rfl,an⟩,ab,rfl,?_⟩;unfold Gm cN;rw[b,if_pos he];refine⟨none,0,?_,rfl⟩;rw[cp aa];rfl
  ·rw[if_neg he] at b;refine ao ?_;refine⟨(k+1,(r.line (bB x)).1,U,X),[0,1,3,4,5,6,7],⟨?_,rfl,rfl,rfl,rfl,rfl,an⟩,ab,rfl,⟨by simp only;omega,ok.line _,b⟩,by simp only;omega⟩;refine fy ?_;rw[cp aa];rfl
 have F:k=(aB l).length:=aa;subst F;rw[List.drop_length] at j;have m:fj tC 0 (aB l)=(r,0,0):=j;have hlen:=ok.len
 have d:(r.most=-1\/r.src=0\/r.snk=0)->cN l=(nh,(aB l).length+1,2):=λ h=>by
  unfold cN;rw[m,if_neg ai,if_pos h]
 refine am (aq ?_);refine mA ?_;refine aF (a8 (i:=4) (v:=af r.most) 0 rfl rfl rfl rfl) ?_;refine az ?_;by_cases t:r.most=-1
 ·refine dt 44 rfl t<|bp [5] ?_;refine aA 52 (v':=.bool true) rfl rfl<|cW [5,13] ?_;refine dr ?_;refine B9 ?_;refine bN ⟨[_,_,_],[0],_,⟨⟨f,3,_,_,rfl,rfl,rfl⟩,rfl,rfl,an⟩,ab,rfl,?_⟩;rw[d (.inl t)];refine⟨none,0,?_,rfl⟩;rw[cp aa];rfl
 refine dc 44 rfl t<|bp [5] ?_;refine ae [5] (a8 (i:=1) (v:=af r.src) 0 rfl rfl rfl rfl) rfl<|bp [5] ?_;by_cases u:r.src=0
 ·refine dt 52 rfl u<|cW [5,13] ?_;refine dr ?_;refine B9 ?_;refine bN ⟨[_,_,_],[0],_,⟨⟨f,3,_,_,rfl,rfl,rfl⟩,rfl,rfl,an⟩,ab,rfl,?_⟩;rw[d (.inr (.inl u))];refine⟨none,0,?_,rfl⟩;rw[cp aa];rfl
 refine dc 52 rfl u<|bp [5,13] ?_;refine ae [5,13] (a8 (i:=2) (v:=af r.snk) 0 rfl rfl rfl rfl) rfl<|cW [5,13] ?_;refine ak rfl (λ H=>?_) (λ H=>?_)
 ·refine B9 ?_;refine bN ⟨[_,_,_],[0],_,⟨⟨f,3,_,_,rfl,rfl,rfl⟩,rfl,rfl,an⟩,ab,rfl,?_⟩;rw[d (.inr (.inr H))];refine⟨none,0,?_,rfl⟩;rw[cp aa];rfl
 refine cq ?_;refine bM 12 (dT [0,1,2,3,4,5,6,7,8,9,10,11]) [0] aX ab rfl<|Hp ?_
 have fold:cN l=if (r.arcs.length:Int)<r.most then (nh,(aB l).length+1,6) else (⟨r.nodes,r.src,r.snk,r.arcs⟩,0,0):=by
  unfold cN;rw[m,if_neg ai,if_neg (by rintro (k|k|k);exact t k;exact u k;exact H k)]
 refine ak rfl (λ I=>?_) (λ I=>ag ?_)
 ·refine B9 ?_;refine bN ⟨[_,_,_],[0],_,⟨⟨f,3,_,_,rfl,rfl,rfl⟩,rfl,rfl,an⟩,ab,rfl,?_⟩;rw[fold.trans (if_pos I)];refine⟨none,0,?_,rfl⟩;rw[cp aa];rfl
 rw[if_neg I] at fold;refine aI ?_;refine aF (v:=bZ ⟨r.nodes,r.src,r.snk,r.arcs⟩ A c) (a8 (i:=0) 0 rfl rfl rfl rfl) ?_;refine lI ?_;refine ii ?_;refine bN ⟨[_,_,_],[1],_,⟨⟨f,2,_,_,rfl,rfl,rfl⟩,rfl,rfl,an⟩,ab,rfl,?_⟩;rw[fold];exact⟨A,c,rfl,rfl⟩
open Lib
def gD(f:LU_)(l:LI_):LU_:=join (f::l.map itoa) [32]
theorem v4(x:LU_)(xs:List (LU_))(sep:LU_):join (x::xs) sep=x++(xs.map λ y=>sep++y).flatten:=by
 unfold join
 induction xs generalizing x with
 |nil=>simp[List.intercalate]
 |cons y r a=>
  have:=a y;simp only[List.intercalate] at this ⊢;rw[List.intersperse_cons_cons];simp only[OA,Nv];rw[this];simp
theorem qc(f:LU_)(l:LI_):gD f l=f++(l.map λ n=>32::itoa n).flatten:=by
 unfold gD;rw[v4,OG];rfl
theorem fi(f:LU_)(l:LI_)(hl:∀ n∈l,b7 n):(gD f l).length<=f.length+l.length*21:=by
 rw[qc,Nj]
 have:((l.map λ n=>32::itoa n).flatten).length<=l.length*21:=by
  induction l with
  |nil=>simp
  |cons n r a=>
   have b:=hl n ai;unfold b7 at b;have d:=(FQ n aa).2;have e:=a λ x c=>hl x (by simp[c]);simp only[Nv,OA,Nj,Nh];omega
 omega
theorem kn(V:LibV)(f:LU_)(z:f.length<=100)(l:LI_)(hl:∀ n∈l,b7 n)(j:l.length<=100)(B:OA_)(n i b d:Nat)(o:l≠[]->B=some ⟨b,d,none⟩)(q:n=l.length):
 Fn 54 [dk f,.slice B n i] [] ([.seg b d (aj l)]++V.heap) λ v H'=>v=dk (gD f l)/\H'=[]:=by
 subst q;have r:=fi f l hl;refine aT Tryz.func54 λ w0=>?_;refine c9 ?_;refine dp λ g0=>?_;refine jg ?_;refine cR ?_;refine aq ?_
 refine bP (σ:=Nat×OA_×Nat) (λ s=>[(12,af s.1),(11,af l.length),(10,.slice B l.length i),(5,.slice s.2.1 (f::(l.take s.1).map itoa).length s.2.2)])
  (λ s=>[.own (.slice s.2.1 (f::(l.take s.1).map itoa).length s.2.2) 9 1 (f::(l.take s.1).map itoa).length (cv (f::(l.take s.1).map itoa)),.seg b d (aj l)]++V.heap)
  (λ s=>s.1<=l.length) (λ s=>l.length-s.1) (0,aL g0 0,1) [0,1,2,3,4] a7 ab rfl (Nl _) ?_
 rintro⟨k,A,c⟩ t;simp only at t ⊢;refine ao ?_;refine am (ak rfl (λ u=>ag ?_) (λ w=>aO ?_))
 ·have hlt':k<l.length:=by omega
  obtain⟨x,e⟩:∃ x,l[k]?=some x:=⟨l[k],be hlt'⟩;obtain rfl:=o (by rintro rfl;simp at hlt');have hxB:=hl x (Nb e);have hlen:(f::(l.take k).map itoa).length=k+1:=by rw[Nh,Nm,NE];omega
  refine am (aq ?_);refine wu ?_;refine aF (aZ 1 rfl rfl (bI e)) ?_;refine BQ ?_;refine dp λ g2=>?_;refine bx (n:=(f::(l.take k).map itoa).length) (m:=1) (off:=0) (news:=cv [itoa x]) 1 0 rfl rfl rfl rfl rfl rfl ab rfl rfl (aS g2 _ _ (0,0)) aK rfl rfl aa aa (λ _ _=>rfl) λ y c2=>cR ?_;have a:f::(l.take (k+1)).map itoa=(f::(l.take k).map itoa)++[itoa x]:=by rw[Nu,e];simp
  refine⟨(k+1,y,c2),[1,2,3,4,5],⟨?_,rfl,rfl,?_,an⟩,ab,?_,by simp only;omega,by simp only;omega⟩
  ·refine fy ?_;rw[cp aa];rfl
  ·simp only[a];rw[Nj];rfl
  ·simp only[a];rw[Nj,show cv ((f::(l.take k).map itoa)++[itoa x])=cv (f::(l.take k).map itoa)++cv [itoa x] by simp[cv]];rfl
 obtain rfl:k=l.length:=aa;refine aR (aH 0 rfl) (λ ho=>?_);obtain⟨g,rfl⟩:=ho.2.2.1 ai;rw[NH] at*;exact Gt
theorem GC(N:aV)(j:N.Fits)(a:N.Right)(A:OA_)(c b o:Nat)(k:N.arcs≠[]->A=some ⟨b,o,none⟩)(f:LI_)(d:aD N f)(F:OA_)(cf e of:Nat)(l:f≠[]->F=some ⟨e,of,none⟩)
 (s:LI_) (m:fm N s) (g:s.length<=100000) (S:OA_) (cs i os:Nat) (n:s≠[]->S=some ⟨i,os,none⟩):
 Fn 129 [bZ N A c,.slice F f.length cf,.slice S s.length cs] [] [.seg b o (arcs N.arcs),.seg e of (aj f),.seg i os (aj s)] λ v H'=>v=.int .i64 (if dH (N.arcs.zip f) N.snk=iw s N.arcs then 0 else 8)/\H'=[]:=by
 have q:=a.len;have r:=d.len;refine aT Tryz.func129 λ w0=>?_;refine bu ?_;refine cY (cs:=bU N A c) λ p=>?_;refine ie ?_;refine dG (f9 N j a A c b o k f F cf e of l (aD.inB a d.toRanged) aa) rfl ⟨bz 1 rfl,bz 2 rfl,an⟩ ?_;rintro v H' ⟨⟨rfl,_⟩|⟨_,h⟩,rfl⟩
 case inr=>exact absurd d h
 refine fD ?_;refine ak rfl (λ h=>absurd rfl h) (λ _=>ag ?_);refine rR ?_;refine cj (sS N j a A c b o k s m g S cs i os n) rfl ⟨bz 1 rfl,bz 3 rfl,an⟩ ?_;refine im ?_;refine ao ?_;refine ak rfl (λ h=>absurd rfl h) (λ _=>?_);refine ao ?_;refine ak rfl (λ h=>?_) (λ h=>ag ?_)
 ·refine ao ?_;refine aM [] ⟨_,rfl,Na (Value.int .i64) (if_neg h).symm,rfl⟩
 ·refine ao ?_;refine aM [] ⟨_,rfl,Na (Value.int .i64) (if_pos (No.1 h)).symm,rfl⟩
theorem Jn(r:Nat):r^^^1=cI r:=by
 have d:=Nat.xor_div_two (a:=r) (b:=1)
 have c:(r^^^1)%2=(r+1)%2:=by
  have h:=Nat.xor_mod_two_eq_one (a:=r) (b:=1);by_cases c:r%2=1
  ·have:¬ (r^^^1)%2=1:=by rw[h];simp[c]
   omega
  ·have:(r^^^1)%2=1:=by rw[h];simp[c]
   omega
 have e:r/2^^^1/2=r/2:=by show r/2^^^0=_;exact Nat.xor_zero _
 unfold cI;split<;>omega
theorem IT{r:Nat}(h:r<4611686018427387904):IntKind.i64.wrap ((BitVec.ofInt IntKind.i64.bits (r:Int)^^^BitVec.ofInt IntKind.i64.bits 1).toNat:Int)=((cI r:Nat):Int):=by
 have e:(BitVec.ofInt IntKind.i64.bits (r:Int)^^^BitVec.ofInt IntKind.i64.bits 1).toNat=r^^^1:=by
  rw[BitVec.toNat_xor,BitVec.toNat_ofInt,BitVec.toNat_ofInt];have a:((1:Int)%((2^IntKind.i64.bits:Nat):Int)).toNat=1:=ab;have b:((2^IntKind.i64.bits:Nat):Int)=18446744073709551616:=ab;rw[a,b]
  congr 1
  omega
 rw[e,Jn,cp (by unfold cI;split<;>omega)]
theorem HT(N:aV)(A:OA_)(c e f:Nat)(Ar:OA_)(cr gr:Nat)(least:Int)(gl n:Nat)(Aw:OA_)(nw cw:Nat)(rm:LI_)(g:rm.length=2*N.arcs.length)(b:rm≠[]->Ar=some ⟨gr,0,none⟩)(r:Nat)(j:r<2*N.arcs.length):
 Fn 230 [.int .i64 r,.pointer (some ⟨f,0,none⟩)] [] [.seg f 0 [.pointer (some ⟨e,0,none⟩)],.seg e 0 (w4 N A c Ar cr least gl n Aw nw cw),.seg gr 0 (aj rm)] λ v H'=>v=.bool (dR (rm.getD r 0<least))/\H'=[]:=by
 obtain⟨x,a⟩:∃ x,rm[r]?=some x:=⟨rm[r]'aa,be aa⟩;have d:rm.getD r 0=x:=by rw[Nf,a];rfl
 obtain rfl:=b (by intro k;rw[k] at a;simp at a);rw[d];refine aT Tryz.func230 λ w0=>?_;refine iL ?_;refine bM 13 (dT [0,1,2,3,4,5,6,7,8,9,10,11,12]) [0,1,2] aX ab rfl<|bh rfl (aZ (i:=0) 0 rfl rfl rfl) ?_;refine a9 ?_;refine bh rfl (aZ (i:=4) (v:=ax gr 0 (2*N.arcs.length) cr) 1 rfl rfl rfl) ?_;refine a9 ?_;refine bh rfl (bn rfl j) ?_;refine bh rfl (fJ (i:=r) 2 rfl rfl rfl (NR _).symm (bQ a)) ?_;refine bh rfl (aZ (i:=0) 0 rfl rfl rfl) ?_;refine a9 ?_;refine bh rfl (aZ (i:=5) (v:=af least) 1 rfl rfl rfl) ?_;refine lo ?_;exact nU
theorem GX(N:aV)(A:OA_)(c g d:Nat)(Ar:OA_)(cr gr:Nat)(least:Int)(gl n:Nat)(Aw:OA_)(cw p:Nat)(rm:LI_)(s:rm.length=2*N.arcs.length)(t:rm≠[]->Ar=some ⟨gr,0,none⟩)
 (W:LN_) (x:∀ r∈W,r<2*N.arcs.length) (y:W.length<=1000) (u:W≠[]->Aw=some ⟨p,0,none⟩) (hex:∃ r∈W,rm.getD r 0<least):
 Fn 229 [.slice Aw W.length cw,.func (.func 230) #[] #[.pointer (some ⟨d,0,none⟩)]] [] [.seg d 0 [.pointer (some ⟨g,0,none⟩)],.seg g 0 (w4 N A c Ar cr least gl n Aw W.length cw),.seg gr 0 (aj rm),.seg p 0 (cJ W)]
  λ v H'=>v=.int .i64 (rI least rm W:Nat)/\H'=[]:=by
 refine aT Tryz.func229 λ w0=>?_;refine mG ?_
 refine bP (σ:=Nat) (λ k=>[(8,af k),(7,af W.length),(1,.func (.func 230) #[] #[ap d 0]),(0,.slice Aw W.length cw)])
  (λ _=>[.seg d 0 [ap g 0],.seg g 0 (w4 N A c Ar cr least gl n Aw W.length cw),.seg gr 0 (aj rm),.seg p 0 (cJ W)]) (λ k=>k<=W.length/\∀ j r,j<k->W[j]?=some r->¬ rm.getD r 0<least) (λ k=>W.length-k)
  0 [0,1,2,3] a7 ab rfl ⟨Nl _,λ j r h=>by omega⟩ ?_
 rintro k ⟨B,a⟩;refine ao ?_;refine am (ak rfl (λ b=>ag ?_) (λ z=>aO ?_))
 ·have b:k<W.length:=by omega
  obtain⟨r,f⟩:∃ r,W[k]?=some r:=⟨W[k],be b⟩;obtain rfl:=u (by rintro rfl;simp at b);refine am (aq ?_);refine c9 ?_;refine aF (bn rfl b) ?_;refine aF (fJ (i:=k) 3 rfl rfl rfl (NR _).symm (eH f)) ?_;refine cj (fst:=[]) (cap:=[ap d 0]) (HT N A c g d Ar cr gr least gl n _ W.length cw rm s t r (x r (Nb f))) rfl ⟨bz 0 rfl,bz 1 rfl,bz 2 rfl,an⟩ ?_;refine ah<|ak rfl (λ l=>?_) (λ l=>ag ?_)
  ·refine ao ?_;refine aM [] ⟨_,rfl,Na (Value.int .i64) ?_,rfl⟩
   have:rI least rm W=k:=by
    unfold rI;refine (List.findIdx_eq b).2 ⟨by rw[(Ng.1 f).2];exact OR l,λ j m=>?_⟩;have:=a j (W[j]'aa) m (be aa)
    simpa using this
   rw[this]
  ·refine ao ?_;refine⟨k+1,[0,1,2,3],⟨?_,rfl,rfl,rfl,an⟩,ab,rfl,⟨aa,λ j q m o=>?_⟩,aa⟩
   ·refine fy ?_;rw[cp aa];rfl
   ·by_cases e:j=k
    ·subst e;rw[f] at o;simp only[Nc] at o;rw[<- o];exact l
    ·exact a j q aa o
 ·exfalso;obtain⟨r,f,l⟩:=hex;obtain⟨j,m,w⟩:=NV.1 f;exact a j r aa (by rw[be m,w]) l
def C6(least:Int)(N:aV)(A:OA_)(c:Nat)(gr cr pw gl n:Nat)(rm:LI_)(W:LN_)(v:Value)(H':Heap):Prop:=
 ∃ (Aw:OA_) (cw:Nat) (At:OA_) (ct:Nat),v=.agg #[.slice At W.length ct,.int .i64 (dC rm W)]/\
   H'=[blk pw 303 (w4 N A c (some ⟨gr,0,none⟩) cr least gl n Aw (rI least (dg (dC rm W) W rm) W) cw),.own (.slice (some ⟨gr,0,none⟩) (2*N.arcs.length) cr) 2 1 (2*N.arcs.length) (aj (dg (dC rm W) W rm)),
    .own (.slice Aw (rI least (dg (dC rm W) W rm) W) cw) 3 1 (rI least (dg (dC rm W) W rm) W) (cJ (W.take (rI least (dg (dC rm W) W rm) W)))]
theorem zY(rm:LI_)(W:LN_)(x:Int)(k r:Nat)(a:W[k]?=some r):(W.take (k+1)).foldl (λ m q=>if rm.getD q 0<m then rm.getD q 0 else m) x=if rm.getD r 0<(W.take k).foldl (λ m q=>if rm.getD q 0<m then rm.getD q 0 else m) x then rm.getD r 0 else (W.take k).foldl (λ m q=>if rm.getD q 0<m then rm.getD q 0 else m) x:=by
 rw[Nu,a,O3];rfl
theorem Kb(N:aV)(hz:N.arcs.length<=2000)(A:OA_)(c:Nat)(pw gr cr:Nat)(least:Int)(hle:1<=least)(gl n:Nat)(Aw:OA_)(cw:Nat)(rm:LI_)(F:rm.length=2*N.arcs.length)(u:∀ q,0<=rm.getD q 0/\rm.getD q 0<=4611686018427387903)
 (W:LN_) (E:∀ r∈W,r<2*N.arcs.length) (hx:W.length<=1000) (H:W.Nodup) (I:∀ r∈W,∀ q∈W,cI r≠q) (K:W≠[]):
 Fn 227 [.pointer (some ⟨pw,0,none⟩)] (aC ([blk pw 303 (w4 N A c (some ⟨gr,0,none⟩) cr least gl n Aw W.length cw),.own (.slice (some ⟨gr,0,none⟩) (2*N.arcs.length) cr) 2 1 (2*N.arcs.length) (aj rm),.own (.slice Aw W.length cw) 3 1 W.length (cJ W)]))
  ([]++([blk pw 303 (w4 N A c (some ⟨gr,0,none⟩) cr least gl n Aw W.length cw),.own (.slice (some ⟨gr,0,none⟩) (2*N.arcs.length) cr) 2 1 (2*N.arcs.length) (aj rm),.own (.slice Aw W.length cw) 3 1 W.length (cJ W)]))
  (C6 least N A c gr cr pw gl n rm W):=by
 generalize hM:aC _=M
 have b:0<W.length:=NM.2 K;obtain⟨l,w⟩:∃ l,W[0]?=some l:=⟨W[0],be b⟩;have x:W.headD 0=l:=by rw[List.headD_eq_head?_getD,List.head?_eq_getElem?,w];rfl
 have o:∀ r∈W,rm[r]?=some (rm.getD r 0):=λ r e=>by rw[Nf,be (by have:=E r e;omega)];rfl
 have p:=Nb w;have hR:=o l p;refine ia Tryz.func227 rfl rfl λ w0=>bu ?_;refine cY (cs:=[ap pw 0]) λ L=>?_;refine dD λ O=>?_;refine aN ?_;show J _ _ _ _ [_,_,_,_,_];refine aR (aH 4 rfl) λ ⟨_,hb,P,_⟩=>?_;obtain⟨gw,rfl⟩:=P b;refine cq ?_;refine bM 13 (dT [0,1,2,3,4,5,6,7,8,9,10,11,12]) [0,1,2,3,4] aX ab rfl<|bh rfl (ad (v:=ap pw 0) 1 rfl) ?_;refine a9 ?_;refine bh rfl (ad (v:=ax gr 0 (2*N.arcs.length) cr) 2 rfl) ?_;refine bh rfl (ad (v:=ap pw 0) 1 rfl) ?_;refine a9 ?_;refine bh rfl (ad (v:=ax gw 0 W.length cw) 2 rfl) ?_;refine bh rfl (bn (m:=0) rfl b) ?_;refine bh rfl (aw (v:=af (l:Int)) 4 rfl rfl rfl (eH w)) ?_;refine bh rfl (bn rfl (E l p)) ?_;refine bh rfl (aw 3 rfl rfl rfl (bQ hR)) ?_;refine lo ?_;refine Iy ?_;refine iZ ?_
 refine bP (σ:=Nat) (λ k=>[(27,af k),(26,af W.length),(25,ax gw 0 W.length cw),(3,af ((W.take k).foldl (λ m q=>if rm.getD q 0<m then rm.getD q 0 else m) (rm.getD l 0))),(2,ap O 0),(1,ap L 0)])
  (λ _=>[blk O 300 [.slice none 0 0,af 0],blk L 297 [ap pw 0],blk pw 303 (w4 N A c (aL gr 0) cr least gl n (aL gw 0) W.length cw),.own (ax gr 0 (2*N.arcs.length) cr) 2 1 (2*N.arcs.length) (aj rm),.own (ax gw 0 W.length cw) 3 1 W.length (cJ W)])
  (λ k=>k<=W.length) (λ k=>W.length-k) 0 [0,1,2,3,4] a7 ab rfl (Nl _) ?_
 intro k hk;refine ao ?_;refine am (ak rfl (λ hlt=>ag ?_) (λ h3=>aO ?_))
 ·have hlt:k<W.length:=by omega
  obtain⟨r,e⟩:∃ r,W[k]?=some r:=⟨W[k],be hlt⟩;have f:=Nb e;have y:=zY rm W (rm.getD l 0) k r e;refine am (aq ?_);refine qQ ?_;refine aF (aw (v:=af (r:Int)) 4 rfl rfl rfl (eH e)) ?_;refine dQ ?_;refine bj (v:=ap pw 0) 1 ?_;refine az ?_;refine bj (v:=ax gr 0 (2*N.arcs.length) cr) 2 ?_;refine az ?_;refine aF (bn rfl (E r f)) ?_;refine aF (aw 3 rfl rfl rfl (bQ (o r f))) ?_;refine cR ?_;refine⟨k+1,[0,1,2,3,4],⟨?_,rfl,rfl,by rw[y];rfl,rfl,rfl,an⟩,ab,rfl,aa,aa⟩;refine fy ?_;rw[cp aa];rfl
 obtain rfl:k=W.length:=aa;rw[NH,show W.foldl (λ m q=>if rm.getD q 0<m then rm.getD q 0 else m) (rm.getD l 0)=dC rm W by unfold dC;rw[x]];unfold C6;obtain⟨ra,z,Q⟩:=ny (rm:=rm) K;have R:=u ra;rw[<- Q] at R;obtain⟨a,ha⟩:∃ a,a=dC rm W:=⟨_,rfl⟩;have S:∀ r∈W,a<=rm.getD r 0:=λ r e=>ha▸qL r e;rw[<- ha] at R Q ⊢
 have s:∀ k q:Nat,q<2*N.arcs.length->(dg a (W.take k) rm)[q]?=some ((dg a (W.take k) rm).getD q 0):=λ k q hq=>by
  rw[Nf,be (by rw[iX];omega)];rfl
 have B:∀ k q:Nat,(dg a (W.take k) rm).getD q 0=rm.getD q 0+(if cI q∈W.take k then a else 0)-(if q∈W.take k then a else 0):=λ k q=>
  jj F (λ r e=>E r (Oi e)) ((List.take_sublist k W).nodup H) q
 refine Iy ?_;refine bA [] (oN (aL gw 0) cw gw 0 (W.map λ (i:Nat)=>(i:Int)) aK (by rw[Nm];omega)) rfl rfl rfl (by rw[Nm];rfl) aX ⟨fX 4 rfl ca (bW aK),an⟩ aK ?_;rintro v H' ⟨At,ct,rfl,rfl⟩;refine dw ?_;rw[Nm];refine az ?_;refine fv ?_;refine dD λ p6=>?_;refine iA ?_;refine bu ?_;refine bj (v:=ap pw 0) 3 ?_;refine az ?_;refine bj (v:=ax gw 0 W.length cw) 4 ?_;refine iZ ?_
 refine bP (σ:=Nat) (λ k=>[(53,af k),(52,af W.length),(51,ax gw 0 W.length cw),(3,af a),(6,ap p6 0),(2,ap O 0),(1,ap L 0)])
  (λ k=>[blk p6 300 [.slice At W.length ct,af a],blk O 300 [.slice none 0 0,af 0],blk L 297 [ap pw 0],blk pw 303 (w4 N A c (aL gr 0) cr least gl n (aL gw 0) W.length cw),.own (ax gr 0 (2*N.arcs.length) cr) 2 1 (2*N.arcs.length) (aj (dg a (W.take k) rm)),.own (ax gw 0 W.length cw) 3 1 W.length (cJ W)])
  (λ k=>k<=W.length) (λ k=>W.length-k) 0 [0,2,3,4,5,6] a7 ab rfl (Nl _) ?_
 intro k hk;refine ao ?_;refine am (ak rfl (λ hlt=>ag ?_) (λ h3=>aO ?_))
 ·have hlt:k<W.length:=by omega
  obtain⟨r,e⟩:∃ r,W[k]?=some r:=⟨W[k],be hlt⟩;have f:=Nb e;have d:=E r f;have C:=zr d;have U:W.take (k+1)=W.take k++[r]:=by rw[Nu,e];rfl
  have V:r∉W.take k:=by
   intro g;have h1:=H;rw[<- Oa (k+1) W,U] at h1;exact (Nz.1 (Nz.1 h1).1).2.2 r g r ai rfl
  have X:cI r∉W.take k:=λ g=>I r f _ (Oi g) rfl;have e1:(dg a (W.take k) rm).getD r 0=rm.getD r 0:=by rw[B,if_neg X,if_neg V];omega
  have e2:(dg a (W.take k) rm).getD (cI r) 0=rm.getD (cI r) 0:=by rw[B,mC,if_neg V,if_neg X];omega
  have b1:=u r;have b2:=u (cI r);have b3:=S r f;have D:dg a (W.take (k+1)) rm=((dg a (W.take k) rm).set r (rm.getD r 0-a)).set (cI r) (rm.getD (cI r) 0+a):=by rw[U,vL];unfold qJ;rw[e1,e2]
  have Y:=s k r d;rw[e1] at Y;have Z:=s k (cI r) C;rw[e2] at Z;have hy:((dg a (W.take k) rm).set r (rm.getD r 0-a))[cI r]?=some (rm.getD (cI r) 0):=by rw[Ns (x7 r).symm];exact Z
  have hA:=IT (r:=r) aa;refine am (aq ?_);refine qQ ?_;refine aF (aw (v:=af (r:Int)) 5 rfl rfl rfl (eH e)) ?_;refine fP ?_;refine Ia ?_;refine aF (bn rfl d) ?_;refine aF (aw 4 rfl rfl rfl (bQ Y)) ?_;refine az ?_;refine aA 65 (v':=af (rm.getD r 0-a)) rfl (Na (Value.int .i64) (cp aa))<|aF (bn rfl d) ?_;refine aW 4 rfl rfl rfl rfl (fh rfl (by rw[iX];omega)) [] rfl<|ah<|bu ?_;refine Ia ?_;refine aA 72 (v':=af ((cI r:Nat):Int)) rfl (Na (Value.int .i64) hA)<|aF (bn rfl C) ?_;refine aF (aw 4 rfl rfl rfl (bQ hy)) ?_;refine az ?_;refine aA 76 (v':=af (rm.getD (cI r) 0+a)) rfl (Na (Value.int .i64) (cp aa))<|aF (bn rfl C) ?_;refine aW 4 rfl rfl rfl rfl (fh rfl (by rw[NO,iX];omega)) [] rfl<|dv ?_;refine⟨k+1,[0,1,2,3,4,5],⟨?_,rfl,rfl,rfl,rfl,rfl,rfl,an⟩,ab,by rw[D];rfl,aa,aa⟩;refine fy ?_;rw[cp aa];rfl
 obtain rfl:k=W.length:=aa;have j:=B W.length;rw[NH] at j ⊢;obtain⟨rm',t⟩:∃ rm',rm'=dg a W rm:=⟨_,rfl⟩;rw[<- t] at j ⊢;have h2:rm'.length=2*N.arcs.length:=by rw[t,iX];exact F
 have hex:∃ r∈W,rm'.getD r 0<least:=⟨ra,z,by
  rw[j,if_neg (λ g=>I ra z _ g rfl),if_pos z];omega⟩
 obtain⟨k,hk⟩:∃ k,k=rI least rm' W:=⟨_,rfl⟩;have hv:k<=W.length:=by rw[hk];exact List.findIdx_le_length
 refine bu ?_;refine bj (v:=ap pw 0) 2 ?_;refine az ?_;refine bj (v:=ax gw 0 W.length cw) 3 ?_;refine az ?_
 refine bA [] (GX N A c pw L (aL gr 0) cr gr least gl n (aL gw 0) cw gw rm' h2 aK W E hx aK hex) rfl rfl rfl rfl aX
  ⟨ew 2 rfl,ew 3 rfl,fX 4 rfl ca (bW aK),fX 5 rfl ca (bW aK),an⟩ aK ?_
 refine j2 ?_;refine ec ?_;rw[<- hk];refine cq ?_;refine bM 9 (dT [0,1,2,3,4,5,6,7,8]) [2,3] aX ab rfl<|bh rfl (ad (v:=ap pw 0) 0 rfl) ?_;refine bh rfl (ad (v:=ap pw 0) 0 rfl) ?_;refine a9 ?_;refine bh rfl (ad (v:=ax gw 0 W.length cw) 1 rfl) ?_;refine a9 ?_;refine bh rfl (jG (i:=k) rfl rfl rfl rfl rfl aa) ?_;refine hZ [] rfl<|dE 3 ?_;refine ah<|bS (ay.shrink (m:=k) 5 rfl hv)<|?_;rw[NT,show (cJ W).take k=cJ (W.take k) by unfold cJ;rw[List.map_take];simp[aj]];refine bu ?_;refine bj (v:=.agg #[.slice At W.length ct,af a]) 0 ?_;refine dE 1 ?_;exact ah<|bN<|⟨[_],[3,4,5],_,⟨⟨O,1,_,_,rfl,rfl,rfl⟩,an⟩,ab,rfl,aL gw 0,cw,At,ct,rfl,rfl⟩
theorem yh(N:aV)(ls:LN_)(r v:Nat):fF N (ls++[r]) v=fF N ls v++(if eN N r=v then [r] else []):=by
 unfold fF;rw[Ps]
 congr 1
 by_cases h:eN N r=v
 ·rw[if_pos h,OJ,if_pos (OR h)];rfl
 ·rw[if_neg h,OJ,if_neg (by simpa using h)];rfl
theorem lp(N:aV)(ls:LN_)(v:Nat):(fF N ls v).length<=ls.length:=OD _ _
theorem MD(N:aV)(y:N.Right)(A:OA_)(c b o:Nat)(R:N.arcs≠[]->A=some ⟨b,o,none⟩)(Ar:OA_)(cr:Nat)(ls:LN_)(z:∀ r∈ls,r<2*N.arcs.length)(P:ls.length<=4000)(B:OA_)(Q C D:Nat)(S:ls≠[]->B=some ⟨C,D,none⟩)
 (least:Int) (n:Nat) (Z:N.nodes=n):Fn 225 [bZ N A c,.slice Ar (2*N.arcs.length) cr,.slice B ls.length Q,.int .i64 least] [] [.seg b o (arcs N.arcs),.seg C D (cJ ls)] λ v H'=>∃ (w gl:Nat) (rows:List fg),v=.pointer (some ⟨w,0,none⟩)/\rows.length=n+1/\
  (∀ (v:Nat) (row:fg),rows[v]?=some row->row.l=(fF N ls v).map λ (i:Nat)=>(i:Int))/\
  H'=[blk w 303 (w4 N A c Ar cr least gl n none 0 0),.own (.slice (some ⟨gl,0,none⟩) (n+1) (n+1)) 23 1 (n+1) (rows.map cT)]++rows.map (bd 3):=by
 have U:=y.nodes;have E:=y.len;refine aT Tryz.func225 λ w0=>?_;refine bu ?_;refine cY (cs:=bU N A c) λ p=>?_;refine ii ?_;refine bM 10 (dT [0,1,2,3,4,5]++[(6,false)]++dT [7]++[(8,false)]++dT [9]) [0] aX ab rfl<|bh rfl (ad (v:=bZ N A c) 0 rfl) ?_;refine a9 ?_;refine bh rfl (ad (v:=af N.nodes) 0 rfl) ?_;refine a9 ?_;refine dK 19 (v':=af ((n+1:Nat):Int)) rfl (Na (Value.int .i64) ((cp (n:=N.nodes+1) aa).trans aa))<|cz ?_;refine cX (n:=n+1) (c:=n+1) rfl rfl rfl rfl rfl rfl aa aa aa aK λ gl=>b6 [1]<|yr ?_;refine cY (cs:=w4 N A c Ar cr least gl n none 0 0) λ w=>?_;refine b6 [2]<|lo ?_;rw[show made [Value.slice none 0 0] ((n+1)*1)=(List.replicate (n+1) en).map cT by rw[c8,NT,OI];rfl];refine jn ?_;refine bS (ay.nils 3 (n+1)) ?_
 refine cA (σ:=Nat×List fg) (λ s=>[(25,af s.1),(24,af ls.length),(23,.slice B ls.length Q),(9,ap w 0),(4,ap p 0)])
  (λ s=>[blk w 303 (w4 N A c Ar cr least gl n none 0 0),.own (ax gl 0 (n+1) (n+1)) 23 1 (n+1) (s.2.map cT),blk p 33 (bU N A c),.seg b o (arcs N.arcs),.seg C D (cJ ls)]++s.2.map (bd 3))
  (λ s=>s.1<=ls.length/\s.2.length=n+1/\∀ (v:Nat) (r:fg),s.2[v]?=some r->r.l=(fF N (ls.take s.1) v).map λ (i:Nat)=>(i:Int)) (λ s=>ls.length-s.1)
  (0,List.replicate (n+1) en) a7 ay.refl ⟨Nl _,ai,λ v r h=>?_⟩ ?_
 ·rw[Nw] at h;split at h
  ·simp only[Nc] at h;subst h;rfl
  ·cases h
 rintro⟨k,rows⟩ ⟨V,a,d⟩;simp only at V a d ⊢;refine ao ?_;refine am (ak rfl (λ hlt=>ag ?_) (λ X=>aO ?_))
 ·have hlt:k<ls.length:=by omega
  obtain⟨r,F⟩:∃ r,ls[k]?=some r:=⟨ls[k],be hlt⟩;have x:=z r (Nb F);obtain⟨he,H,I⟩:=ow y x;obtain⟨v,K⟩:∃ v,eN N r=v:=⟨_,rfl⟩;rw[K] at he H I;obtain rfl:=S (by rintro rfl;simp at hlt);have j:v<rows.length:=aa;obtain⟨row,f⟩:∃ r,rows[v]?=some r:=⟨rows[v],be j⟩;have g:=d v row f;have hlen:=lp N (ls.take k) v;have L:(ls.take k).length<=ls.length:=by rw[NE];omega
  have M:row.l.length=(fF N (ls.take k) v).length:=by rw[g,Nm]
  have O:ls.take (k+1)=ls.take k++[r]:=by rw[Nu,F];rfl
  refine am (aq ?_);refine iz ?_;refine aF (aZ 4 rfl rfl (eH F)) ?_;refine fP ?_;refine bj (v:=bZ N A c) 2 ?_;refine az ?_;refine cj (jz N A c b o R E r x) rfl ⟨bz 3 rfl,an⟩ ?_;refine aN ?_;refine bD 12 (v':=af (v:Int)) rfl (Na (Value.int .i64) he)<|sy ?_;refine bS (ay.front (i:=v) (c:=bd 3 row) (by rw[Nk,f];rfl)) ?_;refine GF ?_;refine bh rfl (aw (v:=cT row) 1 rfl rfl rfl (show (rows.map cT)[v]?=some (cT row) by rw[Nk,f];rfl)) ?_;refine jI ?_;refine dp λ g2=>?_;refine b6 [2,3]<|cz ?_;refine bx (n:=row.l.length) (m:=1) (off:=0) (news:=aj [(r:Int)]) 1 0 rfl rfl rfl rfl rfl rfl ab rfl rfl (aS g2 _ _ (0,0)) aK rfl rfl aa aa (λ _ _=>rfl) λ Y c2=>KE ?_;refine⟨(k+1,rows.set v ⟨Y,c2,row.l++[(r:Int)]⟩),⟨?_,rfl,rfl,rfl,rfl,an⟩,?_,⟨by simp only;omega,by simp only[NO];omega,λ u q hu=>?_⟩,by simp only;omega⟩
  ·refine fy ?_;rw[cp aa];rfl
  ·simp only[O1];refine ay.trans (ay.sub (NW _ _)) (ay.back (A:=[_,_,_,_,_]) (by rw[Nm];exact j))
  ·simp only at hu ⊢;rw[O,yh,NI];by_cases t:v=u
   ·subst t;rw[Nq j] at hu;simp only[Nc] at hu;rw[<- hu,if_pos K,g];rfl
   ·rw[Ns t] at hu;rw[if_neg (λ e=>t (K.symm.trans e)),Og,NN];exact d u q hu
 ·obtain rfl:k=ls.length:=by omega
  rw[NH] at d;refine ao ?_;refine bS (ay.re [0,1] rfl ab) (bN ⟨_,rfl,w,gl,rows,rfl,a,d,rfl⟩)
def LT(N:aV)(f:LI_)(least:Int)(m:Nat)(v:Value)(H':Heap):Prop:=
 (aD N f/\1<=least/\∃ (f':LI_) (ws:List (LN_×Int)) (g:Nat) (Ak:OA_) (ck:Nat) (xs:LV_),ry N least f ws f'/\
  v=.tuple #[.slice (some ⟨g,0,none⟩) m m,.slice Ak ws.length ck,.int .i64 0]/\
  H'=[.own (.slice (some ⟨g,0,none⟩) m m) 2 1 m (aj f'),.own (.slice Ak ws.length ck) 300 2 ws.length xs])\/
 (¬ aD N f/\v=.tuple #[.slice none 0 0,.slice none 0 0,.int .i64 (eP N f)]/\H'=[])\/(aD N f/\least<1/\v=.tuple #[.slice none 0 0,.slice none 0 0,.int .i64 3]/\H'=[])
structure BS where
 ns:NS
 rm:LI_
 f:LI_
 acc:List (LN_×Int)
 Ak:OA_
 ck:Nat
 xs:LV_
theorem FP(N:aV)(hN:N.Fits)(hR:N.Right)(A:OA_)(c b o:Nat)(hA:N.arcs≠[]->A=some ⟨b,o,none⟩)(f:LI_)(F:OA_)(cf bf of:Nat)(hF:f≠[]->F=some ⟨bf,of,none⟩)(hf:∀ x∈f,b7 x)(hfl:f.length*8<=140737488351232)(least:Int):
 Fn 223 [bZ N A c,.slice F f.length cf,.int .i64 least] [] [.seg b o (arcs N.arcs),.seg bf of (aj f)] (LT N f least f.length):=by
 have p4:=hR.nodes;have e1:=hR.len;obtain⟨n,hn⟩:∃ n:Nat,N.nodes=n:=⟨N.nodes.toNat,aa⟩;refine aT Tryz.func223 λ w0=>?_;refine bu ?_;refine cY (cs:=bU N A c) λ p=>?_;refine ie ?_;refine dG (yw N hN hR A c b o hA f F cf bf of hF hf hfl least) rfl ⟨bz 1 rfl,bz 2 rfl,an⟩ ?_;rintro v H' (⟨E,hle,lv,B,cb,hy,rfl,rfl⟩|⟨E,rfl,rfl⟩|⟨E,hle,rfl,rfl⟩)
 case inr.inl=>
  refine fD ?_;refine ak rfl (λ h=>?_) (λ h=>absurd (cZ.1 (No.1 h)) E);refine ao ?_;refine aM [] ⟨_,rfl,.inr (.inl ⟨E,rfl,rfl⟩)⟩
 case inr.inr=>
  refine fD ?_;refine ak rfl (λ h=>?_) (λ h=>absurd h ab);refine ao ?_;refine aM [] ⟨_,rfl,.inr (.inr ⟨E,hle,rfl,rfl⟩)⟩
 refine fD ?_;refine ak rfl (λ h=>absurd rfl h) (λ _=>ag ?_);refine GV ?_;rintro v H' (⟨_,A1,D,rfl,rfl⟩|⟨h,_,_⟩)
 case inr=>exact absurd E h
 refine ec ?_;have ho:=E.len;obtain⟨ls,y⟩:∃ ls,ls=di N (bc (N.arcs.zip f)) least lv (2*N.arcs.length):=⟨_,rfl⟩;rw[<- y];have hb:∀ r∈ls,r<2*N.arcs.length:=λ r hr=>(fI.1 (y▸hr)).1;have M:ls.length<=4000:=by rw[y];have:=lK N (bc (N.arcs.zip f)) least lv (2*N.arcs.length);omega
 have hG:=j3 hy;rw[<- y] at hG;refine aR (aH 1 rfl) λ ⟨_,_,hB,hS⟩=>?_;obtain⟨gB,hB⟩:=bg hB hS;refine aR (aH 0 rfl) λ ⟨_,_,hz,hc⟩=>?_;obtain⟨gr,hz⟩:=bg hz hc;have q1:ls≠[]->B=aL gB 0:=λ h=>hB (by intro P;apply h;have:=f0 ls;unfold cJ at this;rw[P] at this;exact Ny.1 this.symm);refine bu ?_;refine bj (v:=bZ N A c) 2 ?_;refine az ?_;refine dG (MD N hR A c b o hA A1 D ls hb M B cb gB 0 q1 least n hn) rfl ⟨bz 3 rfl,ff 1 rfl hB,an⟩ ?_;rintro v H' ⟨pw,gl,rows,rfl,Q,hL,rfl⟩;refine⟨dl rfl (dd _ rows),?_⟩;refine cD ay.swap ?_;show JL _ _ _ _ _ ([_,_,_,_,_,_,_]++rows.map (bd 3));refine cR ?_;refine bX 3 1<|bX 300 2<|gK ?_
 have O:∀ w,dN w0 [] w ([.own (.slice none 0 0) 300 2 0 [],.own (.slice none 0 0) 3 1 0 [],blk pw 303 (w4 N A c A1 D least gl n none 0 0),.own (ax gl 0 (n+1) (n+1)) 23 1 (n+1) (rows.map cT),.own (.slice A1 (2*N.arcs.length) D) 2 1 (2*N.arcs.length) (aj (bc (N.arcs.zip f))),.own (.slice B ls.length cb) 3 1 ls.length (aj (ls.map λ (i:Nat)=>(i:Int))),blk p 33 (bU N A c),.seg b o (arcs N.arcs),.seg bf of (aj f)]++rows.map (bd 3))->
  ∀ v:Nat,∃ H:Nat,∀ row,rows[v]?=some row->row.l.length<=row.c/\(aj row.l≠[]->row.A=aL H 0):=by
  intro w hw v
  cases hv:rows[v]? with
  |none=>exact⟨0,λ row h=>by cases h⟩
  |some row=>
   obtain⟨_,h2,h3,h4⟩:=aH (X:=⟨w0,[],⟨0,[]⟩⟩) (v+9) (show _=some (bd 3 row) by show (rows.map (bd 3))[v]?=_;rw[Nk,hv];rfl) w hw;obtain⟨H,I⟩:=bg h3 h4;exact⟨H,λ r2 h=>by simp only[Nc] at h;subst h;exact⟨h2,I⟩⟩
 show J _ _ _ _ ([_,_,_,_,_,_,_,_,_]++rows.map (bd 3));refine aR O λ d=>?_;obtain⟨H,I⟩:∃ H:Nat->Nat,∀ (v:Nat) (row:fg),rows[v]?=some row->row.l.length<=row.c/\(aj row.l≠[]->row.A=aL (H v) 0):=⟨λ v=>Classical.choose (d v),λ v=>Pg (d v)⟩
 clear d O
 obtain⟨g,z⟩:∃ g,g=bc (N.arcs.zip f):=⟨_,rfl⟩;have hL':∀ (v:Nat) (row:fg),rows[v]?=some row->row.l=(fF N ls v).map λ (i:Nat)=>(i:Int):=hL
 have n1:tG rows H (List.replicate (n+1) 0) (rows.map cT):=by
  refine⟨ai,λ v row q hr R=>?_⟩;rw[Nw] at R;split at R
  ·simp only[Option.some.injEq] at R;subst R;have h1:=I v row hr;refine⟨row.A,row.c,by rw[List.getElem?_map,hr];rfl,h1.1,fun hp=>h1.2 (fun P=>?_)⟩;have:row.l.length=0:=by rw[← bY,P];rfl
   omega
  ·cases R
 refine cA (σ:=BS) (λ s=>[(14,.slice s.Ak s.acc.length s.ck),(13,ap pw 0),(11,.slice A1 (2*N.arcs.length) D),(1,.slice F f.length cf)])
  (λ s=>[blk pw 303 (w4 N A c A1 D least gl n s.ns.Aw s.ns.W.length s.ns.cw),.own (ax gl 0 (n+1) (n+1)) 23 1 (n+1) s.ns.vals,.own (.slice s.ns.Aw s.ns.W.length s.ns.cw) 3 1 s.ns.W.length (cJ s.ns.W),
   .own (.slice A1 (2*N.arcs.length) D) 2 1 (2*N.arcs.length) (aj s.rm),.own (.slice s.Ak s.acc.length s.ck) 300 2 s.acc.length s.xs,.seg b o (arcs N.arcs),.seg bf of (aj f)]++rows.map (bd 3))
  (λ s=>PI N (fF N ls) least s.rm s.ns.pos s.ns.W/\tG rows H s.ns.pos s.ns.vals/\aD N s.f/\s.rm=bc (N.arcs.zip s.f)/\s.acc.length+qM ls least s.rm<=4000/\
   ∀ ws rm',Bl N (fF N ls) least s.rm s.ns.pos s.ns.W ws rm'->Bl N (fF N ls) least g (List.replicate (N.nodes.toNat+1) 0) [] (s.acc++ws) rm')
  (λ s=>qM ls least s.rm) ⟨⟨List.replicate (n+1) 0,[],rows.map cT,none,0⟩,g,f,[],none,0,[]⟩ a7 (by
   simp only[z];exact ay.re [2,3,1,4,0,7,8] rfl ab) ⟨?_,n1,E,z,?_,λ ws rm' h=>?_⟩ ?_
 ·have:=PI.start (N:=N) (L:=fF N ls) (least:=least) (rm:=g);rw[hn,NA] at this;exact this
 ·have:qM ls least g<=ls.length:=OD _ _;simp only[NC];omega
 ·rw[hn,NA];exact h
 rintro⟨⟨pos,W,vals,Aw,cw⟩,rm,fc,acc,Ak,ck,xs⟩ ⟨hI,hV,j,t,hs,hX⟩;simp only at hI hV j t hs hX ⊢;have u:rm.length=2*N.arcs.length:=by rw[t];exact kg j.len
 refine aR (aH 3 rfl) λ ⟨_,_,e,S⟩=>?_;obtain⟨U,e⟩:=bg e S;have C:rm≠[]->A1=aL U 0:=λ h=>e (by simpa [aj] using h);have h5:∀ v,(fF N ls v).length<=4000:=λ v=>Ov (lp N ls v) M;refine aI ?_
 refine bK (fst:=[]) (cap:=[]) [] (Jk N hR A c b o hA pw A1 D U least gl n hn (fF N ls) (dL lv) hG h5 rm u C rows Q hL H (λ v row h=>(I v row h).2) ⟨pos,W,vals,Aw,cw⟩ hI hV) rfl rfl rfl rfl aX (ay.mid [0,1,2] [3,4,5,6] rfl rfl ab)
  ⟨bz 2 rfl,ff 0 rfl e,an⟩ aK ?_
 rintro v H' ⟨bb,⟨ha,a,V,s3,q2⟩,rfl,K,hH,ht,rfl⟩;simp only at K hH ht ⊢;refine⟨dl rfl (dd _ rows),?_⟩;refine cD ay.swap<|ah<|?_
 cases bb with
 |false=>
  refine bo rfl (aO ?_);have hj:=hX _ _ (.stop K);rw[NN] at hj;have b1:=j.len;obtain⟨m,hm⟩:∃ m,f.length=m:=⟨_,rfl⟩;rw[hm] at ho ⊢;refine aI ?_;refine cX (n:=m) (c:=m) rfl rfl rfl rfl rfl rfl aa aa aa aK λ go=>aN ?_;rw[show made [af 0] (m*1)=aj (List.replicate m 0) by rw[c8,NT];simp[aj]];refine jn ?_
  refine bP (σ:=Nat) (λ k=>[(50,af k),(49,af m),(15,ax go 0 m m),(14,.slice Ak acc.length ck),(11,.slice A1 (2*N.arcs.length) D)])
   (λ k=>[.own (ax go 0 m m) 2 1 m (aj (fc.take k++List.replicate (m-k) 0)),.own (.slice A1 (2*N.arcs.length) D) 2 1 (2*N.arcs.length) (aj rm),.own (.slice Ak acc.length ck) 300 2 acc.length xs])
   (λ k=>k<=m) (λ k=>m-k) 0 [0,4,5] a7 ab rfl (Nl _) ?_
  intro k hk;refine ao ?_;refine am (ak rfl (λ hg=>ag ?_) (λ hge=>aO ?_))
  ·have hg:k<m:=by omega
   obtain⟨x,hx⟩:∃ x,fc[k]?=some x:=⟨fc[k]'aa,be aa⟩;obtain⟨ar,p2⟩:∃ ar,N.arcs[k]?=some ar:=⟨N.arcs[k]'aa,be aa⟩;have Y:=(eh (f8 p2 hx)).2;rw[<- t] at Y;simp only at Y;obtain rfl:=C (by intro P;rw[P] at u;simp at u;omega);refine am (aq ?_);refine c9 ?_;refine aA 58 (v':=af ((2*k+1:Nat):Int)) rfl (Na (Value.int .i64) (by rw[cp (n:=2*(k:Int)) aa,cp aa];omega))<|ip ?_;refine aF (aw 1 rfl rfl rfl (bQ Y)) ?_;refine aF (bn rfl hg) ?_;refine AU ?_;refine dv ?_;refine⟨k+1,[0,1,2],⟨?_,rfl,rfl,rfl,rfl,an⟩,ab,?_,aa,aa⟩
   ·refine fy ?_;rw[cp aa];rfl
   ·rw[show fc.take (k+1)++List.replicate (m-(k+1)) 0=(fc.take k++List.replicate (m-k) 0).set k x by
     rw[OF _ _ eK,NE,OX aa,OE,show m-k=(m-(k+1))+1 by omega,Oo,OW,Nu,hx,NQ];rfl]
    rfl
  ·obtain rfl:k=m:=by omega
   rw[OE,List.replicate_zero,NN,Oh aa];refine ao ?_;refine aM [0,2] ⟨_,rfl,.inl ⟨E,hle,fc,acc,go,Ak,ck,xs,⟨lv,hy,j,?_⟩,rfl,rfl⟩⟩;rw[<- y,<- z,<- t];exact hj
 |true=>
  refine bF rfl (ag ?_);obtain⟨_,hd,_⟩:=K.keeps hG hI;obtain⟨k1,k2,k3,k4,k5,k6,⟨f',k7,k8⟩,k9,k0,r,v,p8,b2,l2⟩:=kH hR hG hle j t hH (hd rfl);rw[hn,NA] at k5;obtain⟨r0,r1⟩:=PW _ k1;have a1:=k2 r0 r1;obtain rfl:=C (by intro P;rw[P] at u;simp at u;omega);refine od ?_;refine bS (ay.re [0,3,2,1,4,5,6] rfl ab)<|aq<|aI ?_;show JL _ _ _ _ _ ([_,_,_]++([_,_,_,_]++rows.map (bd 3)));have l1:qM ls least (dg (dC rm a) a rm)<qM ls least rm:=xf (λ q R=>k0 (eN N q) q (iU.2 ⟨R,rfl⟩)) r (iU.1 p8).1 b2 l2;refine rW (fst:=[]) (cap:=[]) (Kb N e1 A c pw U D least hle gl n s3 q2 rm u (λ q=>by rw[t];exact gC hR j.toRanged q) a k2 aa k3 k4 k1) rfl ay.refl an ?_;rintro v' H' ⟨h6,s0,At,ct,rfl,rfl⟩;obtain⟨kc,Z⟩:∃ kc,kc=rI least (dg (dC rm a) a rm) a:=⟨_,rfl⟩;have n2:kc<=a.length:=by rw[Z];exact List.findIdx_le_length
  rw[<- Z] at k9 ⊢;refine dp λ gk=>?_;refine bx (n:=acc.length) (m:=1) (off:=0) (news:=[.slice At a.length ct,af (dC rm a)]) 5 0 rfl rfl rfl rfl rfl rfl ab rfl rfl (aS gk _ _ (0,0)) aK rfl rfl aa aa (λ _ _=>rfl) λ A4 c4=>aN ?_;have e2:(a.take kc).length=kc:=by rw[NE];omega
  refine⟨⟨⟨ha,a.take kc,V,h6,s0⟩,dg (dC rm a) a rm,f',acc++[(a,dC rm a)],A4,c4,xs++[.slice At a.length ct,af (dC rm a)]⟩,⟨?_,rfl,rfl,rfl,an⟩,?_,⟨k9,ht,k7,k8,?_,λ ws rm' h=>?_⟩,l1⟩
  ·show some (Value.slice A4 (acc.length+1) c4)=some (Value.slice A4 (acc++[(a,dC rm a)]).length c4);rw[Nj,NU]
  ·simp only[e2,Nj,NU];show ay _ ([_,_,_,_,_,_,_,_]++rows.map (bd 3)) _;exact ay.re [1,4,3,2,5,6,7] rfl ab
  ·simp only[Nj,NU];omega
  ·have:=hX _ _ (.walk K (Z▸h));rw[NQ];exact this
theorem Bs(N:aV)(i:N.Fits)(a:N.Right)(A:OA_)(c b o:Nat)(j:N.arcs≠[]->A=some ⟨b,o,none⟩)(f:LI_)(d:aD N f)(F:OA_)(cf e of:Nat)(k:f≠[]->F=some ⟨e,of,none⟩)(least:Int)(hle:1<=least):
 Fn 222 [.agg #[],bZ N A c,.slice F f.length cf,.int .i64 least] [] [.seg b o (arcs N.arcs),.seg e of (aj f)] λ v H'=>∃ (f':LI_) (ws:List (LN_×Int)) (g:Nat),ry N least f ws f'/\
  v=.tuple #[.slice (some ⟨g,0,none⟩) f.length f.length,.int .i64 ws.length,.int .i64 0]/\H'=[.own (.slice (some ⟨g,0,none⟩) f.length f.length) 2 1 f.length (aj f')]:=by
 have hl:=d.len;have l:=a.len;refine aT Tryz.func222 λ w0=>?_;refine bu ?_;refine cY (cs:=[]) λ r=>?_;refine cY (cs:=bU N A c) λ p=>?_;refine ie ?_;refine dG (FP N i a A c b o j f F cf e of k (aD.inB a d.toRanged) aa least) rfl ⟨bz 2 rfl,bz 3 rfl,an⟩ ?_;rintro v H' (⟨_,_,f',ws,g,Ak,ck,xs,m,rfl,rfl⟩|⟨n,_,_⟩|⟨_,q,_,_⟩)
 case inr.inl=>exact absurd d n
 case inr.inr=>omega
 refine fD ?_;exact aM [0] ⟨_,rfl,f',ws,g,m,rfl,rfl⟩
theorem DB:Fn 75 [.int .u8 112] [] [] λ v H'=>v=.iface 190 (.agg #[])/\H'=[]:=by
 refine aT Tryz.func75 λ w0=>?_;refine mG ?_;refine ao ?_;refine ak rfl (λ _=>?_) (λ h=>absurd rfl h);refine aI ?_;refine fv ?_;refine aN ?_;exact j0
structure FS where
 f:LI_
 A:OA_
 c:Nat
 p:Nat
 k:Nat
 lv:LI_
def qT(A:OA_)(m c:Nat)(p k:Int)(s:Int):Value:=.agg #[.slice A m c,.int .i64 p,.int .i64 k,.int .i64 s]
theorem B3(N:aV)(hN:N.Fits)(hR:N.Right)(A:OA_)(c b o:Nat)(hA:N.arcs≠[]->A=some ⟨b,o,none⟩)(f:LI_)(hf:aD N f)(F:OA_)(cf bf of:Nat)(hF:f≠[]->F=some ⟨bf,of,none⟩)(least:Int)(hle:1<=least):
 Fn 38 [bZ N A c,.slice F f.length cf,.int .i64 least,.int .u8 112] [] [.seg b o (arcs N.arcs),.seg bf of (aj f)] λ v H'=>∃ (f':LI_) (p k:Nat) (I:OA_) (K:Nat),Dn N least f p k f'/\(k:Int)<=9223372036854775806/\
  v=.tuple #[qT I f'.length K p k 0,.int .i64 0]/\H'=[.own (.slice I f'.length K) 2 1 f'.length (aj f')]:=by
 have hl:=hf.len;have U:=hR.len;refine ia Tryz.func38 rfl rfl λ w0=>bu ?_;refine cY (cs:=bU N A c) λ L=>?_;refine dD λ x=>?_;refine Fu ?_;rintro v H' (⟨_,_,lv,y,rfl,rfl⟩|⟨z,_,_⟩|⟨_,i,_,_⟩)
 case inr.inl=>exact absurd hf z
 case inr.inr=>omega
 refine fD ?_;refine ak rfl (λ h=>absurd rfl h) (λ _=>ag ?_);refine aI ?_;refine cj (DB) rfl an ?_;refine cR ?_;refine bo rfl (ag ?_);refine aI ?_;refine eW (gW F cf bf of f hF aa) rfl ⟨bz 3 rfl,an⟩ ?_;rintro v H' ⟨V,c0,rfl,rfl⟩;refine fv ?_;refine dD λ j=>?_;refine iA ?_;refine gK ?_;have X:=dm hR hf.toRanged N.snk
 refine bP (σ:=FS) (λ s=>[(10,af (dL s.lv N.snk.toNat)),(12,.iface 190 (.agg #[])),(13,ap j 0),(8,ap x 0),(4,ap L 0),(2,af least)])
  (λ s=>[blk j 47 [.slice s.A s.f.length s.c,af s.p,af s.k,af 0],.own (.slice s.A s.f.length s.c) 2 1 s.f.length (aj s.f),blk x 47 [.slice none 0 0,af 0,af 0,af 0],blk L 33 (bU N A c),.seg b o (arcs N.arcs)])
  (λ s=>aD N s.f/\fw N (bc (N.arcs.zip s.f)) least s.lv/\s.p<=s.k/\dH (N.arcs.zip f) N.snk+s.k<=dH (N.arcs.zip s.f) N.snk/\∀ p k f',Dn N least s.f p k f'->Dn N least f (s.p+p) (s.k+k) f')
  (λ s=>(4611686018427387903-dH (N.arcs.zip s.f) N.snk).toNat) ⟨f,V,c0,0,0,lv⟩ [0,1,2,3,4] a7 ab rfl ⟨hf,y,Nr _,ai,λ p k f' h=>by simpa using h⟩ ?_
 rintro⟨l,u,w,p,k,Y⟩ ⟨d,a,B,m,C⟩;simp only at d a B m C ⊢;have Z:=dm hR d.toRanged N.snk;have M:=d.len;refine ao ?_;refine ak rfl (λ n=>ag ?_) (λ i=>aO ?_)
 ·refine aq<|aR (aH 1 rfl) fun ⟨_,_,g,q⟩=>?_;obtain⟨gc,g⟩:=bg g q;refine aI ?_;refine qa ?_;refine bj (v:=.slice u l.length w) 0 ?_;refine az ?_;refine wd [] (Bs N hN hR A c b o hA l d u w gc 0 (fun h=>g (by simpa [aj] using h)) least hle) rfl rfl rfl rfl aX rfl aX ⟨bz 4 rfl,ff 1 rfl g,trivial⟩ aK ?_;rintro v H' ⟨f1,ws,g1,O,rfl,rfl⟩;obtain⟨e,h1,D⟩:=O.keeps hR hle d a;have E:=List.length_pos_iff.2 (D n);have P:=e.len;have hlen:l.length=f1.length:=aa;refine dw ?_;rw[hlen];refine aN ?_;have Q:=dm hR e.toRanged N.snk
  have h2:(ws.length:Int)<=least*ws.length:=by
   have:=Int.mul_le_mul_of_nonneg_right hle (show (0:Int)<=ws.length by omega);omega
  refine KO ?_;refine bj (v:=af 0) 1 ?_;refine az ?_;refine aA 59 (v':=af 0) rfl (Na (Value.int .i64) (cp aa))<|fv ?_;refine dE 1 ?_;refine ah<|bu ?_;refine bj (v:=bZ N A c) 4 ?_;refine az ?_;refine dG (tu N hN hR A c b o hA f1 (aL g1 0) f1.length g1 0 aK (aD.inB hR e.toRanged) aa least) rfl ⟨bz 5 rfl,fX 0 rfl ca (bW aK),an⟩ ?_;rintro v H' (⟨_,_,H,r,rfl,rfl⟩|⟨z,_,_⟩|⟨_,i,_,_⟩)
  case inr.inl=>exact absurd e z
  case inr.inr=>omega
  refine ec ?_;refine⟨⟨f1,aL g1 0,f1.length,p+1,k+ws.length,H⟩,[1,0,3,4,5],a7,ab,rfl,⟨e,r,by simp only;omega,by simp only;omega,λ R S f' h=>?_⟩,by simp only;omega⟩;have:=C _ _ _ (.step a n O h);simp only;rw[show p+1+R=p+(R+1) by omega,show k+ws.length+S=k+(ws.length+S) by omega];exact this
 ·have t:=C _ _ _ (.stop a aa);rw[OZ,OZ] at t;refine bu ?_;refine bj (v:=qT u l.length w p k 0) 0 ?_;refine lI ?_;refine lz ?_;exact⟨[_,_],[1],_,⟨⟨x,2,_,_,rfl,rfl,rfl⟩,rfl,an⟩,ab,rfl,l,p,k,u,w,t,aa,rfl,rfl⟩
theorem LY(N:aV)(f:N.Fits)(e:N.Right)(A:OA_)(c b o:Nat)(i:N.arcs≠[]->A=some ⟨b,o,none⟩):
 Fn 16 [bZ N A c,.int .u8 112] [] [.seg b o (arcs N.arcs)] λ v H'=>∃ (f':LI_) (p k:Nat) (a:OA_) (d:Nat),Dn N 1 (List.replicate N.arcs.length 0) p k f'/\(k:Int)<=9223372036854775806/\
  v=.tuple #[qT a f'.length d p k 0,.int .i64 0]/\H'=[.own (.slice a f'.length d) 2 1 f'.length (aj f')]:=by
 have j:=e.len;refine ia Tryz.func16 rfl rfl λ w0=>bu ?_;refine cY (cs:=bU N A c) λ r=>?_;refine dD λ l=>?_;refine H0 ?_
 (first|refine aG [] rfl (ad 0 rfl) rfl ?_|refine aG [] rfl (ad 1 rfl) rfl ?_|refine aG [] rfl (ad 2 rfl) rfl ?_|refine aG [] rfl (ad 3 rfl) rfl ?_|refine aG [] rfl (ad 4 rfl) rfl ?_|refine aG [] rfl (ad 5 rfl) rfl ?_)
 refine jI ?_;refine cX (n:=N.arcs.length) (c:=N.arcs.length) rfl rfl rfl rfl rfl rfl aa aa aa aK λ g=>b6 [2,3]<|?_;rw[show made [af 0] (N.arcs.length*1)=aj (List.replicate N.arcs.length 0) by rw[c8,NT];simp[aj]];refine cz ?_;refine bA [] (B3 N f e A c b o i (List.replicate N.arcs.length 0) (iV N e) (aL g 0) N.arcs.length g 0 aK 1 ab) rfl rfl rfl (by rw[NP];rfl) aX ⟨bz 3 rfl,fX 0 rfl ca (bW aK),an⟩ aK ?_;rintro v H' ⟨f',p,k,a,d,m,q,rfl,rfl⟩;refine⟨rfl,b6 [3,4] ?_⟩;refine hZ [] rfl<|dE 2 ?_;refine lz ?_;exact⟨[_,_],[0],_,⟨⟨l,2,_,_,rfl,rfl,rfl⟩,rfl,an⟩,ab,rfl,f',p,k,a,d,m,q,rfl,rfl⟩
structure ni where
 l:Int
 r:Int
structure Gr where
 left:Int
 right:Int
 edges:List ni
def fO(l:List ni):LV_:=l.flatMap λ e=>[.int .i64 e.l,.int .i64 e.r]
theorem sE(e:ni)(l:List ni):fO (e::l)=.int .i64 e.l::.int .i64 e.r::fO l:=by simp[fO]
theorem sT:∀ l:List ni,(fO l).length=l.length*2
 |[]=>rfl
 |e::l=>by rw[sE,Nh,Nh,sT l,Nh];omega
theorem H4(l r:List ni):fO (l++r)=fO l++fO r:=by simp[fO]
theorem yX:∀ {l:List ni} {i:Nat} {x:ni},l[i]?=some x->(fO l)[i*2]?=some (.int .i64 x.l)/\(fO l)[i*2+1]?=some (.int .i64 x.r)
 |[],i,x,h=>by simp at h
 |a::l,0,x,h=>by
  simp only[Ok,Nc] at h;subst h;rw[sE];exact⟨rfl,rfl⟩
 |a::l,i+1,x,h=>by
  have b:=yX (l:=l) (i:=i) (x:=x) (by simpa using h);rw[sE,show (i+1)*2=i*2+1+1 by omega];exact⟨b.1,b.2⟩
theorem kl{l:List ni}{m:Nat}{a:ni}(h:l[m]?=some a):fQ 180 (fO l) (m*2)=some (.agg #[.int .i64 a.l,.int .i64 a.r]):=by
 obtain⟨b,c⟩:=yX h;show (match eI (fO l) (m*2) 2 with|some l=>some (Value.agg l.toArray)|none=>none)=_
 have:eI (fO l) (m*2) 2=some [af a.l,af a.r]:=by
  unfold eI;rw[b];unfold eI;rw[c];unfold eI;rfl
 rw[this]
structure Gr.Right (g:Gr):Prop where
 left:1<=g.left/\g.left<=200
 right:1<=g.right/\g.right<=200
 len:g.edges.length<=1500
 edge:∀ e∈g.edges,(1<=e.l/\e.l<=g.left)/\(1<=e.r/\e.r<=g.right)
def xQ(g:Gr)(A:OA_)(c:Nat):Value:=.agg #[.int .i64 g.left,.int .i64 g.right,.slice A g.edges.length c]
def rL(g:Gr)(A:OA_)(c:Nat):LV_:=[.int .i64 g.left,.int .i64 g.right,.slice A g.edges.length c]
theorem gO(v m:Int):Fn 177 [.int .i64 v,.int .i64 m] [] [] λ u H'=>u=.bool (dR (1<=v/\v<=m))/\H'=[]:=by
 refine aT Tryz.func177 λ w0=>?_;refine c9 ?_;by_cases h:1<=v
 ·refine dt 7 rfl h<|cW [2] ?_;exact bN ⟨_,rfl,Na Value.bool (ey ⟨λ k=>⟨h,k⟩,λ k=>k.2⟩),rfl⟩
 ·refine dc 7 rfl h<|cW [2] ?_;exact bN ⟨_,rfl,Na Value.bool (aU (λ k=>h k.1)).symm,rfl⟩
theorem wA(g:Gr)(d:g.Right)(A:OA_)(c b o:Nat)(f:g.edges≠[]->A=some ⟨b,o,none⟩):Fn 153 [xQ g A c] [] [.seg b o (fO g.edges)] λ v H'=>v=.int .i64 0/\H'=[]:=by
 have i:=d.left;have j:=d.right;have q:=d.len;refine aT Tryz.func153 λ w0=>?_;refine bu ?_;refine cY (cs:=rL g A c) λ p=>?_;refine im ?_;refine aI ?_
 (first|refine ae [] (ad 0 rfl) rfl ?_|refine ae [] (ad 1 rfl) rfl ?_|refine ae [] (ad 2 rfl) rfl ?_|refine ae [] (ad 3 rfl) rfl ?_|refine ae [] (ad 4 rfl) rfl ?_|refine ae [] (ad 5 rfl) rfl ?_|refine ae [] (ad 6 rfl) rfl ?_|refine ae [] (ad 7 rfl) rfl ?_)
 refine cj (gO g.left 200) rfl an ?_;refine az ?_;refine aA 10 (v':=.bool false) rfl (Na Value.bool (by rw[aQ i];rfl))<|bp [4] ?_
 (first|refine ae [4] (ad 0 rfl) rfl ?_|refine ae [4] (ad 1 rfl) rfl ?_|refine ae [4] (ad 2 rfl) rfl ?_|refine ae [4] (ad 3 rfl) rfl ?_|refine ae [4] (ad 4 rfl) rfl ?_|refine ae [4] (ad 5 rfl) rfl ?_|refine ae [4] (ad 6 rfl) rfl ?_|refine ae [4] (ad 7 rfl) rfl ?_)
 refine bA [4] (gO g.right 200) rfl rfl rfl rfl aX an aK<|kD ?_;refine bp [4] ?_;refine aA 5 (v':=.bool false) rfl (Na Value.bool (by rw[aQ j];rfl))<|ah<|bo rfl<|aI ?_
 (first|refine ae [] (ad 0 rfl) rfl ?_|refine ae [] (ad 1 rfl) rfl ?_|refine ae [] (ad 2 rfl) rfl ?_|refine ae [] (ad 3 rfl) rfl ?_|refine ae [] (ad 4 rfl) rfl ?_|refine ae [] (ad 5 rfl) rfl ?_|refine ae [] (ad 6 rfl) rfl ?_|refine ae [] (ad 7 rfl) rfl ?_)
 refine aN ?_;refine ak rfl (λ h=>absurd h aa) (λ _=>ag ?_);refine aI ?_
 (first|refine ae [] (ad 0 rfl) rfl ?_|refine ae [] (ad 1 rfl) rfl ?_|refine ae [] (ad 2 rfl) rfl ?_|refine ae [] (ad 3 rfl) rfl ?_|refine ae [] (ad 4 rfl) rfl ?_|refine ae [] (ad 5 rfl) rfl ?_|refine ae [] (ad 6 rfl) rfl ?_|refine ae [] (ad 7 rfl) rfl ?_)
 refine iZ ?_
 refine bP (σ:=Nat) (λ k=>[(24,af k),(23,af g.edges.length),(22,.slice A g.edges.length c),(1,ap p 0)])
  (λ _=>[blk p 178 (rL g A c),.seg b o (fO g.edges)]) (λ k=>k<=g.edges.length) (λ k=>g.edges.length-k) 0 [0,1] a7 ab rfl (Nl _) ?_
 intro k s;refine ao ?_;refine am (ak rfl (λ hlt=>ag ?_) (λ m=>aO ?_))
 ·have hlt:k<g.edges.length:=by omega
  obtain rfl:=f (by intro n;rw[n] at hlt;simp at hlt);obtain⟨e,he⟩:∃ e,g.edges[k]?=some e:=⟨g.edges[k],be hlt⟩;have a:=d.edge e (Nb he);refine am (aq ?_);refine uh ?_;refine aF (aZ 1 rfl rfl (kl he)) ?_;refine dD λ t=>?_;refine mx ?_;refine aI ?_
  (first|refine ae [] (ad 0 rfl) rfl ?_|refine ae [] (ad 1 rfl) rfl ?_|refine ae [] (ad 2 rfl) rfl ?_|refine ae [] (ad 3 rfl) rfl ?_|refine ae [] (ad 4 rfl) rfl ?_|refine ae [] (ad 5 rfl) rfl ?_|refine ae [] (ad 6 rfl) rfl ?_|refine ae [] (ad 7 rfl) rfl ?_)
  refine az ?_
  (first|refine ae [] (ad 0 rfl) rfl ?_|refine ae [] (ad 1 rfl) rfl ?_|refine ae [] (ad 2 rfl) rfl ?_|refine ae [] (ad 3 rfl) rfl ?_|refine ae [] (ad 4 rfl) rfl ?_|refine ae [] (ad 5 rfl) rfl ?_|refine ae [] (ad 6 rfl) rfl ?_|refine ae [] (ad 7 rfl) rfl ?_)
  refine cj (gO e.l g.left) rfl an ?_;refine az ?_;refine aA 34 (v':=.bool false) rfl (Na Value.bool (by rw[aQ a.1];rfl))<|bp [6] ?_
  (first|refine ae [6] (ad 0 rfl) rfl ?_|refine ae [6] (ad 1 rfl) rfl ?_|refine ae [6] (ad 2 rfl) rfl ?_|refine ae [6] (ad 3 rfl) rfl ?_|refine ae [6] (ad 4 rfl) rfl ?_|refine ae [6] (ad 5 rfl) rfl ?_|refine ae [6] (ad 6 rfl) rfl ?_|refine ae [6] (ad 7 rfl) rfl ?_)
  refine bp [6] ?_
  (first|refine ae [6] (ad 0 rfl) rfl ?_|refine ae [6] (ad 1 rfl) rfl ?_|refine ae [6] (ad 2 rfl) rfl ?_|refine ae [6] (ad 3 rfl) rfl ?_|refine ae [6] (ad 4 rfl) rfl ?_|refine ae [6] (ad 5 rfl) rfl ?_|refine ae [6] (ad 6 rfl) rfl ?_|refine ae [6] (ad 7 rfl) rfl ?_)
  refine bA [6] (gO e.r g.right) rfl rfl rfl rfl aX an aK<|kD ?_;refine bp [6] ?_;refine aA 41 (v':=.bool false) rfl (Na Value.bool (by rw[aQ a.2];rfl))<|ah<|bo rfl (ag ?_);refine ao ?_;refine⟨k+1,[1,2],⟨?_,rfl,rfl,rfl,an⟩,ab,rfl,aa,aa⟩;refine fy ?_;rw[cp aa];rfl
 ·exact jS
def dP(g:Gr):aV:=⟨2+g.left+g.right,1,2,((List.range g.left.toNat).map λ (i:Nat)=>(⟨1,3+i,1⟩:ej))++(g.edges.map λ e=>(⟨2+e.l,2+g.left+e.r,1⟩:ej))++((List.range g.right.toNat).map λ (i:Nat)=>(⟨3+g.left+i,2,1⟩:ej))⟩
theorem qU{α:Type}(f:α->ej)(h:∀ x,(f x).cap=1):∀ l:List α,((l.map f).map (·.cap)).sum=l.length
 |[]=>rfl
 |x::l=>by simp only[Nv,ND,qU f h l,h,Nh];omega
theorem qX(g:Gr):(dP g).arcs.length=g.left.toNat+g.edges.length+g.right.toNat:=by simp[dP];omega
theorem If{g:Gr}:∀ a∈(dP g).arcs,a.cap=1:=by
 intro a b
 rcases Np.1 b with b|b
 ·rcases Np.1 b with b|b
  ·obtain⟨i,_,rfl⟩:=NF.1 b;rfl
  ·obtain⟨e,_,rfl⟩:=NF.1 b;rfl
 ·obtain⟨i,_,rfl⟩:=NF.1 b;rfl
theorem qf{g:Gr}(c:g.Right):(dP g).Right:=by
 have d:=c.left;have f:=c.right;have h:=c.len;have hl:=qX g;refine⟨by show 2<=2+g.left+g.right/\2+g.left+g.right<=500;omega,by show 1<=1/\1<=2+g.left+g.right;omega,by show 1<=2/\2<=2+g.left+g.right;omega,by show (1:Int)≠2;decide,aa,λ a b=>?_,?_⟩
 ·show (1<=a.fr/\a.fr<=2+g.left+g.right)/\(1<=a.to/\a.to<=2+g.left+g.right)/\0<=a.cap
  rcases Np.1 b with b|b
  ·rcases Np.1 b with b|b
   ·obtain⟨i,hi,rfl⟩:=NF.1 b;have:=N8.1 hi;simp only;omega
   ·obtain⟨e,he,rfl⟩:=NF.1 b;have:=c.edge e he;simp only;omega
  ·obtain⟨i,hi,rfl⟩:=NF.1 b;have:=N8.1 hi;simp only;omega
 ·have:((dP g).arcs.map (·.cap)).sum=(dP g).arcs.length:=by
   show ((_++_++_:List ej).map (·.cap)).sum=_;rw[NI,NI,ON,ON,qU _ aK,qU _ aK,qU _ aK,qX];simp
  rw[this];omega
structure d9 (g:Gr) (l:LI_):Prop where
 rise:l.Pairwise (·<·)
 rng:∀ x∈l,0<=x/\x<g.edges.length
 apart:l.Pairwise λ x y=>∀ a b,g.edges[x.toNat]?=some a->g.edges[y.toNat]?=some b->a.l≠b.l/\a.r≠b.r
theorem d9.snoc{g:Gr}{l:LI_}{x:Int}{e:ni}(he:g.edges[x.toNat]?=some e):d9 g (l++[x])↔d9 g l/\(∀ y∈l,y<x)/\0<=x/\x<g.edges.length/\∀ y∈l,∀ a,g.edges[y.toNat]?=some a->a.l≠e.l/\a.r≠e.r:=by
 constructor
 ·intro h;obtain⟨d,_,f⟩:=Of.1 h.rise;obtain⟨k1,_,m⟩:=Of.1 h.apart;have k:=h.rng x ai;exact⟨⟨d,λ y c=>h.rng y (by simp[c]),k1⟩,λ y c=>f y c x ai,k.1,k.2,λ y c a i=>m y c x ai a e i he⟩
 ·rintro⟨h,d,n,f,o⟩;refine⟨rA h.rise d,λ y c=>?_,?_⟩
  ·rcases Np.1 c with c|c
   ·exact h.rng y c
   ·rw[Ni.1 c];exact⟨n,f⟩
  ·rw[Of];refine⟨h.apart,OT _ _,λ y c z p a b i j=>?_⟩;rw[Ni.1 p,he] at j;simp only[Nc] at j;rw[<- j];exact o y c a i
theorem d9.pre{g:Gr}{l m:LI_}(h:d9 g (l++m)):d9 g l:=
 ⟨(Of.1 h.rise).1,λ y a=>h.rng y (by simp[a]),(Of.1 h.apart).1⟩
def kF(g:Gr)(side:ni->Int)(n:Nat)(l:LI_):LB_:=l.foldl (λ m x=>match g.edges[x.toNat]? with|some e=>m.set (side e).toNat true|none=>m) (List.replicate n false)
theorem uR(g:Gr)(side:ni->Int)(n:Nat)(l:LI_)(x:Int){e:ni}(he:g.edges[x.toNat]?=some e):kF g side n (l++[x])=(kF g side n l).set (side e).toNat true:=by
 unfold kF;rw[O3,OH,List.foldl_nil,he]
theorem ju(g:Gr)(side:ni->Int)(n:Nat)(l:LI_):(kF g side n l).length=n:=by
 unfold kF
 have key:∀ (l:LI_) (m:LB_),m.length=n->(l.foldl (λ m x=>match g.edges[x.toNat]? with|some e=>m.set (side e).toNat true|none=>m) m).length=n:=by
  intro l
  induction l with
  |nil=>exact λ m h=>h
  |cons x l a=>
   intro m h;rw[OH];refine a _ ?_;split
   ·rw[NO];exact h
   ·exact h
 exact key l _ ai
theorem nP(g:Gr)(side:ni->Int)(n v:Nat)(j:v<n):∀ (l:LI_) (m:LB_),m.length=n->(∀ x∈l,∀ e,g.edges[x.toNat]?=some e->0<=side e)->
 ((l.foldl (λ m x=>match g.edges[x.toNat]? with|some e=>m.set (side e).toNat true|none=>m) m)[v]?=some true↔m[v]?=some true\/∃ x∈l,∃ e,g.edges[x.toNat]?=some e/\side e=v)
 |[],m,_,_=>by simp
 |x::l,m,hm,h=>by
  rw[OH]
  cases he:g.edges[x.toNat]? with
  |none=>
   simp only;rw[nP g side n v j l m hm λ y b=>h y (by simp[b])];refine or_congr Iff.rfl ⟨λ ⟨y,b,e,c,d⟩=>⟨y,by simp[b],e,c,d⟩,λ ⟨y,b,e,c,d⟩=>?_⟩
   rcases Nn.1 b with rfl|b
   ·rw[he] at c;cases c
   ·exact⟨y,b,e,c,d⟩
  |some e=>
   simp only;have k:=h x ai e he;rw[nP g side n v j l _ (by rw[NO];exact hm) λ y b=>h y (by simp[b])];by_cases f:side e=v
   ·have i:(side e).toNat=v:=by omega
    rw[i,Nq aa];exact⟨λ _=>.inr ⟨x,ai,e,he,f⟩,λ _=>.inl rfl⟩
   ·have i:(side e).toNat≠v:=by omega
    rw[Ns i];refine or_congr Iff.rfl ⟨λ ⟨y,b,a,c,d⟩=>⟨y,by simp[b],a,c,d⟩,λ ⟨y,b,a,c,d⟩=>?_⟩
    rcases Nn.1 b with rfl|b
    ·rw[he] at c;simp only[Nc] at c;rw[<- c] at d;exact absurd d f
    ·exact⟨y,b,a,c,d⟩
theorem vi(g:Gr)(side:ni->Int)(n:Nat)(l:LI_)(v:Nat)(a:v<n)(b:∀ x∈l,∀ e,g.edges[x.toNat]?=some e->0<=side e):(kF g side n l)[v]?=some true↔∃ x∈l,∃ e,g.edges[x.toNat]?=some e/\side e=v:=by
 unfold kF;rw[nP g side n v a l _ ai b,Nw,if_pos a];simp
def sQ(l:LI_)(k:Nat):Int:=((-1:Int)::l)[k]?.getD (-1)
theorem mV{l:LI_}{k:Nat}{x:Int}(a:l[k]?=some x):sQ l (k+1)=x:=by
 unfold sQ;rw[Oj,a];rfl
theorem H8{l:LI_}{k:Nat}(_h:(l.take k).Pairwise (·<·))(b:k<=l.length)(c:0<=sQ l k):sQ l k∈l.take k:=by
 cases k with
 |zero=>exact absurd (show 0<=(-1:Int) from c) ab
 |succ k=>
  have a:l[k]?=some l[k]:=be b;rw[mV a,Nu,a];exact Ph _ (Ni.2 rfl)
theorem GB{g:Gr}{l:LI_}{k:Nat}(h:∀ x∈l.take k,0<=x/\x<g.edges.length)(b:k<=l.length):-1<=sQ l k:=by
 cases k with
 |zero=>exact Ox _
 |succ k=>
  have a:l[k]?=some l[k]:=be b;rw[mV a];have:=h l[k] (by rw[Nu,a];exact Ph _ (Ni.2 rfl));omega
theorem AY{l:LI_}{k:Nat}(h:(l.take k).Pairwise (·<·))(c:k<=l.length):∀ y∈l.take k,y<=sQ l k:=by
 intro y a
 cases k with
 |zero=>simp at a
 |succ k=>
  have b:l[k]?=some l[k]:=be c;rw[mV b];rw[Nu,b] at a h
  rcases Np.1 a with a|a
  ·have:=(Of.1 h).2.2 y a l[k] ai;omega
  ·have:y=l[k]:=by simpa using a
   omega
theorem Dt(g:Gr)(z:g.Right)(A:OA_)(c b o:Nat)(hA:g.edges≠[]->A=some ⟨b,o,none⟩)(l:LI_)(hl:l.length<=100000)(P:∀ x∈l,b7 x)(L:OA_)(Q bl ol:Nat)(hL:l≠[]->L=some ⟨bl,ol,none⟩):
 Fn 154 [xQ g A c,.slice L l.length Q] [] [.seg b o (fO g.edges),.seg bl ol (aj l)] λ v H'=>v=.bool (dR (d9 g l))/\H'=[]:=by
 have N:=z.left;have h2:=z.right;have h3:=z.len;obtain⟨nl,hv⟩:∃ n:Nat,g.left=n:=⟨g.left.toNat,aa⟩;obtain⟨nr,hr⟩:∃ n:Nat,g.right=n:=⟨g.right.toNat,aa⟩;have i:∀ (s:ni->Int),(∀ e∈g.edges,0<=s e)->∀ (k:Nat) x,x∈l.take k->∀ e,g.edges[x.toNat]?=some e->0<=s e:=λ s hs k x _ e he=>hs e (Nb he);refine aT Tryz.func154 λ w0=>?_;refine bu ?_;refine cY (cs:=rL g A c) λ p=>?_;refine fP ?_;refine bj (v:=xQ g A c) 0 ?_;refine cj (wA g z A c b o hA) rfl ⟨bz 1 rfl,an⟩ ?_;refine aN ?_;refine ak rfl (λ h=>absurd rfl h) (λ _=>ag ?_)
 refine iv (σ:=Nat×Nat) (λ s=>[(5,ax s.1 0 (nl+1) (nl+1)),(6,ax s.2 0 (nr+1) (nr+1)),(2,ap p 0),(1,.slice L l.length Q)])
  (λ s=>[.own (ax s.1 0 (nl+1) (nl+1)) 4 1 (nl+1) (dM (List.replicate (nl+1) false)),.own (ax s.2 0 (nr+1) (nr+1)) 4 1 (nr+1) (dM (List.replicate (nr+1) false)),blk p 178 (rL g A c),.seg b o (fO g.edges),.seg bl ol (aj l)]) ?_ ?_
 ·refine ly (Sf:=[blk p 178 (rL g A c),.seg b o (fO g.edges),.seg bl ol (aj l)])<|jU [0,1,2,4,5,6] bG [0,1,2] ab rfl<|iH ?_;refine iH ?_;refine a9 ?_;refine cM<|mF 16 (v':=af ((nl+1:Nat):Int)) rfl (Na (Value.int .i64) ((cp (n:=g.left+1) aa).trans aa))<|mF 20 (v':=af ((nr+1:Nat):Int)) rfl (Na (Value.int .i64) ((cp (n:=g.right+1) aa).trans aa))<|?_
  (repeat' (first|exact an|refine av 3 [7] bG ab ?_|refine av 7 [8] bG ab ?_|refine av 3 [9] bG ab ?_|refine av 8 [9] bG ab ?_|refine av 3 [] bG ab ?_|refine av 7 [] bG ab ?_|refine av 8 [] bG ab ?_|refine av 9 [] bG ab ?_|refine⟨⟨_,rfl,?_⟩,?_⟩|refine cX (n:=nl+1) (c:=nl+1) rfl rfl rfl rfl rfl rfl aa aa aa aK λ go=>?_|refine cX (n:=nr+1) (c:=nr+1) rfl rfl rfl rfl rfl rfl aa aa aa aK λ go=>?_|refine b6 [1,2,3] ?_|refine b6 [2,3,4] ?_|refine db [] rfl ⟨⟨[1,2,3],ab,rfl⟩,?_⟩|refine db [] rfl ⟨⟨[2,3,4],ab,rfl⟩,?_⟩|refine fd bG ⟨(_,_),a7,?_⟩))
  all_goals rw[show made [Value.bool false] ((nl+1)*1)=dM (List.replicate (nl+1) false) by rw[c8,NT];simp[dM],show made [Value.bool false] ((nr+1)*1)=dM (List.replicate (nr+1) false) by rw[c8,NT];simp[dM]]
  all_goals (first|exact ay.picks [0,1,2,3,4] ab rfl|exact ay.picks [1,0,2,3,4] ab rfl)
 ·rintro⟨p5,p6⟩;have R:∀ k,∀ x∈l.take k,∀ e,g.edges[x.toNat]?=some e→0≤e.l:=i (·.l) fun e he=>by have:=(z.edge e he).1;omega
  have S:∀ k,∀ x∈l.take k,∀ e,g.edges[x.toNat]?=some e->0<=e.r:=i (·.r) λ e he=>by have:=(z.edge e he).2;omega
  refine c9 ?_;refine iZ ?_
  refine bP (σ:=Nat) (λ k=>[(24,af k),(23,af l.length),(22,.slice L l.length Q),(7,af (sQ l k)),(5,ax p5 0 (nl+1) (nl+1)),(6,ax p6 0 (nr+1) (nr+1)),(2,ap p 0)])
   (λ k=>[.own (ax p5 0 (nl+1) (nl+1)) 4 1 (nl+1) (dM (kF g (·.l) (nl+1) (l.take k))),.own (ax p6 0 (nr+1) (nr+1)) 4 1 (nr+1) (dM (kF g (·.r) (nr+1) (l.take k))),blk p 178 (rL g A c),.seg b o (fO g.edges),.seg bl ol (aj l)])
   (λ k=>k<=l.length/\d9 g (l.take k)) (λ k=>l.length-k) 0 [0,1,2,3,4] a7 ab rfl ⟨Nl _,⟨ai,ai,ai⟩⟩ ?_
  rintro k ⟨U,hM⟩;refine ao ?_;refine am (ak rfl (λ hlt=>ag ?_) (λ hb=>aO ?_))
  ·have hlt:k<l.length:=by omega
   obtain rfl:=hL (by intro V;rw[V] at hlt;simp at hlt);obtain⟨x,O⟩:∃ x,l[k]?=some x:=⟨l[k],be hlt⟩;have hz:=P x (Nb O);have B:l.take (k+1)=l.take k++[x]:=by rw[Nu,O];rfl
   have f:d9 g l->d9 g (l.take k++[x]):=λ h=>by rw[<- B];exact d9.pre (m:=l.drop (k+1)) (by rw[Oa];exact h)
   refine am (aq ?_);refine iz ?_;refine aF (aZ 4 rfl rfl (bI O)) ?_;refine dQ ?_;by_cases hle:x<=sQ l k
   ·refine dt 31 rfl hle<|cW [3] ?_;refine eu ?_;refine aM [] ⟨_,rfl,?_,rfl⟩;refine (Na Value.bool (aU λ h=>?_)).symm;have h5:=f h;have h6:=(h5.rng x ai).1;have h7:=H8 hM.rise U aa;have:=(Of.1 h5.rise).2.2 _ h7 x ai;omega
   refine dc 31 rfl hle<|ek ?_
   (first|refine ae [3] (ad 0 rfl) rfl ?_|refine ae [3] (ad 1 rfl) rfl ?_|refine ae [3] (ad 2 rfl) rfl ?_|refine ae [3] (ad 3 rfl) rfl ?_|refine ae [3] (ad 4 rfl) rfl ?_|refine ae [3] (ad 5 rfl) rfl ?_|refine ae [3] (ad 6 rfl) rfl ?_|refine ae [3] (ad 7 rfl) rfl ?_)
   refine ek ?_;refine ah<|ak rfl (λ hR=>?_) (λ hq=>ag ?_)
   ·refine ao ?_;refine aM [] ⟨_,rfl,?_,rfl⟩;refine (Na Value.bool (aU λ h=>?_)).symm;have:=((f h).rng x ai).2;omega
   have hf:0<=x:=by have:=GB hM.rng U;omega
   obtain⟨m,hm⟩:∃ m:Nat,x=m:=⟨x.toNat,aa⟩;subst hm;have j:m<g.edges.length:=aa;obtain⟨e,he⟩:∃ e,g.edges[m]?=some e:=⟨g.edges[m],be j⟩;have hn:=z.edge e (Nb he);have C:g.edges[((m:Nat):Int).toNat]?=some e:=by rw[NA];exact he
   obtain⟨D,I⟩:∃ n:Nat,e.l=n:=⟨e.l.toNat,aa⟩;obtain⟨E,u⟩:∃ n:Nat,e.r=n:=⟨e.r.toNat,aa⟩;have q:D<nl+1:=aa;have t:E<nr+1:=aa;have d:=d9.snoc (l:=l.take k) C;have X:∃ bl,(kF g (·.l) (nl+1) (l.take k))[D]?=some bl:=⟨_,be (by rw[ju];exact q)⟩;have Y:∃ br,(kF g (·.r) (nr+1) (l.take k))[E]?=some br:=⟨_,be (by rw[ju];exact t)⟩;obtain⟨bL,F⟩:=X;obtain⟨bR,H⟩:=Y;have K:=vi g (·.l) (nl+1) (l.take k) D q (R k);have M:=vi g (·.r) (nr+1) (l.take k) E t (S k);obtain rfl:=hA (by intro V;rw[V] at j;simp at j);refine aI ?_
   (first|refine ae [] (ad 0 rfl) rfl ?_|refine ae [] (ad 1 rfl) rfl ?_|refine ae [] (ad 2 rfl) rfl ?_|refine ae [] (ad 3 rfl) rfl ?_|refine ae [] (ad 4 rfl) rfl ?_|refine ae [] (ad 5 rfl) rfl ?_|refine ae [] (ad 6 rfl) rfl ?_|refine ae [] (ad 7 rfl) rfl ?_)
   refine az ?_;refine aF (jc rfl j) ?_;refine aF (aZ 3 rfl rfl (kl he)) ?_;refine dD λ p4=>?_;refine mx ?_;refine aI ?_
   (first|refine ae [] (ad 0 rfl) rfl ?_|refine ae [] (ad 1 rfl) rfl ?_|refine ae [] (ad 2 rfl) rfl ?_|refine ae [] (ad 3 rfl) rfl ?_|refine ae [] (ad 4 rfl) rfl ?_|refine ae [] (ad 5 rfl) rfl ?_|refine ae [] (ad 6 rfl) rfl ?_|refine ae [] (ad 7 rfl) rfl ?_)
   refine aA 45 (v':=af (D:Int)) rfl (Na (Value.int .i64) I)<|aF (bn rfl q) ?_;refine aF (aw 1 rfl rfl rfl (show (dM _)[D]?=some (.bool bL) from iD F)) ?_;refine az ?_
   cases bL with
   |true=>
    refine cW [5] ?_;refine eu ?_;refine aM [] ⟨_,rfl,?_,rfl⟩;refine (Na Value.bool (aU λ h=>?_)).symm;obtain⟨y,w,a,N,h2⟩:=K.1 F;exact ((d.1 (f h)).2.2.2.2 y w a N).1 aa
   |false=>
   refine bp [5] ?_
   (first|refine ae [5] (ad 0 rfl) rfl ?_|refine ae [5] (ad 1 rfl) rfl ?_|refine ae [5] (ad 2 rfl) rfl ?_|refine ae [5] (ad 3 rfl) rfl ?_|refine ae [5] (ad 4 rfl) rfl ?_|refine ae [5] (ad 5 rfl) rfl ?_|refine ae [5] (ad 6 rfl) rfl ?_|refine ae [5] (ad 7 rfl) rfl ?_)
   refine aA 51 (v':=af (E:Int)) rfl (Na (Value.int .i64) u)<|ae [5] (bn rfl t) rfl<|ae [5] (aw 2 rfl rfl rfl (show (dM _)[E]?=some (.bool bR) from iD H)) rfl<|cW [5] ?_
   cases bR with
   |true=>
    refine eu ?_;refine aM [] ⟨_,rfl,?_,rfl⟩;refine (Na Value.bool (aU λ h=>?_)).symm;obtain⟨y,w,a,N,h2⟩:=M.1 H;exact ((d.1 (f h)).2.2.2.2 y w a N).2 aa
   |false=>
   refine bo rfl (ag ?_);refine cq ?_
   have Z:d9 g (l.take (k+1)):=by
    rw[B,d];refine⟨hM,λ y w=>?_,aa,aa,λ y w a ha=>⟨λ h=>?_,λ h=>?_⟩⟩
    ·have:=AY hM.rise U y w;omega
    ·have:=K.2 ⟨y,w,a,ha,by show a.l=_;omega⟩;rw[F] at this;cases this
    ·have:=M.2 ⟨y,w,a,ha,by show a.r=_;omega⟩;rw[H] at this;cases this
   refine bM 12 (dT [0,1,2,3,4,5,6,7]++[(8,false)]++dT [9]++[(10,false)]++dT [11]) [0,3,4,5] aX ab rfl<|iH ?_;refine iH ?_;refine dK 57 (v':=af (D:Int)) rfl (Na (Value.int .i64) I)<|dK 60 (v':=af (E:Int)) rfl (Na (Value.int .i64) u)<|a9 ?_;refine bh rfl (bn rfl q) ?_;refine cz ?_;refine aW 1 rfl rfl rfl rfl (ko rfl (by rw[ju];omega)) [] rfl<|b6 [0,3,4,5]<|bh rfl (bn rfl t) ?_;refine cz ?_;refine aW 2 rfl rfl rfl rfl (ko rfl (by rw[ju];omega)) [] rfl<|b6 [0,3,4,5]<|a9 ?_;refine cM<|cR ?_;refine⟨k+1,[1,2,3,4,5],⟨?_,rfl,rfl,?_,rfl,rfl,rfl,an⟩,ab,?_,⟨aa,Z⟩,aa⟩
   ·refine fy ?_;rw[cp aa];rfl
   ·show some (af _)=_;rw[mV O]
   ·rw[B,uR g (·.l) _ _ _ C,uR g (·.r) _ _ _ C,show e.l.toNat=D by omega,show e.r.toNat=E by omega];rfl
  ·refine ao ?_;obtain rfl:k=l.length:=aa;rw[NH] at hM;refine aM [] ⟨_,rfl,?_,rfl⟩;exact (Na Value.bool (aQ hM)).symm
end Go.Proofs.YtmcnpaelaieniaaGreatDoor
