import Derived.Test.YtmcnpaelaieniaaGreatDoorQX128
/- A part of the proof. -/
set_option linter.unusedVariables false
set_option linter.unusedSimpArgs false
set_option maxHeartbeats 8000000
namespace Go.Proofs.YtmcnpaelaieniaaGreatDoor
open Go.RowKit
def HW(q:aR×Nat×Int)(v:Value)(H':Heap):Prop:=∃ (A:OA_) (c:Nat),v=.tuple #[cd q.1 A c,.int .i64 q.2.1,.int .i64 q.2.2]/\H'=[.own (.slice A q.1.arcs.length c) 37 3 q.1.arcs.length (arcs q.1.arcs)]
theorem kl:∀ (l cur:LU_),∀ x∈cZ cur l,x.length<=cur.length+l.length
 |[],cur,x,a=>by
  unfold cZ at a;split at a
  ·cases a
  ·obtain rfl:=Nh.1 a;simp
 |b::l,cur,x,a=>by
  unfold cZ at a;rw[Nf];split at a
  ·split at a
   ·have:=kl l [] x a;simp at this;omega
   ·rcases Nl.1 a with rfl|a
    ·omega
    ·have:=kl l [] x a;simp at this;omega
  ·have:=kl l _ x a;simp at this;omega
theorem my(l:LU_):∀ x∈bI l,x.length<=l.length:=λ x a=>by
 have:=kl l [] x a
 simpa using this
theorem mE(c:UInt8):∀ (l cur:LU_),∀ x∈cM c cur l,x.length<=cur.length+l.length
 |[],cur,x,a=>by
  obtain rfl:=Nh.1 a;simp
 |b::l,cur,x,a=>by
  unfold cM at a;rw[Nf];split at a
  ·rcases Nl.1 a with rfl|a
   ·omega
   ·have:=mE c l [] x a;simp at this;omega
  ·have:=mE c l _ x a;simp at this;omega
theorem Ad(l:LU_):∀ x∈aK l,x.length<=l.length:=λ x a=>by
 unfold aK at a;split at a
 ·cases a
 ·have b:=mE 10 _ [] x a
  have c:(Lib.trimSuffix l [10]).length<=l.length:=by
   unfold Lib.trimSuffix;split<;>simp
  simp at b;omega
theorem uB(V:LibV)(l:LU_)(hl:l.length<=9999999):Fn 19 [du l] [] V.heap (HW (cR l)):=by
 have L:=vj l;refine ie Tryz.func19 rfl rfl λ w0=>bA ?_;refine dM λ f=>?_;refine fR ?_;refine aG (v:=.agg (Lt tg none 0).toArray) (eF rfl rfl rfl rfl rfl rfl) ?_;refine dh (cs:=Lt tg none 0) λ p=>?_;refine l5 37 3<|ew ?_;refine fh (lZ V l aa) rfl ⟨⟨3,ai,rfl⟩,⟨4,ai,rfl⟩,⟨5,ai,rfl⟩,be⟩ ?_;rintro v H' ⟨w,n,z,rfl,rfl⟩;subst z;refine cS ?_;refine au ?_
 refine bS (σ:=Nat×Rd×OA_×Nat) (λ s=>[(17,af s.1),(16,af (aK l).length),(15,.slice w (aK l).length (aK l).length),(6,.slice w (aK l).length (aK l).length),(5,ap p 0),(2,ap f 0)])
  (λ s=>rF p s.2.2.1 s.2.2.2 s.2.1++[blk f 33 (bY vB none 0),.own (.slice w (aK l).length (aK l).length) 9 1 (aK l).length (cj (aK l))]++V.heap)
  (λ s=>s.1<=(aK l).length/\s.2.1.OK/\fk tg 0 (aK l)=fk s.2.1 s.1 ((aK l).drop s.1)) (λ s=>(aK l).length-s.1) (0,tg,none,0) [2,1,3,0,4,5,6] a8 ab rfl ⟨Nk _,F8,rfl⟩ ?_
 rintro⟨k,r,A,c⟩ ⟨M,ok,j⟩;simp only at M ok j ⊢;refine ao ?_;refine am (ak rfl (λ N=>ag ?_) (λ O=>aO ?_))
 ·have a:k<(aK l).length:=by omega
  obtain⟨x,C⟩:∃ x,(aK l)[k]?=some x:=⟨(aK l)[k],an a⟩;have P:=Ad l x (M9 C);refine aP (aH 3 rfl) (λ Q=>?_);obtain⟨gl,rfl⟩:=Q.2.2.1 aa
  have b:fk tg 0 (aK l)=if (r.line (bI x)).2≠0 then (r,k+1,(r.line (bI x)).2) else fk (r.line (bI x)).1 (k+1) ((aK l).drop (k+1)):=by
   rw[j,N7 a]
   have:(aK l)[k]=x:=by
    have:=an a;rw[C] at this;exact (NM this).symm
   rw[this];rfl
  refine am (au ?_);refine aI ?_;refine aG (bG rfl a) ?_;refine aG (aA 3 rfl rfl rfl (eY C)) ?_;refine ew ?_;refine dB (zG x aa) rfl be ?_;rintro v H' ⟨B,n,z,rfl,rfl⟩;subst z;refine dE ?_;refine fj (aH 0 rfl) (λ hw=>?_)
  obtain⟨o,D⟩:∃ o,bI x≠[]->B=aJ o 0:=by
   by_cases h:bI x=[]
   ·exact⟨0,λ k=>absurd h k⟩
   ·obtain⟨g,e⟩:=hw.2.2.1 (NP.2 h);exact⟨g,λ _=>e⟩
  have q:cj (bI x)≠[]->B=aJ o 0:=λ h=>D (by rintro e;rw[e] at h;exact h rfl);have R:=kJ x;have E:=my x;refine cH (La (bI x) aa B o 0 D) rfl ⟨gy 0 rfl q,be⟩ ?_;refine dM λ Y=>?_;refine dz 0 ?_;refine ew ?_;refine aG (bz (i:=1) 0 rfl rfl rfl rfl) ?_;refine az ?_;refine aG (bz (i:=0) 0 rfl rfl rfl rfl) ?_
  refine bJ (fst:=[]) (cap:=[]) [] (Ja V (bI x) (fun y S=>by have:=E y S;omega) aa B o 0 D p r ok A c) rfl rfl rfl rfl (HT _) (K:=[.own (.slice B (bI x).length (bI x).length) 9 1 (bI x).length (cj (bI x)),blk f 33 (bY vB none 0),.own (ax gl 0 (aK l).length (aK l).length) 9 1 (aK l).length (cj (aK l))]++V.heap) (aw.picks [2,3,1,4,5,6,7,8] ab rfl)
   ⟨gy 0 rfl q,⟨3,ai,rfl⟩,⟨4,ai,rfl⟩,⟨5,ai,rfl⟩,be⟩ aE ?_
  rintro v H' ⟨rfl,U,X,rfl⟩;refine fO ?_;refine ak rfl (λ he=>?_) (λ he=>ag ?_)
  ·rw[if_pos he] at b;refine aI ?_;refine aG (v:=cd vB none 0) (eF rfl rfl rfl rfl rfl rfl) ?_;refine az ?_;refine dz 3 ?_;refine az ?_;refine l5 37 3<|fw ?_;refine bM ⟨[_,_,_],[0],_,⟨⟨f,4,_,_,rfl,rfl,rfl⟩,rfl,rfl,be⟩,ab,rfl,?_⟩;unfold HW cR;rw[b,if_pos he];refine⟨none,0,?_,rfl⟩;rw[cv aa];rfl
  ·rw[if_neg he] at b;refine ao ?_;refine⟨(k+1,(r.line (bI x)).1,U,X),[0,1,3,4,5,6,7],⟨?_,rfl,rfl,rfl,rfl,rfl,be⟩,ab,rfl,⟨by simp only;omega,ok.line _,b⟩,by simp only;omega⟩;refine fJ ?_;rw[cv aa];rfl
 have F:k=(aK l).length:=aa;subst F;rw[List.drop_length] at j;have m:fk tg 0 (aK l)=(r,0,0):=j;have hlen:=ok.len
 have d:(r.most=-1\/r.src=0\/r.snk=0)->cR l=(vB,(aK l).length+1,2):=λ h=>by
  unfold cR;rw[m,if_neg ai,if_pos h]
 refine am (au ?_);refine nB ?_;refine aG (bz (i:=4) (v:=af r.most) 0 rfl rfl rfl rfl) ?_;refine az ?_;by_cases t:r.most=-1
 ·refine d7 44 rfl t<|bX [5] ?_;refine aB 52 (v':=.bool true) rfl rfl<|cX [5,13] ?_;refine dy ?_;refine CV ?_;refine bM ⟨[_,_,_],[0],_,⟨⟨f,3,_,_,rfl,rfl,rfl⟩,rfl,rfl,be⟩,ab,rfl,?_⟩;rw[d (.inl t)];refine⟨none,0,?_,rfl⟩;rw[cv aa];rfl
 refine dD 44 rfl t<|bX [5] ?_;refine ae [5] (bz (i:=1) (v:=af r.src) 0 rfl rfl rfl rfl) rfl<|bX [5] ?_;by_cases u:r.src=0
 ·refine d7 52 rfl u<|cX [5,13] ?_;refine dy ?_;refine CV ?_;refine bM ⟨[_,_,_],[0],_,⟨⟨f,3,_,_,rfl,rfl,rfl⟩,rfl,rfl,be⟩,ab,rfl,?_⟩;rw[d (.inr (.inl u))];refine⟨none,0,?_,rfl⟩;rw[cv aa];rfl
 refine dD 52 rfl u<|bX [5,13] ?_;refine ae [5,13] (bz (i:=2) (v:=af r.snk) 0 rfl rfl rfl rfl) rfl<|cX [5,13] ?_;refine ak rfl (λ H=>?_) (λ H=>?_)
 ·refine CV ?_;refine bM ⟨[_,_,_],[0],_,⟨⟨f,3,_,_,rfl,rfl,rfl⟩,rfl,rfl,be⟩,ab,rfl,?_⟩;rw[d (.inr (.inr H))];refine⟨none,0,?_,rfl⟩;rw[cv aa];rfl
 refine cA ?_;refine bK 12 (dS [0,1,2,3,4,5,6,7,8,9,10,11]) [0] aW ab rfl<|Ht ?_
 have fold:cR l=if (r.arcs.length:Int)<r.most then (vB,(aK l).length+1,6) else (⟨r.nodes,r.src,r.snk,r.arcs⟩,0,0):=by
  unfold cR;rw[m,if_neg ai,if_neg (by rintro (k|k|k);exact t k;exact u k;exact H k)]
 refine ak rfl (λ I=>?_) (λ I=>ag ?_)
 ·refine CV ?_;refine bM ⟨[_,_,_],[0],_,⟨⟨f,3,_,_,rfl,rfl,rfl⟩,rfl,rfl,be⟩,ab,rfl,?_⟩;rw[fold.trans (if_pos I)];refine⟨none,0,?_,rfl⟩;rw[cv aa];rfl
 rw[if_neg I] at fold;refine aI ?_;refine aG (v:=cd ⟨r.nodes,r.src,r.snk,r.arcs⟩ A c) (bz (i:=0) 0 rfl rfl rfl rfl) ?_;refine lJ ?_;refine iH ?_;refine bM ⟨[_,_,_],[1],_,⟨⟨f,2,_,_,rfl,rfl,rfl⟩,rfl,rfl,be⟩,ab,rfl,?_⟩;rw[fold];exact⟨A,c,rfl,rfl⟩
open Lib
def gG(f:LU_)(l:LI_):LU_:=join (f::l.map itoa) [32]
theorem wj(x:LU_)(xs:List (LU_))(sep:LU_):join (x::xs) sep=x++(xs.map λ y=>sep++y).flatten:=by
 unfold join
 induction xs generalizing x with
 |nil=>simp[List.intercalate]
 |cons y r a=>
  have:=a y;simp only[List.intercalate] at this ⊢;rw[List.intersperse_cons_cons];simp only[Oy,Ns];rw[this];simp
theorem sj(f:LU_)(l:LI_):gG f l=f++(l.map λ n=>32::itoa n).flatten:=by
 unfold gG;rw[wj,OD];rfl
theorem fi(f:LU_)(l:LI_)(hl:∀ n∈l,b9 n):(gG f l).length<=f.length+l.length*21:=by
 rw[sj,Ng]
 have:((l.map λ n=>32::itoa n).flatten).length<=l.length*21:=by
  induction l with
  |nil=>simp
  |cons n r a=>
   have b:=hl n ai;unfold b9 at b;have d:=(FP n aa).2;have e:=a λ x c=>hl x (by simp[c]);simp only[Ns,Oy,Ng,Nf];omega
 omega
theorem kp(V:LibV)(f:LU_)(z:f.length<=100)(l:LI_)(hl:∀ n∈l,b9 n)(j:l.length<=100)(B:OA_)(n i b d:Nat)(o:l≠[]->B=some ⟨b,d,none⟩)(q:n=l.length):
 Fn 54 [du f,.slice B n i] [] ([.seg b d (aj l)]++V.heap) λ v H'=>v=du (gG f l)/\H'=[]:=by
 subst q;have r:=fi f l hl;refine aT Tryz.func54 λ w0=>?_;refine cW ?_;refine dp λ g0=>?_;refine ji ?_;refine cS ?_;refine au ?_
 refine bS (σ:=Nat×OA_×Nat) (λ s=>[(12,af s.1),(11,af l.length),(10,.slice B l.length i),(5,.slice s.2.1 (f::(l.take s.1).map itoa).length s.2.2)])
  (λ s=>[.own (.slice s.2.1 (f::(l.take s.1).map itoa).length s.2.2) 9 1 (f::(l.take s.1).map itoa).length (cj (f::(l.take s.1).map itoa)),.seg b d (aj l)]++V.heap)
  (λ s=>s.1<=l.length) (λ s=>l.length-s.1) (0,aJ g0 0,1) [0,1,2,3,4] a8 ab rfl (Nk _) ?_
 rintro⟨k,A,c⟩ t;simp only at t ⊢;refine ao ?_;refine am (ak rfl (λ u=>ag ?_) (λ w=>aO ?_))
 ·have hlt':k<l.length:=by omega
  obtain⟨x,e⟩:∃ x,l[k]?=some x:=⟨l[k],an hlt'⟩;obtain rfl:=o (by rintro rfl;simp at hlt');have hxB:=hl x (M9 e);have hlen:(f::(l.take k).map itoa).length=k+1:=by rw[Nf,Nj,ND];omega
  refine am (au ?_);refine wo ?_;refine aG (a7 1 rfl rfl (bq e)) ?_;refine Aq ?_;refine dp λ g2=>?_;refine bp (n:=(f::(l.take k).map itoa).length) (m:=1) (off:=0) (news:=cj [itoa x]) 1 0 rfl rfl rfl rfl rfl rfl ab rfl rfl (aQ g2 _ _ (0,0)) aE rfl rfl aa aa (λ _ _=>rfl) λ y c2=>cS ?_;have a:f::(l.take (k+1)).map itoa=(f::(l.take k).map itoa)++[itoa x]:=by rw[Nv,e];simp
  refine⟨(k+1,y,c2),[1,2,3,4,5],⟨?_,rfl,rfl,?_,be⟩,ab,?_,by simp only;omega,by simp only;omega⟩
  ·refine fJ ?_;rw[cv aa];rfl
  ·simp only[a];rw[Ng];rfl
  ·simp only[a];rw[Ng,show cj ((f::(l.take k).map itoa)++[itoa x])=cj (f::(l.take k).map itoa)++cj [itoa x] by simp[cj]];rfl
 obtain rfl:k=l.length:=aa;refine aP (aH 0 rfl) (λ ho=>?_);obtain⟨g,rfl⟩:=ho.2.2.1 ai;rw[NH] at*;exact HQ
theorem Hj(N:aR)(j:N.Fits)(a:N.Right)(A:OA_)(c b o:Nat)(k:N.arcs≠[]->A=some ⟨b,o,none⟩)(f:LI_)(d:aD N f)(F:OA_)(cf e of:Nat)(l:f≠[]->F=some ⟨e,of,none⟩)
 (s:LI_) (m:fQ N s) (g:s.length<=100000) (S:OA_) (cs i os:Nat) (n:s≠[]->S=some ⟨i,os,none⟩):
 Fn 129 [cd N A c,.slice F f.length cf,.slice S s.length cs] [] [.seg b o (arcs N.arcs),.seg e of (aj f),.seg i os (aj s)] λ v H'=>v=.int .i64 (if dJ (N.arcs.zip f) N.snk=jq s N.arcs then 0 else 8)/\H'=[]:=by
 have q:=a.len;have r:=d.len;refine aT Tryz.func129 λ w0=>?_;refine bA ?_;refine dh (cs:=bY N A c) λ p=>?_;refine ip ?_;refine dB (f8 N j a A c b o k f F cf e of l (aD.inB a d.toRanged) aa) rfl ⟨bx 1 rfl,bx 2 rfl,be⟩ ?_;rintro v H' ⟨⟨rfl,_⟩|⟨_,h⟩,rfl⟩
 case inr=>exact absurd d h
 refine fO ?_;refine ak rfl (λ h=>absurd rfl h) (λ _=>ag ?_);refine rX ?_;refine cH (sL N j a A c b o k s m g S cs i os n) rfl ⟨bx 1 rfl,bx 3 rfl,be⟩ ?_;refine ik ?_;refine ao ?_;refine ak rfl (λ h=>absurd rfl h) (λ _=>?_);refine ao ?_;refine ak rfl (λ h=>?_) (λ h=>ag ?_)
 ·refine ao ?_;refine aL [] ⟨_,rfl,M8 (Value.int .i64) (if_neg h).symm,rfl⟩
 ·refine ao ?_;refine aL [] ⟨_,rfl,M8 (Value.int .i64) (if_pos (Nn.1 h)).symm,rfl⟩
theorem JK(r:Nat):r^^^1=cF r:=by
 have d:=Nat.xor_div_two (a:=r) (b:=1)
 have c:(r^^^1)%2=(r+1)%2:=by
  have h:=Nat.xor_mod_two_eq_one (a:=r) (b:=1);by_cases c:r%2=1
  ·have:¬ (r^^^1)%2=1:=by rw[h];simp[c]
   omega
  ·have:(r^^^1)%2=1:=by rw[h];simp[c]
   omega
 have e:r/2^^^1/2=r/2:=by show r/2^^^0=_;exact Nat.xor_zero _
 unfold cF;split<;>omega
theorem I8{r:Nat}(h:r<4611686018427387904):IntKind.i64.wrap ((BitVec.ofInt IntKind.i64.bits (r:Int)^^^BitVec.ofInt IntKind.i64.bits 1).toNat:Int)=((cF r:Nat):Int):=by
 have e:(BitVec.ofInt IntKind.i64.bits (r:Int)^^^BitVec.ofInt IntKind.i64.bits 1).toNat=r^^^1:=by
  rw[BitVec.toNat_xor,BitVec.toNat_ofInt,BitVec.toNat_ofInt];have a:((1:Int)%((2^IntKind.i64.bits:Nat):Int)).toNat=1:=ab;have b:((2^IntKind.i64.bits:Nat):Int)=18446744073709551616:=ab;rw[a,b]
  congr 1
  omega
 rw[e,JK,cv (by unfold cF;split<;>omega)]
theorem GW(N:aR)(A:OA_)(c e f:Nat)(Ar:OA_)(cr gr:Nat)(least:Int)(gl n:Nat)(Aw:OA_)(nw cw:Nat)(rm:LI_)(g:rm.length=2*N.arcs.length)(b:rm≠[]->Ar=some ⟨gr,0,none⟩)(r:Nat)(j:r<2*N.arcs.length):
 Fn 230 [.int .i64 r,.pointer (some ⟨f,0,none⟩)] [] [.seg f 0 [.pointer (some ⟨e,0,none⟩)],.seg e 0 (xr N A c Ar cr least gl n Aw nw cw),.seg gr 0 (aj rm)] λ v H'=>v=.bool (dU (rm.getD r 0<least))/\H'=[]:=by
 obtain⟨x,a⟩:∃ x,rm[r]?=some x:=⟨rm[r]'aa,an aa⟩;have d:rm.getD r 0=x:=by rw[Nc,a];rfl
 obtain rfl:=b (by intro k;rw[k] at a;simp at a);rw[d];refine aT Tryz.func230 λ w0=>?_;refine iN ?_;refine bK 13 (dS [0,1,2,3,4,5,6,7,8,9,10,11,12]) [0,1,2] aW ab rfl<|bc rfl (a7 (i:=0) 0 rfl rfl rfl) ?_;refine a6 ?_;refine bc rfl (a7 (i:=4) (v:=ax gr 0 (2*N.arcs.length) cr) 1 rfl rfl rfl) ?_;refine a6 ?_;refine bc rfl (bG rfl j) ?_;refine bc rfl (fA (i:=r) 2 rfl rfl rfl (NO _).symm (b7 a)) ?_;refine bc rfl (a7 (i:=0) 0 rfl rfl rfl) ?_;refine a6 ?_;refine bc rfl (a7 (i:=5) (v:=af least) 1 rfl rfl rfl) ?_;refine lh ?_;exact nE
theorem Ik(N:aR)(A:OA_)(c g d:Nat)(Ar:OA_)(cr gr:Nat)(least:Int)(gl n:Nat)(Aw:OA_)(cw p:Nat)(rm:LI_)(s:rm.length=2*N.arcs.length)(t:rm≠[]->Ar=some ⟨gr,0,none⟩)
 (W:LN_) (x:∀ r∈W,r<2*N.arcs.length) (y:W.length<=1000) (u:W≠[]->Aw=some ⟨p,0,none⟩) (hex:∃ r∈W,rm.getD r 0<least):
 Fn 229 [.slice Aw W.length cw,.func (.func 230) #[] #[.pointer (some ⟨d,0,none⟩)]] [] [.seg d 0 [.pointer (some ⟨g,0,none⟩)],.seg g 0 (xr N A c Ar cr least gl n Aw W.length cw),.seg gr 0 (aj rm),.seg p 0 (cJ W)]
  λ v H'=>v=.int .i64 (rC least rm W:Nat)/\H'=[]:=by
 refine aT Tryz.func229 λ w0=>?_;refine mI ?_
 refine bS (σ:=Nat) (λ k=>[(8,af k),(7,af W.length),(1,.func (.func 230) #[] #[ap d 0]),(0,.slice Aw W.length cw)])
  (λ _=>[.seg d 0 [ap g 0],.seg g 0 (xr N A c Ar cr least gl n Aw W.length cw),.seg gr 0 (aj rm),.seg p 0 (cJ W)]) (λ k=>k<=W.length/\∀ j r,j<k->W[j]?=some r->¬ rm.getD r 0<least) (λ k=>W.length-k)
  0 [0,1,2,3] a8 ab rfl ⟨Nk _,λ j r h=>by omega⟩ ?_
 rintro k ⟨B,a⟩;refine ao ?_;refine am (ak rfl (λ b=>ag ?_) (λ z=>aO ?_))
 ·have b:k<W.length:=by omega
  obtain⟨r,f⟩:∃ r,W[k]?=some r:=⟨W[k],an b⟩;obtain rfl:=u (by rintro rfl;simp at b);refine am (au ?_);refine cW ?_;refine aG (bG rfl b) ?_;refine aG (fA (i:=k) 3 rfl rfl rfl (NO _).symm (eE f)) ?_;refine cH (fst:=[]) (cap:=[ap d 0]) (GW N A c g d Ar cr gr least gl n _ W.length cw rm s t r (x r (M9 f))) rfl ⟨bx 0 rfl,bx 1 rfl,bx 2 rfl,be⟩ ?_;refine ah<|ak rfl (λ l=>?_) (λ l=>ag ?_)
  ·refine ao ?_;refine aL [] ⟨_,rfl,M8 (Value.int .i64) ?_,rfl⟩
   have:rC least rm W=k:=by
    unfold rC;refine (List.findIdx_eq b).2 ⟨by rw[(Nb.1 f).2];exact OU l,λ j m=>?_⟩;have:=a j (W[j]'aa) m (an aa)
    simpa using this
   rw[this]
  ·refine ao ?_;refine⟨k+1,[0,1,2,3],⟨?_,rfl,rfl,rfl,be⟩,ab,rfl,⟨aa,λ j q m o=>?_⟩,aa⟩
   ·refine fJ ?_;rw[cv aa];rfl
   ·by_cases e:j=k
    ·subst e;rw[f] at o;simp only[Na] at o;rw[<- o];exact l
    ·exact a j q aa o
 ·exfalso;obtain⟨r,f,l⟩:=hex;obtain⟨j,m,w⟩:=NT.1 f;exact a j r aa (by rw[an m,w]) l
def Dh(least:Int)(N:aR)(A:OA_)(c:Nat)(gr cr pw gl n:Nat)(rm:LI_)(W:LN_)(v:Value)(H':Heap):Prop:=
 ∃ (Aw:OA_) (cw:Nat) (At:OA_) (ct:Nat),v=.agg #[.slice At W.length ct,.int .i64 (dx rm W)]/\
   H'=[blk pw 303 (xr N A c (some ⟨gr,0,none⟩) cr least gl n Aw (rC least (df (dx rm W) W rm) W) cw),.own (.slice (some ⟨gr,0,none⟩) (2*N.arcs.length) cr) 2 1 (2*N.arcs.length) (aj (df (dx rm W) W rm)),
    .own (.slice Aw (rC least (df (dx rm W) W rm) W) cw) 3 1 (rC least (df (dx rm W) W rm) W) (cJ (W.take (rC least (df (dx rm W) W rm) W)))]
theorem AO(rm:LI_)(W:LN_)(x:Int)(k r:Nat)(a:W[k]?=some r):(W.take (k+1)).foldl (λ m q=>if rm.getD q 0<m then rm.getD q 0 else m) x=if rm.getD r 0<(W.take k).foldl (λ m q=>if rm.getD q 0<m then rm.getD q 0 else m) x then rm.getD r 0 else (W.take k).foldl (λ m q=>if rm.getD q 0<m then rm.getD q 0 else m) x:=by
 rw[Nv,a,O4];rfl
theorem Jx(N:aR)(hz:N.arcs.length<=2000)(A:OA_)(c:Nat)(pw gr cr:Nat)(least:Int)(hle:1<=least)(gl n:Nat)(Aw:OA_)(cw:Nat)(rm:LI_)(F:rm.length=2*N.arcs.length)(u:∀ q,0<=rm.getD q 0/\rm.getD q 0<=4611686018427387903)
 (W:LN_) (E:∀ r∈W,r<2*N.arcs.length) (hx:W.length<=1000) (H:W.Nodup) (I:∀ r∈W,∀ q∈W,cF r≠q) (K:W≠[]):
 Fn 227 [.pointer (some ⟨pw,0,none⟩)] (ay ([blk pw 303 (xr N A c (some ⟨gr,0,none⟩) cr least gl n Aw W.length cw),.own (.slice (some ⟨gr,0,none⟩) (2*N.arcs.length) cr) 2 1 (2*N.arcs.length) (aj rm),.own (.slice Aw W.length cw) 3 1 W.length (cJ W)]))
  ([]++([blk pw 303 (xr N A c (some ⟨gr,0,none⟩) cr least gl n Aw W.length cw),.own (.slice (some ⟨gr,0,none⟩) (2*N.arcs.length) cr) 2 1 (2*N.arcs.length) (aj rm),.own (.slice Aw W.length cw) 3 1 W.length (cJ W)]))
  (Dh least N A c gr cr pw gl n rm W):=by
 generalize hM:ay _=M
 have b:0<W.length:=NP.2 K;obtain⟨l,w⟩:∃ l,W[0]?=some l:=⟨W[0],an b⟩;have x:W.headD 0=l:=by rw[List.headD_eq_head?_getD,List.head?_eq_getElem?,w];rfl
 have o:∀ r∈W,rm[r]?=some (rm.getD r 0):=λ r e=>by rw[Nc,an (by have:=E r e;omega)];rfl
 have p:=M9 w;have hR:=o l p;refine ie Tryz.func227 rfl rfl λ w0=>bA ?_;refine dh (cs:=[ap pw 0]) λ L=>?_;refine dM λ O=>?_;refine aN ?_;show J _ _ _ _ [_,_,_,_,_];refine aP (aH 4 rfl) λ ⟨_,hb,P,_⟩=>?_;obtain⟨gw,rfl⟩:=P b;refine cA ?_;refine bK 13 (dS [0,1,2,3,4,5,6,7,8,9,10,11,12]) [0,1,2,3,4] aW ab rfl<|bc rfl (ad (v:=ap pw 0) 1 rfl) ?_;refine a6 ?_;refine bc rfl (ad (v:=ax gr 0 (2*N.arcs.length) cr) 2 rfl) ?_;refine bc rfl (ad (v:=ap pw 0) 1 rfl) ?_;refine a6 ?_;refine bc rfl (ad (v:=ax gw 0 W.length cw) 2 rfl) ?_;refine bc rfl (bG (m:=0) rfl b) ?_;refine bc rfl (aA (v:=af (l:Int)) 4 rfl rfl rfl (eE w)) ?_;refine bc rfl (bG rfl (E l p)) ?_;refine bc rfl (aA 3 rfl rfl rfl (b7 hR)) ?_;refine lh ?_;refine HD ?_;refine jb ?_
 refine bS (σ:=Nat) (λ k=>[(27,af k),(26,af W.length),(25,ax gw 0 W.length cw),(3,af ((W.take k).foldl (λ m q=>if rm.getD q 0<m then rm.getD q 0 else m) (rm.getD l 0))),(2,ap O 0),(1,ap L 0)])
  (λ _=>[blk O 300 [.slice none 0 0,af 0],blk L 297 [ap pw 0],blk pw 303 (xr N A c (aJ gr 0) cr least gl n (aJ gw 0) W.length cw),.own (ax gr 0 (2*N.arcs.length) cr) 2 1 (2*N.arcs.length) (aj rm),.own (ax gw 0 W.length cw) 3 1 W.length (cJ W)])
  (λ k=>k<=W.length) (λ k=>W.length-k) 0 [0,1,2,3,4] a8 ab rfl (Nk _) ?_
 intro k hk;refine ao ?_;refine am (ak rfl (λ hlt=>ag ?_) (λ h3=>aO ?_))
 ·have hlt:k<W.length:=by omega
  obtain⟨r,e⟩:∃ r,W[k]?=some r:=⟨W[k],an hlt⟩;have f:=M9 e;have y:=AO rm W (rm.getD l 0) k r e;refine am (au ?_);refine vf ?_;refine aG (aA (v:=af (r:Int)) 4 rfl rfl rfl (eE e)) ?_;refine ew ?_;refine bh (v:=ap pw 0) 1 ?_;refine az ?_;refine bh (v:=ax gr 0 (2*N.arcs.length) cr) 2 ?_;refine az ?_;refine aG (bG rfl (E r f)) ?_;refine aG (aA 3 rfl rfl rfl (b7 (o r f))) ?_;refine cS ?_;refine⟨k+1,[0,1,2,3,4],⟨?_,rfl,rfl,by rw[y];rfl,rfl,rfl,be⟩,ab,rfl,aa,aa⟩;refine fJ ?_;rw[cv aa];rfl
 obtain rfl:k=W.length:=aa;rw[NH,show W.foldl (λ m q=>if rm.getD q 0<m then rm.getD q 0 else m) (rm.getD l 0)=dx rm W by unfold dx;rw[x]];unfold Dh;obtain⟨ra,z,Q⟩:=nu (rm:=rm) K;have R:=u ra;rw[<- Q] at R;obtain⟨a,ha⟩:∃ a,a=dx rm W:=⟨_,rfl⟩;have S:∀ r∈W,a<=rm.getD r 0:=λ r e=>ha▸qC r e;rw[<- ha] at R Q ⊢
 have s:∀ k q:Nat,q<2*N.arcs.length->(df a (W.take k) rm)[q]?=some ((df a (W.take k) rm).getD q 0):=λ k q hq=>by
  rw[Nc,an (by rw[iX];omega)];rfl
 have B:∀ k q:Nat,(df a (W.take k) rm).getD q 0=rm.getD q 0+(if cF q∈W.take k then a else 0)-(if q∈W.take k then a else 0):=λ k q=>
  jp F (λ r e=>E r (Od e)) ((List.take_sublist k W).nodup H) q
 refine HD ?_;refine bj [] (oy (aJ gw 0) cw gw 0 (W.map λ (i:Nat)=>(i:Int)) aE (by rw[Nj];omega)) rfl rfl rfl (by rw[Nj];rfl) aW ⟨gC 4 rfl b8 (bO aE),be⟩ aE ?_;rintro v H' ⟨At,ct,rfl,rfl⟩;refine dE ?_;rw[Nj];refine az ?_;refine fv ?_;refine dM λ p6=>?_;refine iG ?_;refine bA ?_;refine bh (v:=ap pw 0) 3 ?_;refine az ?_;refine bh (v:=ax gw 0 W.length cw) 4 ?_;refine jb ?_
 refine bS (σ:=Nat) (λ k=>[(53,af k),(52,af W.length),(51,ax gw 0 W.length cw),(3,af a),(6,ap p6 0),(2,ap O 0),(1,ap L 0)])
  (λ k=>[blk p6 300 [.slice At W.length ct,af a],blk O 300 [.slice none 0 0,af 0],blk L 297 [ap pw 0],blk pw 303 (xr N A c (aJ gr 0) cr least gl n (aJ gw 0) W.length cw),.own (ax gr 0 (2*N.arcs.length) cr) 2 1 (2*N.arcs.length) (aj (df a (W.take k) rm)),.own (ax gw 0 W.length cw) 3 1 W.length (cJ W)])
  (λ k=>k<=W.length) (λ k=>W.length-k) 0 [0,2,3,4,5,6] a8 ab rfl (Nk _) ?_
 intro k hk;refine ao ?_;refine am (ak rfl (λ hlt=>ag ?_) (λ h3=>aO ?_))
 ·have hlt:k<W.length:=by omega
  obtain⟨r,e⟩:∃ r,W[k]?=some r:=⟨W[k],an hlt⟩;have f:=M9 e;have d:=E r f;have C:=zm d;have U:W.take (k+1)=W.take k++[r]:=by rw[Nv,e];rfl
  have V:r∉W.take k:=by
   intro g;have h1:=H;rw[<- Oh (k+1) W,U] at h1;exact (Ny.1 (Ny.1 h1).1).2.2 r g r ai rfl
  have X:cF r∉W.take k:=λ g=>I r f _ (Od g) rfl;have e1:(df a (W.take k) rm).getD r 0=rm.getD r 0:=by rw[B,if_neg X,if_neg V];omega
  have e2:(df a (W.take k) rm).getD (cF r) 0=rm.getD (cF r) 0:=by rw[B,mW,if_neg V,if_neg X];omega
  have b1:=u r;have b2:=u (cF r);have b3:=S r f;have D:df a (W.take (k+1)) rm=((df a (W.take k) rm).set r (rm.getD r 0-a)).set (cF r) (rm.getD (cF r) 0+a):=by rw[U,wc];unfold q8;rw[e1,e2]
  have Y:=s k r d;rw[e1] at Y;have Z:=s k (cF r) C;rw[e2] at Z;have hy:((df a (W.take k) rm).set r (rm.getD r 0-a))[cF r]?=some (rm.getD (cF r) 0):=by rw[Nq (yM r).symm];exact Z
  have hA:=I8 (r:=r) aa;refine am (au ?_);refine vf ?_;refine aG (aA (v:=af (r:Int)) 5 rfl rfl rfl (eE e)) ?_;refine fR ?_;refine GH ?_;refine aG (bG rfl d) ?_;refine aG (aA 4 rfl rfl rfl (b7 Y)) ?_;refine az ?_;refine aB 65 (v':=af (rm.getD r 0-a)) rfl (M8 (Value.int .i64) (cv aa))<|aG (bG rfl d) ?_;refine aY 4 rfl rfl rfl rfl (fF rfl (by rw[iX];omega)) [] rfl<|ah<|bA ?_;refine GH ?_;refine aB 72 (v':=af ((cF r:Nat):Int)) rfl (M8 (Value.int .i64) hA)<|aG (bG rfl C) ?_;refine aG (aA 4 rfl rfl rfl (b7 hy)) ?_;refine az ?_;refine aB 76 (v':=af (rm.getD (cF r) 0+a)) rfl (M8 (Value.int .i64) (cv aa))<|aG (bG rfl C) ?_;refine aY 4 rfl rfl rfl rfl (fF rfl (by rw[NQ,iX];omega)) [] rfl<|dw ?_;refine⟨k+1,[0,1,2,3,4,5],⟨?_,rfl,rfl,rfl,rfl,rfl,rfl,be⟩,ab,by rw[D];rfl,aa,aa⟩;refine fJ ?_;rw[cv aa];rfl
 obtain rfl:k=W.length:=aa;have j:=B W.length;rw[NH] at j ⊢;obtain⟨rm',t⟩:∃ rm',rm'=df a W rm:=⟨_,rfl⟩;rw[<- t] at j ⊢;have h2:rm'.length=2*N.arcs.length:=by rw[t,iX];exact F
 have hex:∃ r∈W,rm'.getD r 0<least:=⟨ra,z,by
  rw[j,if_neg (λ g=>I ra z _ g rfl),if_pos z];omega⟩
 obtain⟨k,hk⟩:∃ k,k=rC least rm' W:=⟨_,rfl⟩;have hv:k<=W.length:=by rw[hk];exact List.findIdx_le_length
 refine bA ?_;refine bh (v:=ap pw 0) 2 ?_;refine az ?_;refine bh (v:=ax gw 0 W.length cw) 3 ?_;refine az ?_
 refine bj [] (Ik N A c pw L (aJ gr 0) cr gr least gl n (aJ gw 0) cw gw rm' h2 aE W E hx aE hex) rfl rfl rfl rfl aW
  ⟨en 2 rfl,en 3 rfl,gC 4 rfl b8 (bO aE),gC 5 rfl b8 (bO aE),be⟩ aE ?_
 refine jH ?_;refine ef ?_;rw[<- hk];refine cA ?_;refine bK 9 (dS [0,1,2,3,4,5,6,7,8]) [2,3] aW ab rfl<|bc rfl (ad (v:=ap pw 0) 0 rfl) ?_;refine bc rfl (ad (v:=ap pw 0) 0 rfl) ?_;refine a6 ?_;refine bc rfl (ad (v:=ax gw 0 W.length cw) 1 rfl) ?_;refine a6 ?_;refine bc rfl (jO (i:=k) rfl rfl rfl rfl rfl aa) ?_;refine ib [] rfl<|dz 3 ?_;refine ah<|bQ (aw.shrink (m:=k) 5 rfl hv)<|?_;rw[NR,show (cJ W).take k=cJ (W.take k) by unfold cJ;rw[List.map_take];simp[aj]];refine bA ?_;refine bh (v:=.agg #[.slice At W.length ct,af a]) 0 ?_;refine dz 1 ?_;exact ah<|bM<|⟨[_],[3,4,5],_,⟨⟨O,1,_,_,rfl,rfl,rfl⟩,be⟩,ab,rfl,aJ gw 0,cw,At,ct,rfl,rfl⟩
theorem zg(N:aR)(ls:LN_)(r v:Nat):fC N (ls++[r]) v=fC N ls v++(if eL N r=v then [r] else []):=by
 unfold fC;rw[Pr]
 congr 1
 by_cases h:eL N r=v
 ·rw[if_pos h,OJ,if_pos (OU h)];rfl
 ·rw[if_neg h,OJ,if_neg (by simpa using h)];rfl
theorem lg(N:aR)(ls:LN_)(v:Nat):(fC N ls v).length<=ls.length:=OA _ _
theorem Mq(N:aR)(y:N.Right)(A:OA_)(c b o:Nat)(R:N.arcs≠[]->A=some ⟨b,o,none⟩)(Ar:OA_)(cr:Nat)(ls:LN_)(z:∀ r∈ls,r<2*N.arcs.length)(P:ls.length<=4000)(B:OA_)(Q C D:Nat)(S:ls≠[]->B=some ⟨C,D,none⟩)
 (least:Int) (n:Nat) (Z:N.nodes=n):Fn 225 [cd N A c,.slice Ar (2*N.arcs.length) cr,.slice B ls.length Q,.int .i64 least] [] [.seg b o (arcs N.arcs),.seg C D (cJ ls)] λ v H'=>∃ (w gl:Nat) (rows:List ff),v=.pointer (some ⟨w,0,none⟩)/\rows.length=n+1/\
  (∀ (v:Nat) (row:ff),rows[v]?=some row->row.l=(fC N ls v).map λ (i:Nat)=>(i:Int))/\
  H'=[blk w 303 (xr N A c Ar cr least gl n none 0 0),.own (.slice (some ⟨gl,0,none⟩) (n+1) (n+1)) 23 1 (n+1) (rows.map cT)]++rows.map (bg 3):=by
 have U:=y.nodes;have E:=y.len;refine aT Tryz.func225 λ w0=>?_;refine bA ?_;refine dh (cs:=bY N A c) λ p=>?_;refine iH ?_;refine bK 10 (dS [0,1,2,3,4,5]++[(6,false)]++dS [7]++[(8,false)]++dS [9]) [0] aW ab rfl<|bc rfl (ad (v:=cd N A c) 0 rfl) ?_;refine a6 ?_;refine bc rfl (ad (v:=af N.nodes) 0 rfl) ?_;refine a6 ?_;refine dG 19 (v':=af ((n+1:Nat):Int)) rfl (M8 (Value.int .i64) ((cv (n:=N.nodes+1) aa).trans aa))<|cz ?_;refine cY (n:=n+1) (c:=n+1) rfl rfl rfl rfl rfl rfl aa aa aa aE λ gl=>bZ [1]<|za ?_;refine dh (cs:=xr N A c Ar cr least gl n none 0 0) λ w=>?_;refine bZ [2]<|lh ?_;rw[show made [Value.slice none 0 0] ((n+1)*1)=(List.replicate (n+1) ek).map cT by rw[db,NR,OH];rfl];refine jX ?_;refine bQ (aw.nils 3 (n+1)) ?_
 refine cN (σ:=Nat×List ff) (λ s=>[(25,af s.1),(24,af ls.length),(23,.slice B ls.length Q),(9,ap w 0),(4,ap p 0)])
  (λ s=>[blk w 303 (xr N A c Ar cr least gl n none 0 0),.own (ax gl 0 (n+1) (n+1)) 23 1 (n+1) (s.2.map cT),blk p 33 (bY N A c),.seg b o (arcs N.arcs),.seg C D (cJ ls)]++s.2.map (bg 3))
  (λ s=>s.1<=ls.length/\s.2.length=n+1/\∀ (v:Nat) (r:ff),s.2[v]?=some r->r.l=(fC N (ls.take s.1) v).map λ (i:Nat)=>(i:Int)) (λ s=>ls.length-s.1)
  (0,List.replicate (n+1) ek) a8 aw.refl ⟨Nk _,ai,λ v r h=>?_⟩ ?_
 ·rw[Nt] at h;split at h
  ·simp only[Na] at h;subst h;rfl
  ·cases h
 rintro⟨k,rows⟩ ⟨V,a,d⟩;simp only at V a d ⊢;refine ao ?_;refine am (ak rfl (λ hlt=>ag ?_) (λ X=>aO ?_))
 ·have hlt:k<ls.length:=by omega
  obtain⟨r,F⟩:∃ r,ls[k]?=some r:=⟨ls[k],an hlt⟩;have x:=z r (M9 F);obtain⟨he,H,I⟩:=nA y x;obtain⟨v,K⟩:∃ v,eL N r=v:=⟨_,rfl⟩;rw[K] at he H I;obtain rfl:=S (by rintro rfl;simp at hlt);have j:v<rows.length:=aa;obtain⟨row,f⟩:∃ r,rows[v]?=some r:=⟨rows[v],an j⟩;have g:=d v row f;have hlen:=lg N (ls.take k) v;have L:(ls.take k).length<=ls.length:=by rw[ND];omega
  have M:row.l.length=(fC N (ls.take k) v).length:=by rw[g,Nj]
  have O:ls.take (k+1)=ls.take k++[r]:=by rw[Nv,F];rfl
  refine am (au ?_);refine jc ?_;refine aG (a7 4 rfl rfl (eE F)) ?_;refine fR ?_;refine bh (v:=cd N A c) 2 ?_;refine az ?_;refine cH (jw N A c b o R E r x) rfl ⟨bx 3 rfl,be⟩ ?_;refine aN ?_;refine bB 12 (v':=af (v:Int)) rfl (M8 (Value.int .i64) he)<|rJ ?_;refine bQ (aw.front (i:=v) (c:=bg 3 row) (by rw[Ni,f];rfl)) ?_;refine HX ?_;refine bc rfl (aA (v:=cT row) 1 rfl rfl rfl (show (rows.map cT)[v]?=some (cT row) by rw[Ni,f];rfl)) ?_;refine jM ?_;refine dp λ g2=>?_;refine bZ [2,3]<|cz ?_;refine bp (n:=row.l.length) (m:=1) (off:=0) (news:=aj [(r:Int)]) 1 0 rfl rfl rfl rfl rfl rfl ab rfl rfl (aQ g2 _ _ (0,0)) aE rfl rfl aa aa (λ _ _=>rfl) λ Y c2=>KN ?_;refine⟨(k+1,rows.set v ⟨Y,c2,row.l++[(r:Int)]⟩),⟨?_,rfl,rfl,rfl,rfl,be⟩,?_,⟨by simp only;omega,by simp only[NQ];omega,λ u q hu=>?_⟩,by simp only;omega⟩
  ·refine fJ ?_;rw[cv aa];rfl
  ·simp only[O1];refine aw.trans (aw.sub (NU _ _)) (aw.back (A:=[_,_,_,_,_]) (by rw[Nj];exact j))
  ·simp only at hu ⊢;rw[O,zg,NJ];by_cases t:v=u
   ·subst t;rw[No j] at hu;simp only[Na] at hu;rw[<- hu,if_pos K,g];rfl
   ·rw[Nq t] at hu;rw[if_neg (λ e=>t (K.symm.trans e)),Oi,NL];exact d u q hu
 ·obtain rfl:k=ls.length:=by omega
  rw[NH] at d;refine ao ?_;refine bQ (aw.re [0,1] rfl ab) (bM ⟨_,rfl,w,gl,rows,rfl,a,d,rfl⟩)
def Lp(N:aR)(f:LI_)(least:Int)(m:Nat)(v:Value)(H':Heap):Prop:=
 (aD N f/\1<=least/\∃ (f':LI_) (ws:List (LN_×Int)) (g:Nat) (Ak:OA_) (ck:Nat) (xs:LV_),nf N least f ws f'/\
  v=.tuple #[.slice (some ⟨g,0,none⟩) m m,.slice Ak ws.length ck,.int .i64 0]/\
  H'=[.own (.slice (some ⟨g,0,none⟩) m m) 2 1 m (aj f'),.own (.slice Ak ws.length ck) 300 2 ws.length xs])\/
 (¬ aD N f/\v=.tuple #[.slice none 0 0,.slice none 0 0,.int .i64 (eQ N f)]/\H'=[])\/(aD N f/\least<1/\v=.tuple #[.slice none 0 0,.slice none 0 0,.int .i64 3]/\H'=[])
structure BS where
 ns:NS
 rm:LI_
 f:LI_
 acc:List (LN_×Int)
 Ak:OA_
 ck:Nat
 xs:LV_
theorem G5(N:aR)(hN:N.Fits)(hR:N.Right)(A:OA_)(c b o:Nat)(hA:N.arcs≠[]->A=some ⟨b,o,none⟩)(f:LI_)(F:OA_)(cf bf of:Nat)(hF:f≠[]->F=some ⟨bf,of,none⟩)(hf:∀ x∈f,b9 x)(hfl:f.length*8<=140737488351232)(least:Int):
 Fn 223 [cd N A c,.slice F f.length cf,.int .i64 least] [] [.seg b o (arcs N.arcs),.seg bf of (aj f)] (Lp N f least f.length):=by
 have p4:=hR.nodes;have e1:=hR.len;obtain⟨n,hn⟩:∃ n:Nat,N.nodes=n:=⟨N.nodes.toNat,aa⟩;refine aT Tryz.func223 λ w0=>?_;refine bA ?_;refine dh (cs:=bY N A c) λ p=>?_;refine ip ?_;refine dB (ye N hN hR A c b o hA f F cf bf of hF hf hfl least) rfl ⟨bx 1 rfl,bx 2 rfl,be⟩ ?_;rintro v H' (⟨E,hle,lv,B,cb,hy,rfl,rfl⟩|⟨E,rfl,rfl⟩|⟨E,hle,rfl,rfl⟩)
 case inr.inl=>
  refine fO ?_;refine ak rfl (λ h=>?_) (λ h=>absurd (de.1 (Nn.1 h)) E);refine ao ?_;refine aL [] ⟨_,rfl,.inr (.inl ⟨E,rfl,rfl⟩)⟩
 case inr.inr=>
  refine fO ?_;refine ak rfl (λ h=>?_) (λ h=>absurd h ab);refine ao ?_;refine aL [] ⟨_,rfl,.inr (.inr ⟨E,hle,rfl,rfl⟩)⟩
 refine fO ?_;refine ak rfl (λ h=>absurd rfl h) (λ _=>ag ?_);refine Id ?_;rintro v H' (⟨_,A1,D,rfl,rfl⟩|⟨h,_,_⟩)
 case inr=>exact absurd E h
 refine ef ?_;have ho:=E.len;obtain⟨ls,y⟩:∃ ls,ls=dj N (a9 (N.arcs.zip f)) least lv (2*N.arcs.length):=⟨_,rfl⟩;rw[<- y];have hb:∀ r∈ls,r<2*N.arcs.length:=λ r hr=>(fI.1 (y▸hr)).1;have M:ls.length<=4000:=by rw[y];have:=lB N (a9 (N.arcs.zip f)) least lv (2*N.arcs.length);omega
 have hG:=km hy;rw[<- y] at hG;refine aP (aH 1 rfl) λ ⟨_,_,hB,hS⟩=>?_;obtain⟨gB,hB⟩:=bo hB hS;refine aP (aH 0 rfl) λ ⟨_,_,hz,hc⟩=>?_;obtain⟨gr,hz⟩:=bo hz hc;have q1:ls≠[]->B=aJ gB 0:=λ h=>hB (by intro P;apply h;have:=fV ls;unfold cJ at this;rw[P] at this;exact Nw.1 this.symm);refine bA ?_;refine bh (v:=cd N A c) 2 ?_;refine az ?_;refine dB (Mq N hR A c b o hA A1 D ls hb M B cb gB 0 q1 least n hn) rfl ⟨bx 3 rfl,gy 1 rfl hB,be⟩ ?_;rintro v H' ⟨pw,gl,rows,rfl,Q,hL,rfl⟩;refine⟨dc rfl (dd _ rows),?_⟩;refine cK aw.swap ?_;show JL _ _ _ _ _ ([_,_,_,_,_,_,_]++rows.map (bg 3));refine cS ?_;refine b6 3 1<|b6 300 2<|gz ?_
 have O:∀ w,dL w0 [] w ([.own (.slice none 0 0) 300 2 0 [],.own (.slice none 0 0) 3 1 0 [],blk pw 303 (xr N A c A1 D least gl n none 0 0),.own (ax gl 0 (n+1) (n+1)) 23 1 (n+1) (rows.map cT),.own (.slice A1 (2*N.arcs.length) D) 2 1 (2*N.arcs.length) (aj (a9 (N.arcs.zip f))),.own (.slice B ls.length cb) 3 1 ls.length (aj (ls.map λ (i:Nat)=>(i:Int))),blk p 33 (bY N A c),.seg b o (arcs N.arcs),.seg bf of (aj f)]++rows.map (bg 3))->
  ∀ v:Nat,∃ H:Nat,∀ row,rows[v]?=some row->row.l.length<=row.c/\(aj row.l≠[]->row.A=aJ H 0):=by
  intro w hw v
  cases hv:rows[v]? with
  |none=>exact⟨0,λ row h=>by cases h⟩
  |some row=>
   obtain⟨_,h2,h3,h4⟩:=aH (X:=⟨w0,[],⟨0,[]⟩⟩) (v+9) (show _=some (bg 3 row) by show (rows.map (bg 3))[v]?=_;rw[Ni,hv];rfl) w hw;obtain⟨H,I⟩:=bo h3 h4;exact⟨H,λ r2 h=>by simp only[Na] at h;subst h;exact⟨h2,I⟩⟩
 show J _ _ _ _ ([_,_,_,_,_,_,_,_,_]++rows.map (bg 3));refine aP O λ d=>?_;obtain⟨H,I⟩:∃ H:Nat->Nat,∀ (v:Nat) (row:ff),rows[v]?=some row->row.l.length<=row.c/\(aj row.l≠[]->row.A=aJ (H v) 0):=⟨λ v=>Classical.choose (d v),λ v=>Pf (d v)⟩
 clear d O
 obtain⟨g,z⟩:∃ g,g=a9 (N.arcs.zip f):=⟨_,rfl⟩;have hL':∀ (v:Nat) (row:ff),rows[v]?=some row->row.l=(fC N ls v).map λ (i:Nat)=>(i:Int):=hL
 have n1:tv rows H (List.replicate (n+1) 0) (rows.map cT):=by
  refine⟨ai,λ v row q hr R=>?_⟩;rw[Nt] at R;split at R
  ·simp only[Option.some.injEq] at R;subst R;have h1:=I v row hr;refine⟨row.A,row.c,by rw[List.getElem?_map,hr];rfl,h1.1,fun hp=>h1.2 (fun P=>?_)⟩;have:row.l.length=0:=by rw[← bU,P];rfl
   omega
  ·cases R
 refine cN (σ:=BS) (λ s=>[(14,.slice s.Ak s.acc.length s.ck),(13,ap pw 0),(11,.slice A1 (2*N.arcs.length) D),(1,.slice F f.length cf)])
  (λ s=>[blk pw 303 (xr N A c A1 D least gl n s.ns.Aw s.ns.W.length s.ns.cw),.own (ax gl 0 (n+1) (n+1)) 23 1 (n+1) s.ns.vals,.own (.slice s.ns.Aw s.ns.W.length s.ns.cw) 3 1 s.ns.W.length (cJ s.ns.W),
   .own (.slice A1 (2*N.arcs.length) D) 2 1 (2*N.arcs.length) (aj s.rm),.own (.slice s.Ak s.acc.length s.ck) 300 2 s.acc.length s.xs,.seg b o (arcs N.arcs),.seg bf of (aj f)]++rows.map (bg 3))
  (λ s=>PI N (fC N ls) least s.rm s.ns.pos s.ns.W/\tv rows H s.ns.pos s.ns.vals/\aD N s.f/\s.rm=a9 (N.arcs.zip s.f)/\s.acc.length+qU ls least s.rm<=4000/\
   ∀ ws rm',Bl N (fC N ls) least s.rm s.ns.pos s.ns.W ws rm'->Bl N (fC N ls) least g (List.replicate (N.nodes.toNat+1) 0) [] (s.acc++ws) rm')
  (λ s=>qU ls least s.rm) ⟨⟨List.replicate (n+1) 0,[],rows.map cT,none,0⟩,g,f,[],none,0,[]⟩ a8 (by
   simp only[z];exact aw.re [2,3,1,4,0,7,8] rfl ab) ⟨?_,n1,E,z,?_,λ ws rm' h=>?_⟩ ?_
 ·have:=PI.start (N:=N) (L:=fC N ls) (least:=least) (rm:=g);rw[hn,Nz] at this;exact this
 ·have:qU ls least g<=ls.length:=OA _ _;simp only[NA];omega
 ·rw[hn,Nz];exact h
 rintro⟨⟨pos,W,vals,Aw,cw⟩,rm,fc,acc,Ak,ck,xs⟩ ⟨hI,hV,j,t,hs,hX⟩;simp only at hI hV j t hs hX ⊢;have u:rm.length=2*N.arcs.length:=by rw[t];exact ku j.len
 refine aP (aH 3 rfl) λ ⟨_,_,e,S⟩=>?_;obtain⟨U,e⟩:=bo e S;have C:rm≠[]->A1=aJ U 0:=λ h=>e (by simpa [aj] using h);have h5:∀ v,(fC N ls v).length<=4000:=λ v=>Ot (lg N ls v) M;refine aI ?_
 refine bJ (fst:=[]) (cap:=[]) [] (Js N hR A c b o hA pw A1 D U least gl n hn (fC N ls) (dF lv) hG h5 rm u C rows Q hL H (λ v row h=>(I v row h).2) ⟨pos,W,vals,Aw,cw⟩ hI hV) rfl rfl rfl rfl aW (aw.mid [0,1,2] [3,4,5,6] rfl rfl ab)
  ⟨bx 2 rfl,gy 0 rfl e,be⟩ aE ?_
 rintro v H' ⟨bb,⟨ha,a,V,s3,q2⟩,rfl,K,hH,ht,rfl⟩;simp only at K hH ht ⊢;refine⟨dc rfl (dd _ rows),?_⟩;refine cK aw.swap<|ah<|?_
 cases bb with
 |false=>
  refine bu rfl (aO ?_);have hj:=hX _ _ (.stop K);rw[NL] at hj;have b1:=j.len;obtain⟨m,hm⟩:∃ m,f.length=m:=⟨_,rfl⟩;rw[hm] at ho ⊢;refine aI ?_;refine cY (n:=m) (c:=m) rfl rfl rfl rfl rfl rfl aa aa aa aE λ go=>aN ?_;rw[show made [af 0] (m*1)=aj (List.replicate m 0) by rw[db,NR];simp[aj]];refine jX ?_
  refine bS (σ:=Nat) (λ k=>[(50,af k),(49,af m),(15,ax go 0 m m),(14,.slice Ak acc.length ck),(11,.slice A1 (2*N.arcs.length) D)])
   (λ k=>[.own (ax go 0 m m) 2 1 m (aj (fc.take k++List.replicate (m-k) 0)),.own (.slice A1 (2*N.arcs.length) D) 2 1 (2*N.arcs.length) (aj rm),.own (.slice Ak acc.length ck) 300 2 acc.length xs])
   (λ k=>k<=m) (λ k=>m-k) 0 [0,4,5] a8 ab rfl (Nk _) ?_
  intro k hk;refine ao ?_;refine am (ak rfl (λ hg=>ag ?_) (λ hge=>aO ?_))
  ·have hg:k<m:=by omega
   obtain⟨x,hx⟩:∃ x,fc[k]?=some x:=⟨fc[k]'aa,an aa⟩;obtain⟨ar,p2⟩:∃ ar,N.arcs[k]?=some ar:=⟨N.arcs[k]'aa,an aa⟩;have Y:=(eh (f6 p2 hx)).2;rw[<- t] at Y;simp only at Y;obtain rfl:=C (by intro P;rw[P] at u;simp at u;omega);refine am (au ?_);refine cW ?_;refine aB 58 (v':=af ((2*k+1:Nat):Int)) rfl (M8 (Value.int .i64) (by rw[cv (n:=2*(k:Int)) aa,cv aa];omega))<|io ?_;refine aG (aA 1 rfl rfl rfl (b7 Y)) ?_;refine aG (bG rfl hg) ?_;refine BV ?_;refine dw ?_;refine⟨k+1,[0,1,2],⟨?_,rfl,rfl,rfl,rfl,be⟩,ab,?_,aa,aa⟩
   ·refine fJ ?_;rw[cv aa];rfl
   ·rw[show fc.take (k+1)++List.replicate (m-(k+1)) 0=(fc.take k++List.replicate (m-k) 0).set k x by
     rw[OC _ _ eS,ND,OX aa,OB,show m-k=(m-(k+1))+1 by omega,Ol,OT,Nv,hx,NI];rfl]
    rfl
  ·obtain rfl:k=m:=by omega
   rw[OB,List.replicate_zero,NL,Of aa];refine ao ?_;refine aL [0,2] ⟨_,rfl,.inl ⟨E,hle,fc,acc,go,Ak,ck,xs,⟨lv,hy,j,?_⟩,rfl,rfl⟩⟩;rw[<- y,<- z,<- t];exact hj
 |true=>
  refine bD rfl (ag ?_);obtain⟨_,hd,_⟩:=K.keeps hG hI;obtain⟨k1,k2,k3,k4,k5,k6,⟨f',k7,k8⟩,k9,k0,r,v,p8,b2,l2⟩:=kx hR hG hle j t hH (hd rfl);rw[hn,Nz] at k5;obtain⟨r0,r1⟩:=PU _ k1;have a1:=k2 r0 r1;obtain rfl:=C (by intro P;rw[P] at u;simp at u;omega);refine ou ?_;refine bQ (aw.re [0,3,2,1,4,5,6] rfl ab)<|au<|aI ?_;show JL _ _ _ _ _ ([_,_,_]++([_,_,_,_]++rows.map (bg 3)));have l1:qU ls least (df (dx rm a) a rm)<qU ls least rm:=xf (λ q R=>k0 (eL N q) q (iM.2 ⟨R,rfl⟩)) r (iM.1 p8).1 b2 l2;refine sk (fst:=[]) (cap:=[]) (Jx N e1 A c pw U D least hle gl n s3 q2 rm u (λ q=>by rw[t];exact gJ hR j.toRanged q) a k2 aa k3 k4 k1) rfl aw.refl be ?_;rintro v' H' ⟨h6,s0,At,ct,rfl,rfl⟩;obtain⟨kc,Z⟩:∃ kc,kc=rC least (df (dx rm a) a rm) a:=⟨_,rfl⟩;have n2:kc<=a.length:=by rw[Z];exact List.findIdx_le_length
  rw[<- Z] at k9 ⊢;refine dp λ gk=>?_;refine bp (n:=acc.length) (m:=1) (off:=0) (news:=[.slice At a.length ct,af (dx rm a)]) 5 0 rfl rfl rfl rfl rfl rfl ab rfl rfl (aQ gk _ _ (0,0)) aE rfl rfl aa aa (λ _ _=>rfl) λ A4 c4=>aN ?_;have e2:(a.take kc).length=kc:=by rw[ND];omega
  refine⟨⟨⟨ha,a.take kc,V,h6,s0⟩,df (dx rm a) a rm,f',acc++[(a,dx rm a)],A4,c4,xs++[.slice At a.length ct,af (dx rm a)]⟩,⟨?_,rfl,rfl,rfl,be⟩,?_,⟨k9,ht,k7,k8,?_,λ ws rm' h=>?_⟩,l1⟩
  ·show some (Value.slice A4 (acc.length+1) c4)=some (Value.slice A4 (acc++[(a,dx rm a)]).length c4);rw[Ng,NF]
  ·simp only[e2,Ng,NF];show aw _ ([_,_,_,_,_,_,_,_]++rows.map (bg 3)) _;exact aw.re [1,4,3,2,5,6,7] rfl ab
  ·simp only[Ng,NF];omega
  ·have:=hX _ _ (.walk K (Z▸h));rw[NI];exact this
theorem Bz(N:aR)(i:N.Fits)(a:N.Right)(A:OA_)(c b o:Nat)(j:N.arcs≠[]->A=some ⟨b,o,none⟩)(f:LI_)(d:aD N f)(F:OA_)(cf e of:Nat)(k:f≠[]->F=some ⟨e,of,none⟩)(least:Int)(hle:1<=least):
 Fn 222 [.agg #[],cd N A c,.slice F f.length cf,.int .i64 least] [] [.seg b o (arcs N.arcs),.seg e of (aj f)] λ v H'=>∃ (f':LI_) (ws:List (LN_×Int)) (g:Nat),nf N least f ws f'/\
  v=.tuple #[.slice (some ⟨g,0,none⟩) f.length f.length,.int .i64 ws.length,.int .i64 0]/\H'=[.own (.slice (some ⟨g,0,none⟩) f.length f.length) 2 1 f.length (aj f')]:=by
 have hl:=d.len;have l:=a.len;refine aT Tryz.func222 λ w0=>?_;refine bA ?_;refine dh (cs:=[]) λ r=>?_;refine dh (cs:=bY N A c) λ p=>?_;refine ip ?_;refine dB (G5 N i a A c b o j f F cf e of k (aD.inB a d.toRanged) aa least) rfl ⟨bx 2 rfl,bx 3 rfl,be⟩ ?_;rintro v H' (⟨_,_,f',ws,g,Ak,ck,xs,m,rfl,rfl⟩|⟨n,_,_⟩|⟨_,q,_,_⟩)
 case inr.inl=>exact absurd d n
 case inr.inr=>omega
 refine fO ?_;exact aL [0] ⟨_,rfl,f',ws,g,m,rfl,rfl⟩
theorem Du:Fn 75 [.int .u8 112] [] [] λ v H'=>v=.iface 190 (.agg #[])/\H'=[]:=by
 refine aT Tryz.func75 λ w0=>?_;refine mI ?_;refine ao ?_;refine ak rfl (λ _=>?_) (λ h=>absurd rfl h);refine aI ?_;refine fv ?_;refine aN ?_;exact j7
structure FS where
 f:LI_
 A:OA_
 c:Nat
 p:Nat
 k:Nat
 lv:LI_
def rh(A:OA_)(m c:Nat)(p k:Int)(s:Int):Value:=.agg #[.slice A m c,.int .i64 p,.int .i64 k,.int .i64 s]
theorem Cz(N:aR)(hN:N.Fits)(hR:N.Right)(A:OA_)(c b o:Nat)(hA:N.arcs≠[]->A=some ⟨b,o,none⟩)(f:LI_)(hf:aD N f)(F:OA_)(cf bf of:Nat)(hF:f≠[]->F=some ⟨bf,of,none⟩)(least:Int)(hle:1<=least):
 Fn 38 [cd N A c,.slice F f.length cf,.int .i64 least,.int .u8 112] [] [.seg b o (arcs N.arcs),.seg bf of (aj f)] λ v H'=>∃ (f':LI_) (p k:Nat) (I:OA_) (K:Nat),Dn N least f p k f'/\(k:Int)<=9223372036854775806/\
  v=.tuple #[rh I f'.length K p k 0,.int .i64 0]/\H'=[.own (.slice I f'.length K) 2 1 f'.length (aj f')]:=by
 have hl:=hf.len;have U:=hR.len;refine ie Tryz.func38 rfl rfl λ w0=>bA ?_;refine dh (cs:=bY N A c) λ L=>?_;refine dM λ x=>?_;refine FX ?_;rintro v H' (⟨_,_,lv,y,rfl,rfl⟩|⟨z,_,_⟩|⟨_,i,_,_⟩)
 case inr.inl=>exact absurd hf z
 case inr.inr=>omega
 refine fO ?_;refine ak rfl (λ h=>absurd rfl h) (λ _=>ag ?_);refine aI ?_;refine cH (Du) rfl be ?_;refine cS ?_;refine bu rfl (ag ?_);refine aI ?_;refine fh (gS F cf bf of f hF aa) rfl ⟨bx 3 rfl,be⟩ ?_;rintro v H' ⟨V,c0,rfl,rfl⟩;refine fv ?_;refine dM λ j=>?_;refine iG ?_;refine gz ?_;have X:=dl hR hf.toRanged N.snk
 refine bS (σ:=FS) (λ s=>[(10,af (dF s.lv N.snk.toNat)),(12,.iface 190 (.agg #[])),(13,ap j 0),(8,ap x 0),(4,ap L 0),(2,af least)])
  (λ s=>[blk j 47 [.slice s.A s.f.length s.c,af s.p,af s.k,af 0],.own (.slice s.A s.f.length s.c) 2 1 s.f.length (aj s.f),blk x 47 [.slice none 0 0,af 0,af 0,af 0],blk L 33 (bY N A c),.seg b o (arcs N.arcs)])
  (λ s=>aD N s.f/\fu N (a9 (N.arcs.zip s.f)) least s.lv/\s.p<=s.k/\dJ (N.arcs.zip f) N.snk+s.k<=dJ (N.arcs.zip s.f) N.snk/\∀ p k f',Dn N least s.f p k f'->Dn N least f (s.p+p) (s.k+k) f')
  (λ s=>(4611686018427387903-dJ (N.arcs.zip s.f) N.snk).toNat) ⟨f,V,c0,0,0,lv⟩ [0,1,2,3,4] a8 ab rfl ⟨hf,y,Np _,ai,λ p k f' h=>by simpa using h⟩ ?_
 rintro⟨l,u,w,p,k,Y⟩ ⟨d,a,B,m,C⟩;simp only at d a B m C ⊢;have Z:=dl hR d.toRanged N.snk;have M:=d.len;refine ao ?_;refine ak rfl (λ n=>ag ?_) (λ i=>aO ?_)
 ·refine au<|aP (aH 1 rfl) fun ⟨_,_,g,q⟩=>?_;obtain⟨gc,g⟩:=bo g q;refine aI ?_;refine sy ?_;refine bh (v:=.slice u l.length w) 0 ?_;refine az ?_;refine wG [] (Bz N hN hR A c b o hA l d u w gc 0 (fun h=>g (by simpa [aj] using h)) least hle) rfl rfl rfl rfl aW rfl aW ⟨bx 4 rfl,gy 1 rfl g,trivial⟩ aE ?_;rintro v H' ⟨f1,ws,g1,O,rfl,rfl⟩;obtain⟨e,h1,D⟩:=O.keeps hR hle d a;have E:=List.length_pos_iff.2 (D n);have P:=e.len;have hlen:l.length=f1.length:=aa;refine dE ?_;rw[hlen];refine aN ?_;have Q:=dl hR e.toRanged N.snk
  have h2:(ws.length:Int)<=least*ws.length:=by
   have:=Int.mul_le_mul_of_nonneg_right hle (show (0:Int)<=ws.length by omega);omega
  refine KD ?_;refine bh (v:=af 0) 1 ?_;refine az ?_;refine aB 59 (v':=af 0) rfl (M8 (Value.int .i64) (cv aa))<|fv ?_;refine dz 1 ?_;refine ah<|bA ?_;refine bh (v:=cd N A c) 4 ?_;refine az ?_;refine dB (tn N hN hR A c b o hA f1 (aJ g1 0) f1.length g1 0 aE (aD.inB hR e.toRanged) aa least) rfl ⟨bx 5 rfl,gC 0 rfl b8 (bO aE),be⟩ ?_;rintro v H' (⟨_,_,H,r,rfl,rfl⟩|⟨z,_,_⟩|⟨_,i,_,_⟩)
  case inr.inl=>exact absurd e z
  case inr.inr=>omega
  refine ef ?_;refine⟨⟨f1,aJ g1 0,f1.length,p+1,k+ws.length,H⟩,[1,0,3,4,5],a8,ab,rfl,⟨e,r,by simp only;omega,by simp only;omega,λ R S f' h=>?_⟩,by simp only;omega⟩;have:=C _ _ _ (.step a n O h);simp only;rw[show p+1+R=p+(R+1) by omega,show k+ws.length+S=k+(ws.length+S) by omega];exact this
 ·have t:=C _ _ _ (.stop a aa);rw[OZ,OZ] at t;refine bA ?_;refine bh (v:=rh u l.length w p k 0) 0 ?_;refine lJ ?_;refine lI ?_;exact⟨[_,_],[1],_,⟨⟨x,2,_,_,rfl,rfl,rfl⟩,rfl,be⟩,ab,rfl,l,p,k,u,w,t,aa,rfl,rfl⟩
theorem K3(N:aR)(f:N.Fits)(e:N.Right)(A:OA_)(c b o:Nat)(i:N.arcs≠[]->A=some ⟨b,o,none⟩):
 Fn 16 [cd N A c,.int .u8 112] [] [.seg b o (arcs N.arcs)] λ v H'=>∃ (f':LI_) (p k:Nat) (a:OA_) (d:Nat),Dn N 1 (List.replicate N.arcs.length 0) p k f'/\(k:Int)<=9223372036854775806/\
  v=.tuple #[rh a f'.length d p k 0,.int .i64 0]/\H'=[.own (.slice a f'.length d) 2 1 f'.length (aj f')]:=by
 have j:=e.len;refine ie Tryz.func16 rfl rfl λ w0=>bA ?_;refine dh (cs:=bY N A c) λ r=>?_;refine dM λ l=>?_;refine F3 ?_
 (first|refine aF [] rfl (ad 0 rfl) rfl ?_|refine aF [] rfl (ad 1 rfl) rfl ?_|refine aF [] rfl (ad 2 rfl) rfl ?_|refine aF [] rfl (ad 3 rfl) rfl ?_|refine aF [] rfl (ad 4 rfl) rfl ?_|refine aF [] rfl (ad 5 rfl) rfl ?_)
 refine jM ?_;refine cY (n:=N.arcs.length) (c:=N.arcs.length) rfl rfl rfl rfl rfl rfl aa aa aa aE λ g=>bZ [2,3]<|?_;rw[show made [af 0] (N.arcs.length*1)=aj (List.replicate N.arcs.length 0) by rw[db,NR];simp[aj]];refine cz ?_;refine bj [] (Cz N f e A c b o i (List.replicate N.arcs.length 0) (iS N e) (aJ g 0) N.arcs.length g 0 aE 1 ab) rfl rfl rfl (by rw[NN];rfl) aW ⟨bx 3 rfl,gC 0 rfl b8 (bO aE),be⟩ aE ?_;rintro v H' ⟨f',p,k,a,d,m,q,rfl,rfl⟩;refine⟨rfl,bZ [3,4] ?_⟩;refine ib [] rfl<|dz 2 ?_;refine lI ?_;exact⟨[_,_],[0],_,⟨⟨l,2,_,_,rfl,rfl,rfl⟩,rfl,be⟩,ab,rfl,f',p,k,a,d,m,q,rfl,rfl⟩
structure np where
 l:Int
 r:Int
structure Gr where
 left:Int
 right:Int
 edges:List np
def fL(l:List np):LV_:=l.flatMap λ e=>[.int .i64 e.l,.int .i64 e.r]
theorem su(e:np)(l:List np):fL (e::l)=.int .i64 e.l::.int .i64 e.r::fL l:=by simp[fL]
theorem sE:∀ l:List np,(fL l).length=l.length*2
 |[]=>rfl
 |e::l=>by rw[su,Nf,Nf,sE l,Nf];omega
theorem FO(l r:List np):fL (l++r)=fL l++fL r:=by simp[fL]
theorem y9:∀ {l:List np} {i:Nat} {x:np},l[i]?=some x->(fL l)[i*2]?=some (.int .i64 x.l)/\(fL l)[i*2+1]?=some (.int .i64 x.r)
 |[],i,x,h=>by simp at h
 |a::l,0,x,h=>by
  simp only[Oe,Na] at h;subst h;rw[su];exact⟨rfl,rfl⟩
 |a::l,i+1,x,h=>by
  have b:=y9 (l:=l) (i:=i) (x:=x) (by simpa using h);rw[su,show (i+1)*2=i*2+1+1 by omega];exact⟨b.1,b.2⟩
theorem kr{l:List np}{m:Nat}{a:np}(h:l[m]?=some a):fP 180 (fL l) (m*2)=some (.agg #[.int .i64 a.l,.int .i64 a.r]):=by
 obtain⟨b,c⟩:=y9 h;show (match eD (fL l) (m*2) 2 with|some l=>some (Value.agg l.toArray)|none=>none)=_
 have:eD (fL l) (m*2) 2=some [af a.l,af a.r]:=by
  unfold eD;rw[b];unfold eD;rw[c];unfold eD;rfl
 rw[this]
structure Gr.Right (g:Gr):Prop where
 left:1<=g.left/\g.left<=200
 right:1<=g.right/\g.right<=200
 len:g.edges.length<=1500
 edge:∀ e∈g.edges,(1<=e.l/\e.l<=g.left)/\(1<=e.r/\e.r<=g.right)
def xj(g:Gr)(A:OA_)(c:Nat):Value:=.agg #[.int .i64 g.left,.int .i64 g.right,.slice A g.edges.length c]
def rE(g:Gr)(A:OA_)(c:Nat):LV_:=[.int .i64 g.left,.int .i64 g.right,.slice A g.edges.length c]
theorem gH(v m:Int):Fn 177 [.int .i64 v,.int .i64 m] [] [] λ u H'=>u=.bool (dU (1<=v/\v<=m))/\H'=[]:=by
 refine aT Tryz.func177 λ w0=>?_;refine cW ?_;by_cases h:1<=v
 ·refine d7 7 rfl h<|cX [2] ?_;exact bM ⟨_,rfl,M8 Value.bool (eB ⟨λ k=>⟨h,k⟩,λ k=>k.2⟩),rfl⟩
 ·refine dD 7 rfl h<|cX [2] ?_;exact bM ⟨_,rfl,M8 Value.bool (aZ (λ k=>h k.1)).symm,rfl⟩
theorem wJ(g:Gr)(d:g.Right)(A:OA_)(c b o:Nat)(f:g.edges≠[]->A=some ⟨b,o,none⟩):Fn 153 [xj g A c] [] [.seg b o (fL g.edges)] λ v H'=>v=.int .i64 0/\H'=[]:=by
 have i:=d.left;have j:=d.right;have q:=d.len;refine aT Tryz.func153 λ w0=>?_;refine bA ?_;refine dh (cs:=rE g A c) λ p=>?_;refine ik ?_;refine aI ?_
 (first|refine ae [] (ad 0 rfl) rfl ?_|refine ae [] (ad 1 rfl) rfl ?_|refine ae [] (ad 2 rfl) rfl ?_|refine ae [] (ad 3 rfl) rfl ?_|refine ae [] (ad 4 rfl) rfl ?_|refine ae [] (ad 5 rfl) rfl ?_|refine ae [] (ad 6 rfl) rfl ?_|refine ae [] (ad 7 rfl) rfl ?_)
 refine cH (gH g.left 200) rfl be ?_;refine az ?_;refine aB 10 (v':=.bool false) rfl (M8 Value.bool (by rw[aV i];rfl))<|bX [4] ?_
 (first|refine ae [4] (ad 0 rfl) rfl ?_|refine ae [4] (ad 1 rfl) rfl ?_|refine ae [4] (ad 2 rfl) rfl ?_|refine ae [4] (ad 3 rfl) rfl ?_|refine ae [4] (ad 4 rfl) rfl ?_|refine ae [4] (ad 5 rfl) rfl ?_|refine ae [4] (ad 6 rfl) rfl ?_|refine ae [4] (ad 7 rfl) rfl ?_)
 refine bj [4] (gH g.right 200) rfl rfl rfl rfl aW be aE<|jP ?_;refine bX [4] ?_;refine aB 5 (v':=.bool false) rfl (M8 Value.bool (by rw[aV j];rfl))<|ah<|bu rfl<|aI ?_
 (first|refine ae [] (ad 0 rfl) rfl ?_|refine ae [] (ad 1 rfl) rfl ?_|refine ae [] (ad 2 rfl) rfl ?_|refine ae [] (ad 3 rfl) rfl ?_|refine ae [] (ad 4 rfl) rfl ?_|refine ae [] (ad 5 rfl) rfl ?_|refine ae [] (ad 6 rfl) rfl ?_|refine ae [] (ad 7 rfl) rfl ?_)
 refine aN ?_;refine ak rfl (λ h=>absurd h aa) (λ _=>ag ?_);refine aI ?_
 (first|refine ae [] (ad 0 rfl) rfl ?_|refine ae [] (ad 1 rfl) rfl ?_|refine ae [] (ad 2 rfl) rfl ?_|refine ae [] (ad 3 rfl) rfl ?_|refine ae [] (ad 4 rfl) rfl ?_|refine ae [] (ad 5 rfl) rfl ?_|refine ae [] (ad 6 rfl) rfl ?_|refine ae [] (ad 7 rfl) rfl ?_)
 refine jb ?_
 refine bS (σ:=Nat) (λ k=>[(24,af k),(23,af g.edges.length),(22,.slice A g.edges.length c),(1,ap p 0)])
  (λ _=>[blk p 178 (rE g A c),.seg b o (fL g.edges)]) (λ k=>k<=g.edges.length) (λ k=>g.edges.length-k) 0 [0,1] a8 ab rfl (Nk _) ?_
 intro k s;refine ao ?_;refine am (ak rfl (λ hlt=>ag ?_) (λ m=>aO ?_))
 ·have hlt:k<g.edges.length:=by omega
  obtain rfl:=f (by intro n;rw[n] at hlt;simp at hlt);obtain⟨e,he⟩:∃ e,g.edges[k]?=some e:=⟨g.edges[k],an hlt⟩;have a:=d.edge e (M9 he);refine am (au ?_);refine tY ?_;refine aG (a7 1 rfl rfl (kr he)) ?_;refine dM λ t=>?_;refine mU ?_;refine aI ?_
  (first|refine ae [] (ad 0 rfl) rfl ?_|refine ae [] (ad 1 rfl) rfl ?_|refine ae [] (ad 2 rfl) rfl ?_|refine ae [] (ad 3 rfl) rfl ?_|refine ae [] (ad 4 rfl) rfl ?_|refine ae [] (ad 5 rfl) rfl ?_|refine ae [] (ad 6 rfl) rfl ?_|refine ae [] (ad 7 rfl) rfl ?_)
  refine az ?_
  (first|refine ae [] (ad 0 rfl) rfl ?_|refine ae [] (ad 1 rfl) rfl ?_|refine ae [] (ad 2 rfl) rfl ?_|refine ae [] (ad 3 rfl) rfl ?_|refine ae [] (ad 4 rfl) rfl ?_|refine ae [] (ad 5 rfl) rfl ?_|refine ae [] (ad 6 rfl) rfl ?_|refine ae [] (ad 7 rfl) rfl ?_)
  refine cH (gH e.l g.left) rfl be ?_;refine az ?_;refine aB 34 (v':=.bool false) rfl (M8 Value.bool (by rw[aV a.1];rfl))<|bX [6] ?_
  (first|refine ae [6] (ad 0 rfl) rfl ?_|refine ae [6] (ad 1 rfl) rfl ?_|refine ae [6] (ad 2 rfl) rfl ?_|refine ae [6] (ad 3 rfl) rfl ?_|refine ae [6] (ad 4 rfl) rfl ?_|refine ae [6] (ad 5 rfl) rfl ?_|refine ae [6] (ad 6 rfl) rfl ?_|refine ae [6] (ad 7 rfl) rfl ?_)
  refine bX [6] ?_
  (first|refine ae [6] (ad 0 rfl) rfl ?_|refine ae [6] (ad 1 rfl) rfl ?_|refine ae [6] (ad 2 rfl) rfl ?_|refine ae [6] (ad 3 rfl) rfl ?_|refine ae [6] (ad 4 rfl) rfl ?_|refine ae [6] (ad 5 rfl) rfl ?_|refine ae [6] (ad 6 rfl) rfl ?_|refine ae [6] (ad 7 rfl) rfl ?_)
  refine bj [6] (gH e.r g.right) rfl rfl rfl rfl aW be aE<|jP ?_;refine bX [6] ?_;refine aB 41 (v':=.bool false) rfl (M8 Value.bool (by rw[aV a.2];rfl))<|ah<|bu rfl (ag ?_);refine ao ?_;refine⟨k+1,[1,2],⟨?_,rfl,rfl,rfl,be⟩,ab,rfl,aa,aa⟩;refine fJ ?_;rw[cv aa];rfl
 ·exact jV
def dO(g:Gr):aR:=⟨2+g.left+g.right,1,2,((List.range g.left.toNat).map λ (i:Nat)=>(⟨1,3+i,1⟩:eq))++(g.edges.map λ e=>(⟨2+e.l,2+g.left+e.r,1⟩:eq))++((List.range g.right.toNat).map λ (i:Nat)=>(⟨3+g.left+i,2,1⟩:eq))⟩
theorem rz{α:Type}(f:α->eq)(h:∀ x,(f x).cap=1):∀ l:List α,((l.map f).map (·.cap)).sum=l.length
 |[]=>rfl
 |x::l=>by simp only[Ns,NC,rz f h l,h,Nf];omega
theorem qK(g:Gr):(dO g).arcs.length=g.left.toNat+g.edges.length+g.right.toNat:=by simp[dO];omega
theorem FG{g:Gr}:∀ a∈(dO g).arcs,a.cap=1:=by
 intro a b
 rcases Nm.1 b with b|b
 ·rcases Nm.1 b with b|b
  ·obtain⟨i,_,rfl⟩:=NB.1 b;rfl
  ·obtain⟨e,_,rfl⟩:=NB.1 b;rfl
 ·obtain⟨i,_,rfl⟩:=NB.1 b;rfl
theorem mp{g:Gr}(c:g.Right):(dO g).Right:=by
 have d:=c.left;have f:=c.right;have h:=c.len;have hl:=qK g;refine⟨by show 2<=2+g.left+g.right/\2+g.left+g.right<=500;omega,by show 1<=1/\1<=2+g.left+g.right;omega,by show 1<=2/\2<=2+g.left+g.right;omega,by show (1:Int)≠2;decide,aa,λ a b=>?_,?_⟩
 ·show (1<=a.fr/\a.fr<=2+g.left+g.right)/\(1<=a.to/\a.to<=2+g.left+g.right)/\0<=a.cap
  rcases Nm.1 b with b|b
  ·rcases Nm.1 b with b|b
   ·obtain⟨i,hi,rfl⟩:=NB.1 b;have:=N4.1 hi;simp only;omega
   ·obtain⟨e,he,rfl⟩:=NB.1 b;have:=c.edge e he;simp only;omega
  ·obtain⟨i,hi,rfl⟩:=NB.1 b;have:=N4.1 hi;simp only;omega
 ·have:((dO g).arcs.map (·.cap)).sum=(dO g).arcs.length:=by
   show ((_++_++_:List eq).map (·.cap)).sum=_;rw[NJ,NJ,Pg,Pg,rz _ aE,rz _ aE,rz _ aE,qK];simp
  rw[this];omega
structure ed (g:Gr) (l:LI_):Prop where
 rise:l.Pairwise (·<·)
 rng:∀ x∈l,0<=x/\x<g.edges.length
 apart:l.Pairwise λ x y=>∀ a b,g.edges[x.toNat]?=some a->g.edges[y.toNat]?=some b->a.l≠b.l/\a.r≠b.r
theorem ed.snoc{g:Gr}{l:LI_}{x:Int}{e:np}(he:g.edges[x.toNat]?=some e):ed g (l++[x])↔ed g l/\(∀ y∈l,y<x)/\0<=x/\x<g.edges.length/\∀ y∈l,∀ a,g.edges[y.toNat]?=some a->a.l≠e.l/\a.r≠e.r:=by
 constructor
 ·intro h;obtain⟨d,_,f⟩:=Oc.1 h.rise;obtain⟨k1,_,m⟩:=Oc.1 h.apart;have k:=h.rng x ai;exact⟨⟨d,λ y c=>h.rng y (by simp[c]),k1⟩,λ y c=>f y c x ai,k.1,k.2,λ y c a i=>m y c x ai a e i he⟩
 ·rintro⟨h,d,n,f,o⟩;refine⟨rt h.rise d,λ y c=>?_,?_⟩
  ·rcases Nm.1 c with c|c
   ·exact h.rng y c
   ·rw[Nh.1 c];exact⟨n,f⟩
  ·rw[Oc];refine⟨h.apart,OQ _ _,λ y c z p a b i j=>?_⟩;rw[Nh.1 p,he] at j;simp only[Na] at j;rw[<- j];exact o y c a i
theorem ed.pre{g:Gr}{l m:LI_}(h:ed g (l++m)):ed g l:=
 ⟨(Oc.1 h.rise).1,λ y a=>h.rng y (by simp[a]),(Oc.1 h.apart).1⟩
def ky(g:Gr)(side:np->Int)(n:Nat)(l:LI_):LB_:=l.foldl (λ m x=>match g.edges[x.toNat]? with|some e=>m.set (side e).toNat true|none=>m) (List.replicate n false)
theorem u9(g:Gr)(side:np->Int)(n:Nat)(l:LI_)(x:Int){e:np}(he:g.edges[x.toNat]?=some e):ky g side n (l++[x])=(ky g side n l).set (side e).toNat true:=by
 unfold ky;rw[O4,OF,List.foldl_nil,he]
theorem jz(g:Gr)(side:np->Int)(n:Nat)(l:LI_):(ky g side n l).length=n:=by
 unfold ky
 have key:∀ (l:LI_) (m:LB_),m.length=n->(l.foldl (λ m x=>match g.edges[x.toNat]? with|some e=>m.set (side e).toNat true|none=>m) m).length=n:=by
  intro l
  induction l with
  |nil=>exact λ m h=>h
  |cons x l a=>
   intro m h;rw[OF];refine a _ ?_;split
   ·rw[NQ];exact h
   ·exact h
 exact key l _ ai
theorem nM(g:Gr)(side:np->Int)(n v:Nat)(j:v<n):∀ (l:LI_) (m:LB_),m.length=n->(∀ x∈l,∀ e,g.edges[x.toNat]?=some e->0<=side e)->
 ((l.foldl (λ m x=>match g.edges[x.toNat]? with|some e=>m.set (side e).toNat true|none=>m) m)[v]?=some true↔m[v]?=some true\/∃ x∈l,∃ e,g.edges[x.toNat]?=some e/\side e=v)
 |[],m,_,_=>by simp
 |x::l,m,hm,h=>by
  rw[OF]
  cases he:g.edges[x.toNat]? with
  |none=>
   simp only;rw[nM g side n v j l m hm λ y b=>h y (by simp[b])];refine or_congr Iff.rfl ⟨λ ⟨y,b,e,c,d⟩=>⟨y,by simp[b],e,c,d⟩,λ ⟨y,b,e,c,d⟩=>?_⟩
   rcases Nl.1 b with rfl|b
   ·rw[he] at c;cases c
   ·exact⟨y,b,e,c,d⟩
  |some e=>
   simp only;have k:=h x ai e he;rw[nM g side n v j l _ (by rw[NQ];exact hm) λ y b=>h y (by simp[b])];by_cases f:side e=v
   ·have i:(side e).toNat=v:=by omega
    rw[i,No aa];exact⟨λ _=>.inr ⟨x,ai,e,he,f⟩,λ _=>.inl rfl⟩
   ·have i:(side e).toNat≠v:=by omega
    rw[Nq i];refine or_congr Iff.rfl ⟨λ ⟨y,b,a,c,d⟩=>⟨y,by simp[b],a,c,d⟩,λ ⟨y,b,a,c,d⟩=>?_⟩
    rcases Nl.1 b with rfl|b
    ·rw[he] at c;simp only[Na] at c;rw[<- c] at d;exact absurd d f
    ·exact⟨y,b,a,c,d⟩
theorem uS(g:Gr)(side:np->Int)(n:Nat)(l:LI_)(v:Nat)(a:v<n)(b:∀ x∈l,∀ e,g.edges[x.toNat]?=some e->0<=side e):(ky g side n l)[v]?=some true↔∃ x∈l,∃ e,g.edges[x.toNat]?=some e/\side e=v:=by
 unfold ky;rw[nM g side n v a l _ ai b,Nt,if_pos a];simp
def sP(l:LI_)(k:Nat):Int:=((-1:Int)::l)[k]?.getD (-1)
theorem mD{l:LI_}{k:Nat}{x:Int}(a:l[k]?=some x):sP l (k+1)=x:=by
 unfold sP;rw[N8,a];rfl
theorem F7{l:LI_}{k:Nat}(_h:(l.take k).Pairwise (·<·))(b:k<=l.length)(c:0<=sP l k):sP l k∈l.take k:=by
 cases k with
 |zero=>exact absurd (show 0<=(-1:Int) from c) ab
 |succ k=>
  have a:l[k]?=some l[k]:=an b;rw[mD a,Nv,a];exact Ph _ (Nh.2 rfl)
theorem In{g:Gr}{l:LI_}{k:Nat}(h:∀ x∈l.take k,0<=x/\x<g.edges.length)(b:k<=l.length):-1<=sP l k:=by
 cases k with
 |zero=>exact Ov _
 |succ k=>
  have a:l[k]?=some l[k]:=an b;rw[mD a];have:=h l[k] (by rw[Nv,a];exact Ph _ (Nh.2 rfl));omega
theorem AH{l:LI_}{k:Nat}(h:(l.take k).Pairwise (·<·))(c:k<=l.length):∀ y∈l.take k,y<=sP l k:=by
 intro y a
 cases k with
 |zero=>simp at a
 |succ k=>
  have b:l[k]?=some l[k]:=an c;rw[mD b];rw[Nv,b] at a h
  rcases Nm.1 a with a|a
  ·have:=(Oc.1 h).2.2 y a l[k] ai;omega
  ·have:y=l[k]:=by simpa using a
   omega
theorem EG(g:Gr)(z:g.Right)(A:OA_)(c b o:Nat)(hA:g.edges≠[]->A=some ⟨b,o,none⟩)(l:LI_)(hl:l.length<=100000)(P:∀ x∈l,b9 x)(L:OA_)(Q bl ol:Nat)(hL:l≠[]->L=some ⟨bl,ol,none⟩):
 Fn 154 [xj g A c,.slice L l.length Q] [] [.seg b o (fL g.edges),.seg bl ol (aj l)] λ v H'=>v=.bool (dU (ed g l))/\H'=[]:=by
 have N:=z.left;have h2:=z.right;have h3:=z.len;obtain⟨nl,hv⟩:∃ n:Nat,g.left=n:=⟨g.left.toNat,aa⟩;obtain⟨nr,hr⟩:∃ n:Nat,g.right=n:=⟨g.right.toNat,aa⟩;have i:∀ (s:np->Int),(∀ e∈g.edges,0<=s e)->∀ (k:Nat) x,x∈l.take k->∀ e,g.edges[x.toNat]?=some e->0<=s e:=λ s hs k x _ e he=>hs e (M9 he);refine aT Tryz.func154 λ w0=>?_;refine bA ?_;refine dh (cs:=rE g A c) λ p=>?_;refine fR ?_;refine bh (v:=xj g A c) 0 ?_;refine cH (wJ g z A c b o hA) rfl ⟨bx 1 rfl,be⟩ ?_;refine aN ?_;refine ak rfl (λ h=>absurd rfl h) (λ _=>ag ?_)
 refine iB (σ:=Nat×Nat) (λ s=>[(5,ax s.1 0 (nl+1) (nl+1)),(6,ax s.2 0 (nr+1) (nr+1)),(2,ap p 0),(1,.slice L l.length Q)])
  (λ s=>[.own (ax s.1 0 (nl+1) (nl+1)) 4 1 (nl+1) (dK (List.replicate (nl+1) false)),.own (ax s.2 0 (nr+1) (nr+1)) 4 1 (nr+1) (dK (List.replicate (nr+1) false)),blk p 178 (rE g A c),.seg b o (fL g.edges),.seg bl ol (aj l)]) ?_ ?_
 ·refine lz (Sf:=[blk p 178 (rE g A c),.seg b o (fL g.edges),.seg bl ol (aj l)])<|jY [0,1,2,4,5,6] bC [0,1,2] ab rfl<|i1 ?_;refine i1 ?_;refine a6 ?_;refine cP<|mw 16 (v':=af ((nl+1:Nat):Int)) rfl (M8 (Value.int .i64) ((cv (n:=g.left+1) aa).trans aa))<|mw 20 (v':=af ((nr+1:Nat):Int)) rfl (M8 (Value.int .i64) ((cv (n:=g.right+1) aa).trans aa))<|?_
  (repeat' (first|exact be|refine av 3 [7] bC ab ?_|refine av 7 [8] bC ab ?_|refine av 3 [9] bC ab ?_|refine av 8 [9] bC ab ?_|refine av 3 [] bC ab ?_|refine av 7 [] bC ab ?_|refine av 8 [] bC ab ?_|refine av 9 [] bC ab ?_|refine⟨⟨_,rfl,?_⟩,?_⟩|refine cY (n:=nl+1) (c:=nl+1) rfl rfl rfl rfl rfl rfl aa aa aa aE λ go=>?_|refine cY (n:=nr+1) (c:=nr+1) rfl rfl rfl rfl rfl rfl aa aa aa aE λ go=>?_|refine bZ [1,2,3] ?_|refine bZ [2,3,4] ?_|refine c8 [] rfl ⟨⟨[1,2,3],ab,rfl⟩,?_⟩|refine c8 [] rfl ⟨⟨[2,3,4],ab,rfl⟩,?_⟩|refine fb bC ⟨(_,_),a8,?_⟩))
  all_goals rw[show made [Value.bool false] ((nl+1)*1)=dK (List.replicate (nl+1) false) by rw[db,NR];simp[dK],show made [Value.bool false] ((nr+1)*1)=dK (List.replicate (nr+1) false) by rw[db,NR];simp[dK]]
  all_goals (first|exact aw.picks [0,1,2,3,4] ab rfl|exact aw.picks [1,0,2,3,4] ab rfl)
 ·rintro⟨p5,p6⟩;have R:∀ k,∀ x∈l.take k,∀ e,g.edges[x.toNat]?=some e→0≤e.l:=i (·.l) fun e he=>by have:=(z.edge e he).1;omega
  have S:∀ k,∀ x∈l.take k,∀ e,g.edges[x.toNat]?=some e->0<=e.r:=i (·.r) λ e he=>by have:=(z.edge e he).2;omega
  refine cW ?_;refine jb ?_
  refine bS (σ:=Nat) (λ k=>[(24,af k),(23,af l.length),(22,.slice L l.length Q),(7,af (sP l k)),(5,ax p5 0 (nl+1) (nl+1)),(6,ax p6 0 (nr+1) (nr+1)),(2,ap p 0)])
   (λ k=>[.own (ax p5 0 (nl+1) (nl+1)) 4 1 (nl+1) (dK (ky g (·.l) (nl+1) (l.take k))),.own (ax p6 0 (nr+1) (nr+1)) 4 1 (nr+1) (dK (ky g (·.r) (nr+1) (l.take k))),blk p 178 (rE g A c),.seg b o (fL g.edges),.seg bl ol (aj l)])
   (λ k=>k<=l.length/\ed g (l.take k)) (λ k=>l.length-k) 0 [0,1,2,3,4] a8 ab rfl ⟨Nk _,⟨ai,ai,ai⟩⟩ ?_
  rintro k ⟨U,hM⟩;refine ao ?_;refine am (ak rfl (λ hlt=>ag ?_) (λ hb=>aO ?_))
  ·have hlt:k<l.length:=by omega
   obtain rfl:=hL (by intro V;rw[V] at hlt;simp at hlt);obtain⟨x,O⟩:∃ x,l[k]?=some x:=⟨l[k],an hlt⟩;have hz:=P x (M9 O);have B:l.take (k+1)=l.take k++[x]:=by rw[Nv,O];rfl
   have f:ed g l->ed g (l.take k++[x]):=λ h=>by rw[<- B];exact ed.pre (m:=l.drop (k+1)) (by rw[Oh];exact h)
   refine am (au ?_);refine jc ?_;refine aG (a7 4 rfl rfl (bq O)) ?_;refine ew ?_;by_cases hle:x<=sP l k
   ·refine d7 31 rfl hle<|cX [3] ?_;refine eP ?_;refine aL [] ⟨_,rfl,?_,rfl⟩;refine (M8 Value.bool (aZ λ h=>?_)).symm;have h5:=f h;have h6:=(h5.rng x ai).1;have h7:=F7 hM.rise U aa;have:=(Oc.1 h5.rise).2.2 _ h7 x ai;omega
   refine dD 31 rfl hle<|dY ?_
   (first|refine ae [3] (ad 0 rfl) rfl ?_|refine ae [3] (ad 1 rfl) rfl ?_|refine ae [3] (ad 2 rfl) rfl ?_|refine ae [3] (ad 3 rfl) rfl ?_|refine ae [3] (ad 4 rfl) rfl ?_|refine ae [3] (ad 5 rfl) rfl ?_|refine ae [3] (ad 6 rfl) rfl ?_|refine ae [3] (ad 7 rfl) rfl ?_)
   refine dY ?_;refine ah<|ak rfl (λ hR=>?_) (λ hq=>ag ?_)
   ·refine ao ?_;refine aL [] ⟨_,rfl,?_,rfl⟩;refine (M8 Value.bool (aZ λ h=>?_)).symm;have:=((f h).rng x ai).2;omega
   have hf:0<=x:=by have:=In hM.rng U;omega
   obtain⟨m,hm⟩:∃ m:Nat,x=m:=⟨x.toNat,aa⟩;subst hm;have j:m<g.edges.length:=aa;obtain⟨e,he⟩:∃ e,g.edges[m]?=some e:=⟨g.edges[m],an j⟩;have hn:=z.edge e (M9 he);have C:g.edges[((m:Nat):Int).toNat]?=some e:=by rw[Nz];exact he
   obtain⟨D,I⟩:∃ n:Nat,e.l=n:=⟨e.l.toNat,aa⟩;obtain⟨E,u⟩:∃ n:Nat,e.r=n:=⟨e.r.toNat,aa⟩;have q:D<nl+1:=aa;have t:E<nr+1:=aa;have d:=ed.snoc (l:=l.take k) C;have X:∃ bl,(ky g (·.l) (nl+1) (l.take k))[D]?=some bl:=⟨_,an (by rw[jz];exact q)⟩;have Y:∃ br,(ky g (·.r) (nr+1) (l.take k))[E]?=some br:=⟨_,an (by rw[jz];exact t)⟩;obtain⟨bL,F⟩:=X;obtain⟨bR,H⟩:=Y;have K:=uS g (·.l) (nl+1) (l.take k) D q (R k);have M:=uS g (·.r) (nr+1) (l.take k) E t (S k);obtain rfl:=hA (by intro V;rw[V] at j;simp at j);refine aI ?_
   (first|refine ae [] (ad 0 rfl) rfl ?_|refine ae [] (ad 1 rfl) rfl ?_|refine ae [] (ad 2 rfl) rfl ?_|refine ae [] (ad 3 rfl) rfl ?_|refine ae [] (ad 4 rfl) rfl ?_|refine ae [] (ad 5 rfl) rfl ?_|refine ae [] (ad 6 rfl) rfl ?_|refine ae [] (ad 7 rfl) rfl ?_)
   refine az ?_;refine aG (j9 rfl j) ?_;refine aG (a7 3 rfl rfl (kr he)) ?_;refine dM λ p4=>?_;refine mU ?_;refine aI ?_
   (first|refine ae [] (ad 0 rfl) rfl ?_|refine ae [] (ad 1 rfl) rfl ?_|refine ae [] (ad 2 rfl) rfl ?_|refine ae [] (ad 3 rfl) rfl ?_|refine ae [] (ad 4 rfl) rfl ?_|refine ae [] (ad 5 rfl) rfl ?_|refine ae [] (ad 6 rfl) rfl ?_|refine ae [] (ad 7 rfl) rfl ?_)
   refine aB 45 (v':=af (D:Int)) rfl (M8 (Value.int .i64) I)<|aG (bG rfl q) ?_;refine aG (aA 1 rfl rfl rfl (show (dK _)[D]?=some (.bool bL) from iC F)) ?_;refine az ?_
   cases bL with
   |true=>
    refine cX [5] ?_;refine eP ?_;refine aL [] ⟨_,rfl,?_,rfl⟩;refine (M8 Value.bool (aZ λ h=>?_)).symm;obtain⟨y,w,a,N,h2⟩:=K.1 F;exact ((d.1 (f h)).2.2.2.2 y w a N).1 aa
   |false=>
   refine bX [5] ?_
   (first|refine ae [5] (ad 0 rfl) rfl ?_|refine ae [5] (ad 1 rfl) rfl ?_|refine ae [5] (ad 2 rfl) rfl ?_|refine ae [5] (ad 3 rfl) rfl ?_|refine ae [5] (ad 4 rfl) rfl ?_|refine ae [5] (ad 5 rfl) rfl ?_|refine ae [5] (ad 6 rfl) rfl ?_|refine ae [5] (ad 7 rfl) rfl ?_)
   refine aB 51 (v':=af (E:Int)) rfl (M8 (Value.int .i64) u)<|ae [5] (bG rfl t) rfl<|ae [5] (aA 2 rfl rfl rfl (show (dK _)[E]?=some (.bool bR) from iC H)) rfl<|cX [5] ?_
   cases bR with
   |true=>
    refine eP ?_;refine aL [] ⟨_,rfl,?_,rfl⟩;refine (M8 Value.bool (aZ λ h=>?_)).symm;obtain⟨y,w,a,N,h2⟩:=M.1 H;exact ((d.1 (f h)).2.2.2.2 y w a N).2 aa
   |false=>
   refine bu rfl (ag ?_);refine cA ?_
   have Z:ed g (l.take (k+1)):=by
    rw[B,d];refine⟨hM,λ y w=>?_,aa,aa,λ y w a ha=>⟨λ h=>?_,λ h=>?_⟩⟩
    ·have:=AH hM.rise U y w;omega
    ·have:=K.2 ⟨y,w,a,ha,by show a.l=_;omega⟩;rw[F] at this;cases this
    ·have:=M.2 ⟨y,w,a,ha,by show a.r=_;omega⟩;rw[H] at this;cases this
   refine bK 12 (dS [0,1,2,3,4,5,6,7]++[(8,false)]++dS [9]++[(10,false)]++dS [11]) [0,3,4,5] aW ab rfl<|i1 ?_;refine i1 ?_;refine dG 57 (v':=af (D:Int)) rfl (M8 (Value.int .i64) I)<|dG 60 (v':=af (E:Int)) rfl (M8 (Value.int .i64) u)<|a6 ?_;refine bc rfl (bG rfl q) ?_;refine cz ?_;refine aY 1 rfl rfl rfl rfl (kt rfl (by rw[jz];omega)) [] rfl<|bZ [0,3,4,5]<|bc rfl (bG rfl t) ?_;refine cz ?_;refine aY 2 rfl rfl rfl rfl (kt rfl (by rw[jz];omega)) [] rfl<|bZ [0,3,4,5]<|a6 ?_;refine cP<|cS ?_;refine⟨k+1,[1,2,3,4,5],⟨?_,rfl,rfl,?_,rfl,rfl,rfl,be⟩,ab,?_,⟨aa,Z⟩,aa⟩
   ·refine fJ ?_;rw[cv aa];rfl
   ·show some (af _)=_;rw[mD O]
   ·rw[B,u9 g (·.l) _ _ _ C,u9 g (·.r) _ _ _ C,show e.l.toNat=D by omega,show e.r.toNat=E by omega];rfl
  ·refine ao ?_;obtain rfl:k=l.length:=aa;rw[NH] at hM;refine aL [] ⟨_,rfl,?_,rfl⟩;exact (M8 Value.bool (aV hM)).symm
end Go.Proofs.YtmcnpaelaieniaaGreatDoor
