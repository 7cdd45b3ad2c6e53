import Derived.Test.YtmcnpaelaieniaaGreatDoorQX114
/- A part of the proof. -/
set_option linter.unusedVariables false
set_option linter.unusedSimpArgs false
set_option maxHeartbeats 8000000
namespace Go.Proofs.YtmcnpaelaieniaaGreatDoor
open Go.RowKit
open Lib
theorem fS(V:LibV)(ws:List (LU_))(hw:∀ x∈ws,x.length<=10000000)(D:ws.length<=10000000)(B:OA_)(n s f i:Nat)(t:ws≠[]->B=some ⟨f,i,none⟩)(l:n=ws.length):
 Fn 63 [.slice B n s] [] ([.seg f i (cv ws)]++V.heap) λ v H'=>∃ (A:OA_) (c:Nat),v=.tuple #[.slice A (aJ ws).1.length c,.bool (i7 ws)]/\H'=[.own (.slice A (aJ ws).1.length c) 2 1 (aJ ws).1.length (aj (aJ ws).1)]:=by
 subst l;refine aT Tryz.func63 λ w0=>?_;refine c9 ?_;refine cX (n:=ws.length) (c:=ws.length) rfl rfl rfl rfl rfl rfl aa aa aa aK λ g=>?_;rw[show made [af 0] (ws.length*1)=aj (List.replicate ws.length 0) by rw[c8,NT];simp[aj]];refine cR ?_;refine aq ?_
 refine bP (σ:=Nat) (λ k=>[(14,af k),(13,af ws.length),(12,.slice B ws.length s),(4,ax g 0 ws.length ws.length)]) (λ k=>[.own (ax g 0 ws.length ws.length) 2 1 ws.length (aj ((ws.take k).map (λ w=>(dA w).1)++List.replicate (ws.length-k) 0)),.seg f i (cv ws)]++V.heap)
  (λ k=>k<=ws.length/\∀ j x,j<k->ws[j]?=some x->(dA x).2=0) (λ k=>ws.length-k) 0 [0,1,2,3,4] a7 ab rfl ⟨Nl _,λ j x h=>by omega⟩ ?_
 rintro k ⟨E,a⟩;refine ao ?_;refine am (ak rfl (λ u=>ag ?_) (λ z=>aO ?_))
 ·have hlt':k<ws.length:=by omega
  obtain⟨x,hx⟩:∃ x,ws[k]?=some x:=⟨ws[k],be hlt'⟩;obtain rfl:=t (by rintro rfl;simp at hlt');have C:=hw x (Nb hx);refine am (aq ?_);refine GW ?_;refine ak rfl (λ he=>?_) (λ he=>ag ?_)
  ·have b:=oJ hx a he;refine ao ?_;refine bX 2 1<|aM [0] ⟨_,rfl,none,0,?_,?_⟩
   ·rw[b,show i7 ws=false from OB (by rw[b];exact he)];rfl
   ·rw[b];rfl
  ·have m:(dA x).2=0:=No.1 he;refine Ii ?_;refine⟨k+1,[0,1,2,3,4],⟨?_,rfl,rfl,rfl,an⟩,ab,?_,⟨aa,λ j y o p=>?_⟩,aa⟩
   ·refine fy ?_;rw[cp aa];rfl
   ·have:((ws.take k).map (λ w=>(dA w).1)++List.replicate (ws.length-k) 0).set k (dA x).1=(ws.take (k+1)).map (λ w=>(dA w).1)++List.replicate (ws.length-(k+1)) 0:=by
     have hl:((ws.take k).map (λ w=>(dA w).1)).length=k:=by rw[Nm,NE];omega
     refine F6 ?_;simp
    rw[<- this];simp only[NR];rfl
   ·by_cases e:j=k
    ·subst e;rw[hx] at p;obtain rfl:=NK p;exact m
    ·exact a j y aa p
 have q:k=ws.length:=aa;subst q
 have d:=rr (ws:=ws) λ w r=>by
  obtain⟨j,o,e⟩:=Pq r;exact a j w o (by rw[be o,e])
 refine xo ?_;refine ao ?_;refine aM [0] ⟨_,rfl,aL g 0,ws.length,?_,?_⟩
 ·rw[d,show i7 ws=true from OR (by rw[d])];simp only[Nm];rfl
 ·rw[d];simp only[Nm]
theorem ft(V:LibV)(f:LU_)(z:f.length<=100)(l:LI_)(hl:∀ n∈l,b7 n)(j:l.length<=100000)(B:OA_)(n i b d:Nat)(o:l≠[]->B=some ⟨b,d,none⟩)(q:n=l.length):
 Fn 69 [dk f,.slice B n i] [] ([.seg b d (aj l)]++V.heap) λ v H'=>v=dk (gD f l)/\H'=[]:=by
 subst q;have r:=fi f l hl;refine aT Tryz.func69 λ w0=>?_;refine c9 ?_;refine dp λ g0=>?_;refine jg ?_;refine cR ?_;refine aq ?_
 refine bP (σ:=Nat×OA_×Nat) (λ s=>[(12,af s.1),(11,af l.length),(10,.slice B l.length i),(5,.slice s.2.1 (f::(l.take s.1).map itoa).length s.2.2)])
  (λ s=>[.own (.slice s.2.1 (f::(l.take s.1).map itoa).length s.2.2) 9 1 (f::(l.take s.1).map itoa).length (cv (f::(l.take s.1).map itoa)),.seg b d (aj l)]++V.heap)
  (λ s=>s.1<=l.length) (λ s=>l.length-s.1) (0,aL g0 0,1) [0,1,2,3,4] a7 ab rfl (Nl _) ?_
 rintro⟨k,A,c⟩ t;simp only at t ⊢;refine ao ?_;refine am (ak rfl (λ u=>ag ?_) (λ w=>aO ?_))
 ·have hlt':k<l.length:=by omega
  obtain⟨x,e⟩:∃ x,l[k]?=some x:=⟨l[k],be hlt'⟩;obtain rfl:=o (by rintro rfl;simp at hlt');have hxB:=hl x (Nb e);have hlen:(f::(l.take k).map itoa).length=k+1:=by rw[Nh,Nm,NE];omega
  refine am (aq ?_);refine wu ?_;refine aF (aZ 1 rfl rfl (bI e)) ?_;refine BQ ?_;refine dp λ g2=>?_;refine bx (n:=(f::(l.take k).map itoa).length) (m:=1) (off:=0) (news:=cv [itoa x]) 1 0 rfl rfl rfl rfl rfl rfl ab rfl rfl (aS g2 _ _ (0,0)) aK rfl rfl aa aa (λ _ _=>rfl) λ y c2=>cR ?_;have a:f::(l.take (k+1)).map itoa=(f::(l.take k).map itoa)++[itoa x]:=by rw[Nu,e];simp
  refine⟨(k+1,y,c2),[1,2,3,4,5],⟨?_,rfl,rfl,?_,an⟩,ab,?_,by simp only;omega,by simp only;omega⟩
  ·refine fy ?_;rw[cp aa];rfl
  ·simp only[a];rw[Nj];rfl
  ·simp only[a];rw[Nj,show cv ((f::(l.take k).map itoa)++[itoa x])=cv (f::(l.take k).map itoa)++cv [itoa x] by simp[cv]];rfl
 obtain rfl:k=l.length:=aa;refine aR (aH 0 rfl) (λ ho=>?_);obtain⟨g,rfl⟩:=ho.2.2.1 ai;rw[NH] at*;exact Gt
theorem pK{l:LI_}{k:Nat}{x:Int}(a:l[k]?=some x):(l.take k++List.replicate (l.length-k) 0).set k x=l.take (k+1)++List.replicate (l.length-(k+1)) 0:=by
 have b:k<l.length:=(Ng.1 a).1;have hl:(l.take k).length=k:=by rw[NE];omega
 rw[OF _ _ aa,hl,OE,Nu,a,show l.length-k=(l.length-(k+1))+1 by omega,Oo,OW];simp
theorem Ih(l:LI_)(hl:l.length<=100000)(B:OA_)(n d a b:Nat)(f:l≠[]->B=some ⟨a,b,none⟩)(i:n=l.length):
 Fn 68 [.slice B n d] [] [.seg a b (aj l)] λ v H'=>∃ g:Nat,v=.slice (some ⟨g,0,none⟩) l.length l.length/\H'=[.own (.slice (some ⟨g,0,none⟩) l.length l.length) 3 1 l.length (aj l)]:=by
 subst i;refine aT Tryz.func68 λ w0=>?_;refine c9 ?_;refine cX (n:=l.length) (c:=l.length) rfl rfl rfl rfl rfl rfl aa aa aa aK λ g=>?_;rw[oS];refine qg ?_
 refine bP (σ:=Nat) (λ k=>[(11,af k),(10,af l.length),(9,.slice B l.length d),(3,ax g 0 l.length l.length)]) (λ k=>[.own (ax g 0 l.length l.length) 3 1 l.length (aj (l.take k++List.replicate (l.length-k) 0)),.seg a b (aj l)])
  (λ k=>k<=l.length) (λ k=>l.length-k) 0 [0,1] a7 ab rfl (Nl _) ?_
 rintro k o;refine ao ?_;refine am (ak rfl (λ j=>ag ?_) (λ m=>aO ?_))
 ·have hlt':k<l.length:=by omega
  obtain⟨x,e⟩:∃ x,l[k]?=some x:=⟨l[k],be hlt'⟩;obtain rfl:=f (by rintro rfl;simp at hlt');refine am (aq ?_);refine wu ?_;refine aF (aZ 1 rfl rfl (bQ e)) ?_;refine dQ ?_;refine aF (gq rfl hlt') ?_;refine AU ?_;refine cR ?_;refine⟨k+1,[0,1],⟨Na (λ z=>some (af z)) (cp aa),rfl,rfl,rfl,an⟩,ab,?_,aa,aa⟩;rw[<- pK e];simp only[NR];rfl
 obtain rfl:k=l.length:=aa;refine xo ?_;refine ao ?_;exact aM [0] ⟨_,rfl,g,rfl,rfl⟩
theorem xb(V:LibV)(w:LU_)(hw:w.length<=100)(l:LI_)(hi:∀ n∈l,b7 n)(hl:l.length<=100000)(B:OA_)(n d a b:Nat)(f:l≠[]->B=some ⟨a,b,none⟩)(i:n=l.length):
 Fn 101 [dk w,.slice B n d] [] ([.seg a b (aj l)]++V.heap) λ v H'=>v=dk (gD w l)/\H'=[]:=by
 subst i;refine aT Tryz.func101 λ w0=>?_;refine c9 ?_;refine cX (n:=l.length) (c:=l.length) rfl rfl rfl rfl rfl rfl aa aa aa aK λ g=>?_;rw[oS];refine qg ?_
 refine bP (σ:=Nat) (λ k=>[(13,af k),(12,af l.length),(11,.slice B l.length d),(5,ax g 0 l.length l.length),(0,dk w)]) (λ k=>[.own (ax g 0 l.length l.length) 2 1 l.length (aj (l.take k++List.replicate (l.length-k) 0)),.seg a b (aj l)]++V.heap)
  (λ k=>k<=l.length) (λ k=>l.length-k) 0 [0,1,2,3,4] a7 ab rfl (Nl _) ?_
 rintro k o;refine ao ?_;refine am (ak rfl (λ j=>ag ?_) (λ m=>aO ?_))
 ·have hlt':k<l.length:=by omega
  obtain⟨x,e⟩:∃ x,l[k]?=some x:=⟨l[k],be hlt'⟩;obtain rfl:=f (by rintro rfl;simp at hlt');refine am (aq ?_);refine wu ?_;refine aF (aZ 1 rfl rfl (bI e)) ?_;refine dQ ?_;refine aF (gq rfl hlt') ?_;refine AU ?_;refine cR ?_;refine⟨k+1,[0,1,2,3,4],⟨Na (λ z=>some (af z)) (cp aa),rfl,rfl,rfl,rfl,an⟩,ab,?_,aa,aa⟩;rw[<- pK e];simp only[NR];rfl
 obtain rfl:k=l.length:=aa;refine xo ?_;refine aI ?_;refine cj (ft V w hw l hi hl (aL g 0) l.length l.length g 0 aK rfl) rfl ⟨fX 0 rfl ca (.inr rfl),⟨2,ai,rfl⟩,⟨3,ai,rfl⟩,⟨4,ai,rfl⟩,an⟩ ?_;exact lG
def Lp(A:OA_)(c:Nat)(o:List cP):aY:=.own (.slice A o.length c) 9 1 o.length (cv o)
def GL(o:List cP)(v:Value)(H':Heap):Prop:=∃ (A:OA_) (c:Nat),v=.slice A o.length c/\H'=[Lp A c o]
theorem DM:Fn 72 [] [] [] (GL eL):=by
 refine aT Tryz.func72 λ w0=>?_;refine c9 ?_;refine dp λ g=>?_;refine jg ?_;refine aN ?_;exact aM [0] ⟨_,rfl,aL g 0,1,rfl,rfl⟩
theorem jA(V:LibV)(e:Int)(he:b7 e)(A:OA_)(n c:Nat):Fn 65 [.int .i64 e,.slice A n c] [] V.heap λ v H'=>(e=0/\v=.slice A n c/\H'=[])\/(e≠0/\GL (jX e) v H'):=by
 refine aT Tryz.func65 λ w0=>?_;refine ja ?_;refine ak rfl (λ a=>?_) (λ a=>ag ?_)
 ·refine aI ?_;refine dp λ g=>?_;refine cj (ft V xc ab [e] (λ x b=>by rw[Ni.1 b];exact he) ai (aL g 0) 1 1 g 0 aK rfl) rfl ⟨ew 0 rfl,⟨1,ai,rfl⟩,⟨2,ai,rfl⟩,⟨3,ai,rfl⟩,an⟩ ?_;refine dp λ g2=>?_;refine jg ?_;refine aN ?_;exact aM [0] ⟨_,rfl,.inr ⟨a,aL g2 0,1,rfl,rfl⟩⟩
 ·refine ao ?_;exact aM [] ⟨_,rfl,.inl ⟨No.1 a,rfl,rfl⟩⟩
def E0(N:aV)(v:Int)(k:Nat):LN_:=(List.range k).filter (vI N v)
theorem ER{N:aV}{v:Int}{k:Nat}{a:ej}(h:N.arcs[k]?=some a):E0 N v (k+1)=E0 N v k++(if a.fr=v then [k] else []):=by
 unfold E0;rw[OY,Ps]
 congr 1
 unfold vI;simp only[OJ,List.filter_nil,h,NX]
theorem Gf(N:aV)(v:Int)(k:Nat):(E0 N v k).length<=k:=by
 have:=OD (vI N v) (List.range k);rw[Ot] at this;exact this
def rE(its:List (Int×fg×Int)):LV_:=(its.map λ x=>[Value.int .u8 x.1,cT x.2.1,Value.int .i64 x.2.2]).flatten
theorem J8(its:List (Int×fg×Int))(x:Int×fg×Int):rE its++[Value.int .u8 x.1,cT x.2.1,Value.int .i64 x.2.2]=rE (its++[x]):=by simp[rE]
section
variable {X:Cx}
theorem ay.mid3{A A1 b R I:Heap}(ix a:LN_)(c:Proofs.YtmcnpaelaieniaaGreatDoor.cK A ix=some A1)(d:Proofs.YtmcnpaelaieniaaGreatDoor.cK A a=some b)(e:(ix++a).Nodup):ay X (A++(R++I)) ((A1++R)++(b++I)):=
 (ay.mid2 ix a c d e).trans (ay.perm (Pf _ OP))
theorem ay.ret3{A B R I:Heap}:ay X ((A++R)++(B++I)) ((A++B)++(R++I)):=
 (ay.perm (Pf _ OP)).trans ay.ret2
end
def z9(N:aV)(f:LI_)(v:Value)(H':Heap):Prop:=∃ (its:List (Int×fg×Int)) (A':OA_) (c':Nat),its.map (λ x=>(x.1,x.2.1.l,x.2.2))=(lD N ⟨f,dH (N.arcs.zip f) N.snk⟩).map (λ y=>(y.1,y.2.1.map (λ (i:Nat)=>(i:Int)),y.2.2))/\
 v=.tuple #[.slice A' its.length c',.int .i64 0]/\H'=[.own (.slice A' its.length c') 235 3 its.length (rE its)]++its.map λ x=>bd 3 x.2.1
theorem Dw(N:aV)(hN:N.Fits)(hR:N.Right)(A:OA_)(c b o:Nat)(hA:N.arcs≠[]->A=some ⟨b,o,none⟩)(f:LI_)(F:OA_)(cf bf of:Nat)(hF:f≠[]->F=some ⟨bf,of,none⟩)(hf:∀ x∈f,b7 x)(e1:f.length*8<=140737488351232)(g:aD N f)(V:N.arcs≠[]):
 Fn 157 [bZ N A c,.slice F f.length cf] [] [.seg b o (arcs N.arcs),.seg bf of (aj f)] (z9 N f):=by
 have p2:=hR.len;have k0:=hR.nodes;have hlen:=g.len;obtain rfl:=hA V;obtain rfl:=hF (by rintro rfl;simp only[NC] at hlen;exact V (Ny.1 hlen.symm));obtain⟨n,hn⟩:∃ n:Nat,N.nodes=n:=⟨N.nodes.toNat,aa⟩;refine aT Tryz.func157 λ w0=>?_;refine bu ?_;refine cY (cs:=bU N (aL b o) c) λ p=>?_;refine fP ?_;refine bj (v:=bZ N (aL b o) c) 0 ?_;refine az ?_;refine dG (f9 N hN hR (aL b o) c b o hA f (aL bf of) cf bf of hF hf e1) rfl ⟨bz 1 rfl,bz 2 rfl,an⟩ ?_;rintro v H' ⟨⟨rfl,_⟩|⟨_,hW⟩,rfl⟩
 case inr=>exact absurd g hW
 refine dw ?_;obtain⟨vv,hz⟩:∃ vv,vv=dH (N.arcs.zip f) N.snk:=⟨_,rfl⟩;rw[<- hz];refine cR ?_;refine ak rfl (λ h=>absurd rfl h) (λ _=>ag ?_)
 refine iv (σ:=Nat×Nat×Nat×Nat) (λ t=>[(8,ap t.1 0),(2,ap p 0)])
  (λ t=>[blk t.1 256 (pH N (aL b o) c (aL t.2.1 0) f.length t.2.2.1 vv (aL t.2.2.2 0) (n+1) (n+1) 0),.own (ax t.2.2.2 0 (n+1) (n+1)) 23 1 (n+1) ((List.replicate (n+1) en).map cT),.own (ax t.2.1 0 f.length t.2.2.1) 2 1 f.length (aj f),blk p 33 (bU N (aL b o) c),.seg b o (arcs N.arcs)]) ?_ ?_
 ·refine ly (Sf:=[blk p 33 (bU N (aL b o) c)])<|jU [0,1,3,4,5,6] bG [0] ab rfl<|?_
  (repeat' (first|refine eJ (gs:=[999]) rfl rfl ?_|refine aG [999] (v:=bZ N (aL b o) c) rfl (ad 0 rfl) rfl ?_|refine aG [999] (v:=af N.nodes) rfl (ad 0 rfl) rfl ?_))
  refine II ?_;refine av 2 [7] bG ab ⟨⟨_,rfl,?_⟩,⟨_,rfl,?_⟩,an⟩
  ·refine eW (fst:=[]) (cap:=[]) (gW (aL bf of) cf bf of f aK aa) rfl ⟨bz 2 rfl,an⟩ ?_;rintro u H' ⟨Al,z,rfl,rfl⟩;refine eF (aH 0 rfl) λ ⟨_,_,B,hc⟩=>?_;obtain⟨bl,B⟩:=bg B hc;obtain rfl:=B (by intro h0;have:=bY f;rw[h0] at this;simp only[NC] at this;exact V (Ny.1 aa));refine ah ⟨⟨[1],by decide,rfl⟩,?_⟩;refine av 7 [] bG ab ⟨⟨_,rfl,?_⟩,an⟩;refine cX (n:=n+1) (c:=n+1) rfl rfl rfl rfl rfl rfl aa aa aa aK λ go=>?_;rw[show made [Value.slice none 0 0] ((n+1)*1)=(List.replicate (n+1) en).map cT by rw[c8,NT,OI];rfl];refine ah ⟨⟨[2],by decide,rfl⟩,?_⟩;refine av 8 [] bG ab ⟨⟨_,rfl,?_⟩,an⟩;refine fv ?_;refine ah ⟨⟨[2],by decide,rfl⟩,?_⟩;refine av 9 [] bG ab ⟨⟨_,rfl,?_⟩,an⟩;refine cY (cs:=pH N (aL b o) c (aL bl 0) f.length z vv (aL go 0) (n+1) (n+1) 0) λ H=>?_;refine ah ⟨⟨[3],by decide,rfl⟩,?_⟩;refine av 10 [] bG ab ⟨⟨_,rfl,?_⟩,an⟩;refine aN ?_;refine⟨⟨[3],ab,rfl⟩,?_⟩;exact fd bG ⟨(H,bl,z,go),a7,ay.picks [0,1,2,3,4] ab rfl⟩
  ·refine cX (n:=n+1) (c:=n+1) rfl rfl rfl rfl rfl rfl aa aa aa aK λ go=>?_;rw[show made [Value.slice none 0 0] ((n+1)*1)=(List.replicate (n+1) en).map cT by rw[c8,NT,OI];rfl];refine ah ⟨⟨[1],by decide,rfl⟩,?_⟩;refine av 2 [] bG ab ⟨⟨_,rfl,?_⟩,an⟩;refine eW (fst:=[]) (cap:=[]) (gW (aL bf of) cf bf of f aK aa) rfl ⟨bz 3 rfl,an⟩ ?_;rintro u H' ⟨Al,z,rfl,rfl⟩;refine eF (aH 0 rfl) λ ⟨_,_,B,hc⟩=>?_;obtain⟨bl,B⟩:=bg B hc;obtain rfl:=B (by intro h0;have:=bY f;rw[h0] at this;simp only[NC] at this;exact V (Ny.1 aa));refine ah ⟨⟨[2],by decide,rfl⟩,?_⟩;refine av 8 [] bG ab ⟨⟨_,rfl,?_⟩,an⟩;refine fv ?_;refine ah ⟨⟨[2],by decide,rfl⟩,?_⟩;refine av 9 [] bG ab ⟨⟨_,rfl,?_⟩,an⟩;refine cY (cs:=pH N (aL b o) c (aL bl 0) f.length z vv (aL go 0) (n+1) (n+1) 0) λ H=>?_;refine ah ⟨⟨[3],by decide,rfl⟩,?_⟩;refine av 10 [] bG ab ⟨⟨_,rfl,?_⟩,an⟩;refine aN ?_;refine⟨⟨[3],ab,rfl⟩,?_⟩;exact fd bG ⟨(H,bl,z,go),a7,ay.picks [0,2,1,3,4] ab rfl⟩
 rintro⟨H,bl,z,go⟩;refine aI ?_;refine bj (v:=ax b o N.arcs.length c) 3 ?_;refine im ?_;refine bS (ay.nils 3 (n+1)) ?_
 refine cA (σ:=Nat×List fg) (λ s=>[(34,af (s.1:Int)),(33,af (N.arcs.length:Int)),(32,ax b o N.arcs.length c),(8,ap H 0),(2,ap p 0)])
  (λ s=>[blk H 256 (pH N (aL b o) c (aL bl 0) f.length z vv (aL go 0) (n+1) (n+1) 0),.own (ax go 0 (n+1) (n+1)) 23 1 (n+1) (s.2.map cT),.own (ax bl 0 f.length z) 2 1 f.length (aj f),blk p 33 (bU N (aL b o) c),.seg b o (arcs N.arcs)]++s.2.map (bd 3))
  (λ s=>s.1<=N.arcs.length/\s.2.length=n+1/\∀ (v:Nat) (r:fg),s.2[v]?=some r->r.l=(E0 N (v:Int) s.1).map λ (i:Nat)=>(i:Int)) (λ s=>N.arcs.length-s.1)
  (0,List.replicate (n+1) en) a7 ay.refl ⟨Nl _,ai,λ v r h=>?_⟩ ?_
 ·rw[Nw] at h;split at h
  ·simp only[Nc] at h;subst h;rfl
  ·cases h
 rintro⟨k,rows⟩ ⟨hk,L,Y⟩;simp only at hk L Y ⊢;refine ao ?_;refine am (ak rfl (λ hlt=>ag ?_) (λ p8=>aO ?_))
 ·have hlt:k<N.arcs.length:=by omega
  obtain⟨a,ha⟩:∃ a,N.arcs[k]?=some a:=⟨_,be hlt⟩;have k4:=hR.arc a (Nb ha);obtain⟨v,hv⟩:∃ v:Nat,a.fr=v:=⟨a.fr.toNat,aa⟩;have hs:v<rows.length:=aa;obtain⟨row,d⟩:∃ r,rows[v]?=some r:=⟨rows[v],be hs⟩;have hy:=Y v row d;have hG:=Gf N (v:Int) k;have C:row.l.length=(E0 N (v:Int) k).length:=by rw[hy,Nm]
  refine am (aq ?_);refine uh ?_;refine aF (aZ 4 rfl rfl (gU ha)) ?_;refine az ?_;refine dD λ ho=>?_;refine mx ?_;show J _ _ _ _ ([blk ho 37 [af a.fr,af a.to,af a.cap],_,_,_,_,_]++rows.map (bd 3));rw[hv];refine bS (ay.front (i:=v) (c:=bd 3 row) (by rw[Nk,d];rfl)) ?_;refine cq ?_;refine bM 18 (dT [0,1,2,3,4,5,6,7,8,9,10,11,12,13,14]++[(15,false),(16,false)]++dT [17]) [1,2,3] aX ab rfl<|Im ?_;refine Im ?_;refine oo ?_;refine bh rfl (aw (v:=cT row) 2 rfl rfl rfl (show (rows.map cT)[v]?=some (cT row) by rw[Nk,d];rfl)) ?_;refine jI ?_;refine dp λ g2=>?_;refine b6 [2,3,4]<|cz ?_;refine bx (n:=row.l.length) (m:=1) (off:=0) (news:=aj [(k:Int)]) 1 0 rfl rfl rfl rfl rfl rfl ab rfl rfl (aS g2 _ _ (0,0)) aK rfl rfl aa aa (λ _ _=>rfl) λ A2 c2=>Bg ?_;refine HY ?_;refine⟨(k+1,rows.set v ⟨A2,c2,row.l++[(k:Int)]⟩),⟨?_,rfl,rfl,rfl,rfl,an⟩,?_,⟨by simp only;omega,by simp only[NO];omega,λ u q hu=>?_⟩,by simp only;omega⟩
  ·refine fy ?_;rw[cp aa];rfl
  ·simp only[O1];refine ay.trans (ay.sub (NW _ _)) (ay.trans (ay.back (A:=[_,_,_,_,_,_]) (by rw[Nm];exact hs)) (ay.re [1,2,3,4,5] rfl ab))
  ·simp only at hu ⊢;rw[ER ha,NI];by_cases hH:v=u
   ·subst hH;rw[Nq hs] at hu;simp only[Nc] at hu;rw[<- hu,if_pos hv,hy];rfl
   ·rw[Ns hH] at hu;rw[if_neg (λ e=>hH aa),Og,NN];exact Y u q hu
 obtain rfl:k=N.arcs.length:=aa;refine aR (p:=∀ v:Nat,∃ Z:Nat,∀ row,rows[v]?=some row->row.l.length<=row.c/\(aj row.l≠[]->row.A=aL Z 0)) (λ w hw v=>?_) λ D=>?_
 ·cases hv:rows[v]? with
  |none=>exact⟨0,λ row h=>by cases h⟩
  |some row=>
   obtain⟨_,h2,h3,h4⟩:=aH (X:=⟨w0,[],⟨0,[]⟩⟩) (v+5) (show _=some (bd 3 row) by show (rows.map (bd 3))[v]?=_;rw[Nk,hv];rfl) w hw;obtain⟨Z,M⟩:=bg h3 h4;exact⟨Z,λ s3 h=>by simp only[Nc] at h;subst h;exact⟨h2,M⟩⟩
 obtain⟨Z,M⟩:∃ Z:Nat->Nat,∀ (v:Nat) (row:fg),rows[v]?=some row->row.l.length<=row.c/\(aj row.l≠[]->row.A=aL (Z v) 0):=⟨λ v=>Classical.choose (D v),λ v=>Pg (D v)⟩
 clear D
 have c1:tG rows Z (List.replicate (n+1) 0) (rows.map cT):=by
  refine⟨ai,λ v row q hr hq=>?_⟩;rw[Nw] at hq;split at hq
  ·obtain rfl:=NK hq;refine⟨row.A,row.c,by rw[Nk,hr];rfl,(M v row hr).1,λ hlt=>(M v row hr).2 (λ h0=>?_)⟩;have:=bY row.l;rw[h0] at this;simp only[NC] at this;omega
  ·cases hq
 have hS:=zQ.start N f n;have hL:∀ (v:Nat) (row:fg),rows[v]?=some row->row.l=(iE N (v:Int)).map λ (i:Nat)=>(i:Int):=Y;obtain⟨U,O⟩:∃ U:Wk,U=⟨f,vv⟩:=⟨_,rfl⟩
 have q2:U.size<=2001:=by
  have:ql U.left<=U.left.length:=List.countP_le_length;have e:U.left.length=f.length:=by rw[O]
  unfold Wk.size;split<;>omega
 have k3:U.OK N:=by subst O;exact⟨g,hz.symm⟩
 refine jN ?_;refine bX 235 3 ?_
 refine cA (σ:=List (Int×fg×Int)×List (Int×LN_×Int)×Wk×LN_×LV_×Nat×OA_×Nat) (λ s=>[(11,.slice s.2.2.2.2.2.2.1 s.1.length s.2.2.2.2.2.2.2),(8,ap H 0),(2,ap p 0)])
  (λ s=>[.own (.slice s.2.2.2.2.2.2.1 s.1.length s.2.2.2.2.2.2.2) 235 3 s.1.length (rE s.1),blk H 256 (pH N (aL b o) c (aL bl 0) s.2.2.1.left.length z s.2.2.1.val (aL go 0) (n+1) (n+1) (s.2.2.2.2.2.1:Nat)),.own (ax go 0 (n+1) (n+1)) 23 1 (n+1) s.2.2.2.2.1,.own (ax bl 0 s.2.2.1.left.length z) 2 1 s.2.2.1.left.length (aj s.2.2.1.left),blk p 33 (bU N (aL b o) c),.seg b o (arcs N.arcs)]++(rows.map (bd 3)++s.1.map λ x=>bd 3 x.2.1))
  (λ s=>s.2.2.1.OK N/\tG rows Z s.2.2.2.1 s.2.2.2.2.1/\zQ N s.2.2.1.left n s.2.2.2.1/\s.2.2.2.2.2.1<=s.2.2.1.left.length/\(∀ j x,j<s.2.2.2.2.2.1->s.2.2.1.left[j]?=some x->i6 x=false)/\s.1.map (λ x=>(x.1,x.2.1.l,x.2.2))=s.2.1.map (λ y=>(y.1,y.2.1.map (λ (i:Nat)=>(i:Int)),y.2.2))/\s.2.1++lD N s.2.2.1=lD N U/\s.1.length+s.2.2.1.size<=U.size) (λ s=>s.2.2.1.size)
  ([],[],U,List.replicate (n+1) 0,rows.map cT,0,none,0) a7 (by subst O;simp only[Og,NN];exact ay.refl) ⟨k3,c1,by subst O;exact hS,Nl _,λ j x h=>absurd h (Nat.not_lt_zero _),rfl,rfl,ai⟩ ?_
 rintro⟨its,ps,w,pos,vals,k,Ai,ci⟩ ⟨hw,hV,hD,hg,hb,P,h1,hd⟩;simp only at hw hV hD hg hb P h1 hd ⊢;have b2:=hw.flow.len;refine aR (aH 3 rfl) λ ⟨_,hB,_,_⟩=>aI ?_;refine bK (fst:=[]) (cap:=[]) [] (xX N (aL b o) c w.left aa (aL bl 0) z bl hB aK w.val (aL go 0) (n+1) (n+1) k hg hb H) rfl rfl rfl rfl aX (K:=[.own (.slice Ai its.length ci) 235 3 its.length (rE its),.own (ax go 0 (n+1) (n+1)) 23 1 (n+1) vals,.own (ax bl 0 w.left.length z) 2 1 w.left.length (aj w.left),blk p 33 (bU N (aL b o) c),.seg b o (arcs N.arcs)]++(rows.map (bd 3)++its.map λ x=>bd 3 x.2.1)) (ay.re (A1:=[blk H 256 (pH N (aL b o) c (aL bl 0) w.left.length z w.val (aL go 0) (n+1) (n+1) (k:Nat)),.own (.slice Ai its.length ci) 235 3 its.length (rE its),.own (ax go 0 (n+1) (n+1)) 23 1 (n+1) vals,.own (ax bl 0 w.left.length z) 2 1 w.left.length (aj w.left),blk p 33 (bU N (aL b o) c),.seg b o (arcs N.arcs)]) (R:=rows.map (bd 3)++its.map λ x=>bd 3 x.2.1) [1,0,2,3,4,5] rfl ab) ⟨fX 2 rfl ca (.inr rfl),an⟩ aK ?_;rintro u H' ⟨rfl,rfl⟩;refine ec ?_;refine ak rfl (λ hp=>ag ?_) (λ hp=>aO ?_)
 ·have hp:b5 w.left<w.left.length:=hp;obtain⟨q1,l2,r1,hP,l1⟩:=pY hR hw hp;have E:=D0 hR hw hp;refine aq ?_;show J _ _ _ _ ([_,_,_,_,_,_]++(rows.map (bd 3)++its.map fun x=>bd 3 x.2.1));refine aI ?_;refine dI (fst:=[]) (cap:=[]) (F4 N hR (aL b o) c b o aK w hw hp z bl go n hn H rows L hL Z (fun v row h=>(M v row h).2) pos vals hV hD) rfl (ay.mid3 (R:=rows.map (bd 3)) (I:=its.map fun x=>bd 3 x.2.1) [0,2,3] [1,4,5] rfl rfl ab) ⟨bz 2 rfl,trivial⟩ ?_;rintro u H' ⟨e2,ht,A4,c4,n1,h5,rfl,rfl⟩;refine⟨dl rfl (dd _ rows),?_⟩;refine cD ay.ret3<|az ?_;obtain⟨row,d⟩:∃ row:fg,row=⟨A4,c4,(hO N w).2.1.map fun (i:Nat)=>(i:Int)⟩:=⟨_,rfl⟩;have C:row.l.length=(hO N w).2.1.length:=by rw[d,List.length_map]
  have Q:Value.slice A4 (hO N w).2.1.length c4=cT row:=by unfold cT;rw[C,d]
  have k2:aY.own (.slice A4 (hO N w).2.1.length c4) 3 1 (hO N w).2.1.length (cJ (hO N w).2.1)=bd 3 row:=by unfold bd;rw[<- Q,C,d];rfl
  rw[k2,Q];refine dp λ g8=>?_;refine bx (n:=its.length) (m:=1) (off:=0) (news:=[Value.int .u8 (hO N w).1,cT row,af (hO N w).2.2]) 5 0 rfl rfl rfl rfl rfl rfl ab rfl rfl (aS g8 _ _ (0,0)) aK rfl rfl aa aa (λ _ _=>rfl) λ A7 c7=>?_;rw[J8 its ((hO N w).1,row,(hO N w).2.2),show its.length+1=(its++[((hO N w).1,row,(hO N w).2.2)]).length by simp];refine aN ?_;have S:=(E 0).2;have hI:=yV hR hw hp;refine⟨(its++[((hO N w).1,row,(hO N w).2.2)],ps++[hO N w],zX N w,e2,ht,b5 w.left,A7,c7),a7,?_,⟨q1,n1,h5.fall λ i=>(E i).1,by simp only;omega,E6 S (λ i=>(E i).1) λ j x hj hx=>Be hj hx,?_,?_,by simp only[Nj,Nh,NC];omega⟩,by simp only;omega⟩
  ·simp only[NI,Nv,Og];rw[S];exact (show ay _ ([_,_,_,_,_,_,_,_]++(rows.map (bd 3)++its.map λ x=>bd 3 x.2.1)) _ from (ay.re [1,5,2,3,4,6,7] rfl ab)).trans ay.give
  ·simp only[NI,Nv,Og];rw[P,d]
  ·simp only;rw[<- h1,hI,NQ];rfl
 have hp:¬ b5 w.left<w.left.length:=hp;rw[yp hp,NN,O,hz] at h1;refine ao ?_;show J _ _ _ _ ([_,_,_,_,_,_]++(rows.map (bd 3)++its.map λ x=>bd 3 x.2.1));exact bS ((ay.re [1] rfl ab).trans (ay.sub (List.Sublist.append_left (List.sublist_append_right (rows.map (bd 3)) (its.map λ x=>bd 3 x.2.1)) _)))<|bN ⟨_,rfl,its,Ai,ci,by rw[P,h1],rfl,rfl⟩
theorem Kd{N:aV}{e:Int}(h:0<=e/\e<N.arcs.length):∃ (i:Nat) (a:ej),e=i/\N.arcs[i]?=some a/\i<N.arcs.length/\j4 N e=a.fr/\Ez N e=a.to/\Ke N e=a.cap:=by
 obtain⟨i,rfl⟩:∃ i:Nat,e=i:=⟨e.toNat,aa⟩;have hi:i<N.arcs.length:=aa;refine⟨i,N.arcs[i],rfl,be hi,hi,?_,?_,?_⟩
 ·exact kI (be hi)
 ·exact uX (be hi)
 ·unfold Ke;rw[NA,be hi]
theorem zd(N:aV)(e:Int)(W met:LI_)(last:Int):qs N (e::W) met last=if (met≠[]/\j4 N e≠last)\/j4 N e∈met then false else qs N W (met++[j4 N e]) (Ez N e):=rfl
def MX(k:Int)(R:OA_)(n c:Nat)(m:Int):Value:=.agg #[.int .u8 k,.slice R n c,.int .i64 m]
theorem Fv(N:aV)(hR:N.Right)(A:OA_)(c b o:Nat)(hA:N.arcs≠[]->A=some ⟨b,o,none⟩)(k:Int)(W:LI_)(m:Int)(L:lM N (k,W,m))(R:OA_)(cr n d:Nat)(X:W≠[]->R=some ⟨n,d,none⟩):
 Fn 180 [bZ N A c,MX k R W.length cr m] [] [.seg b o (arcs N.arcs),.seg n d (aj W)] λ v H'=>v=.bool (mY N (k,W,m))/\H'=[]:=by
 have hf:=hR.len;have hn:W.length<=2000:=L.len;have s:W≠[]:=L.ne;have u:0<W.length:=NM.2 s;have hq:0<m:=L.amt.1;have w:∀ e∈W,0<=e/\e<N.arcs.length:=L.rng;have Y:k=112\/k=98\/k=99:=L.kind;obtain rfl:=X s
 have M:N.arcs≠[]:=by
  obtain⟨e,he⟩:=PW _ s;have:=w e he;rintro U;rw[U] at this;simp at this;omega
 obtain rfl:=hA M;refine aT Tryz.func180 λ w0=>?_;refine bu ?_;refine cY (cs:=bU N (aL b o) c) λ p=>?_;refine cY (cs:=[.int .u8 k,ax n d W.length cr,af m]) λ q=>?_;refine dQ ?_;refine bj (v:=af m) 0 ?_;refine az ?_;refine dc 13 rfl aa<|ek ?_;refine ae [3] (v:=ax n d W.length cr) (ad 0 rfl) rfl<|ek ?_;refine dc 18 rfl aa<|ah<|bo rfl (ag ?_);refine bu ?_;refine qe rfl aK λ V=>cR ?_;refine aI ?_;refine bj (v:=ax n d W.length cr) 1 ?_;refine im ?_
 refine bP (σ:=Nat×Int) (λ t=>[(23,af t.1),(22,af W.length),(21,ax n d W.length cr),(6,af t.2),(5,.map (some V)),(2,ap p 0),(3,ap q 0)])
  (λ t=>[.obj V (jT (l6 ((W.take t.1).map (j4 N)))),blk q 235 [.int .u8 k,ax n d W.length cr,af m],blk p 33 (bU N (aL b o) c),.seg b o (arcs N.arcs),.seg n d (aj W)])
  (λ t=>t.1<=W.length/\qs N W [] 0=qs N (W.drop t.1) ((W.take t.1).map (j4 N)) t.2/\(0<t.1->t.2=Ez N ((W.take t.1).getLastD 0))) (λ t=>W.length-t.1)
  (0,0) [0,1,2,3,4] a7 ab rfl ⟨Nl _,ai,λ h=>absurd h ab⟩ ?_
 rintro⟨j,last⟩ ⟨hj,f,g⟩;simp only at hj f g ⊢;refine ao ?_;refine am (ak rfl (λ hlt=>ag ?_) (λ hs=>aO ?_))
 ·have hlt:j<W.length:=by omega
  obtain⟨e,he⟩:∃ e,W[j]?=some e:=⟨W[j],be hlt⟩;obtain⟨i,a,rfl,Z,hil,D,I,_⟩:=Kd (w e (Nb he));obtain⟨q0,q1,q2⟩:=gF Z;have K:W.take (j+1)=W.take j++[(i:Int)]:=by rw[Nu,he];rfl
  have hv:W.drop j=(i:Int)::W.drop (j+1):=by rw[N5 hlt];rw[(Ng.1 he).2]
  have O:((W.take j).map (j4 N)≠[])↔0<j:=by
   rw[<- NM,Nm,NE];omega
  rw[hv] at f;rw[zd] at f;refine am (aq ?_);refine iz ?_;refine aF (aZ 4 rfl rfl (bI he)) ?_;refine aN ?_
  -- whether the walk goes on here
  refine am (fN [(60,.bool (dR ((0<j/\a.fr≠last)\/a.fr∈(W.take j).map (j4 N)))),(8,af i),(23,af j),(22,af W.length),(21,ax n d W.length cr),(6,af last),(5,.map (some V)),(2,ap p 0),(3,ap q 0)]
   [.obj V (jT (l6 ((W.take j).map (j4 N)))),blk q 235 [.int .u8 k,ax n d W.length cr,af m],blk p 33 (bU N (aL b o) c),.seg b o (arcs N.arcs),.seg n d (aj W)] ?_ ?_)
  ·refine aI ?_;refine dc 30 rfl aa<|eq ?_;refine ae [2] (v:=ax b o N.arcs.length c) (ad 2 rfl) rfl<|eq ?_;refine dc 37 rfl aa<|bp [2,9] ?_;by_cases U:0<j
   ·refine dt 40 rfl aa<|bp [2,9,12] ?_;refine ae [2,9,12] (v:=ax b o N.arcs.length c) (ad 2 rfl) rfl<|bp [2,9,12] ?_;refine ae [2,9,12] (jc rfl hil) rfl<|bp [2,9,12] ?_;refine ae [2,9,12] (v:=af a.fr) (fJ 3 rfl rfl rfl (N7 _ _ _) q0) rfl<|bp [2,9,12] ?_;by_cases l:a.fr≠last
    ·refine dt 51 rfl l<|bp [2,9,12,23] ?_;exact ah ⟨[0,1,2,3,4],⟨Na some (Na Value.bool (aQ (.inl ⟨U,l⟩)).symm),rfl,rfl,rfl,rfl,rfl,rfl,rfl,rfl,an⟩,ab,rfl⟩
    ·refine dc 51 rfl l<|KG ?_;refine ah ⟨[0,1,2,3,4],⟨?_,rfl,rfl,rfl,rfl,rfl,rfl,rfl,rfl,an⟩,ab,rfl⟩;refine Na some ((dn _ _).trans (Na Value.bool ?_));exact ey ⟨λ h=>.inr h,λ h=>h.resolve_left (λ h'=>l h'.2)⟩
   ·refine dc 40 rfl aa<|bp [2,9,12] ?_;refine aA 51 (v':=.bool false) rfl rfl<|KG ?_;refine ah ⟨[0,1,2,3,4],⟨?_,rfl,rfl,rfl,rfl,rfl,rfl,rfl,rfl,an⟩,ab,rfl⟩;refine Na some ((dn _ _).trans (Na Value.bool ?_));exact ey ⟨λ h=>.inr h,λ h=>h.resolve_left (λ h'=>U h'.1)⟩
  have B:((0<j/\a.fr≠last)\/a.fr∈(W.take j).map (j4 N))↔((W.take j).map (j4 N)≠[]/\j4 N (i:Int)≠last)\/j4 N (i:Int)∈(W.take j).map (j4 N):=by rw[O,D]
  refine ak rfl (λ P=>?_) (λ C=>ag ?_)
  ·rw[if_pos (B.1 P)] at f;refine ao ?_;refine aM [] ⟨_,rfl,?_,rfl⟩;unfold mY;rw[if_neg (not_or.2 ⟨by simp only;omega,s⟩),if_pos f];rfl
  ·rw[if_neg (λ h=>C (B.2 h))] at f;refine Il ?_;refine aF (jc rfl hil) ?_;refine az ?_;refine aF (v:=af a.fr) (fJ 3 rfl rfl rfl (N7 _ _ _) q0) ?_;refine qq 0 Tryz.underlying205 Tryz.underlying3 rfl rfl rfl rfl rfl (λ z hz=>?_) [] rfl ?_
   ·obtain⟨y,hy,rfl⟩:=NF.1 hz;rintro rfl;exact C (.inr hy)
   refine ah<|Il ?_;refine aF (jc rfl hil) ?_;refine az ?_;refine aF (v:=af a.to) (fJ 3 rfl rfl rfl (N7 _ _ _) q1) ?_;refine cR ?_;refine⟨(j+1,a.to),[0,1,2,3,4],⟨Na (λ z=>some (af z)) (cp aa),rfl,rfl,rfl,rfl,rfl,rfl,an⟩,ab,?_,⟨by simp only;omega,?_,λ _=>?_⟩,by simp only;omega⟩
   ·simp only[K,NI,Nv,Og,D];unfold l6;rw[NI];rfl
   ·simp only[K,NI,Nv,Og];rw[f,I]
   ·simp only[K];rw[List.getLastD_eq_getLast?,N1];exact I.symm
 obtain rfl:j=W.length:=aa;rw[List.drop_length] at f;have hr:qs N W [] 0=true:=f;have g:=g u;rw[NH] at*;obtain⟨e0,E⟩:∃ e,W[0]?=some e:=⟨W[0],be u⟩
 have hb:W.headD 0=e0:=by
  cases hc:W with
  |nil=>exact absurd hc s
  |cons x r=>rw[hc] at E;simpa using E
 obtain⟨i,a,rfl,Z,hil,D,I,_⟩:=Kd (w e0 (Nb E));obtain⟨q0,q1,q2⟩:=gF Z
 have Q:mY N (k,W,m)=if k=112 then decide ((a.fr=N.src/\last=N.snk)/\last∉W.map (j4 N)) else if k=98 then decide ((a.fr=N.snk/\last=N.src)/\last∉W.map (j4 N)) else if k=99 then decide (a.fr=last) else false:=by
  unfold mY;rw[if_neg (not_or.2 ⟨by simp only;omega,s⟩),if_neg (by rw[hr];decide)];simp only[hb,D,<- g]
 rw[Q];refine cq ?_;refine bM 10 (dT [0,1,2,3,4,5,6,7,8,9]) [0,1,2,3,4] aX ab rfl<|a9 ?_;refine bh (v:=ax b o N.arcs.length c) rfl (ad 2 rfl) ?_;refine a9 ?_;refine bh (v:=ax n d W.length cr) rfl (ad 1 rfl) ?_;refine bh (v:=ap n (d+0)) rfl (gq (m:=0) rfl u) ?_;refine bh (v:=af i) rfl (aZ 4 rfl rfl (bI E)) ?_;refine bh rfl (jc rfl hil) ?_;refine a9 ?_;refine bh (v:=af a.fr) rfl (fJ 3 rfl rfl rfl (N7 _ _ _) q0) ?_;refine ir ?_;refine aI ?_;refine bj (v:=.int .u8 k) 1 ?_;refine im ?_;refine ao ?_;by_cases k1:k=112
 ·refine nd 86 rfl k1<|dr ?_;rw[if_pos k1];refine aI ?_;refine bj (v:=af N.src) 2 ?_;refine az ?_;by_cases l:a.fr=N.src
  ·refine dt 92 rfl l<|bp [4] ?_;refine ae [4] (v:=af N.snk) (ad 2 rfl) rfl<|bp [4] ?_;by_cases F:last=N.snk
   ·refine dt 98 rfl F<|bp [4,10] ?_;refine ae [4,10] (fW 0 Tryz.underlying205 Tryz.underlying3 rfl rfl rfl rfl rfl) rfl ?_;by_cases H:last∈W.map (j4 N)
    ·refine aA 101 (v':=.bool true) rfl ((dn _ _).trans (Na Value.bool (aQ H)))<|bp [4,10] ?_;refine ah (i5 [] ab rfl (bN ⟨_,rfl,Na Value.bool (OB (λ h=>h.2 H)).symm,rfl⟩))
    ·refine aA 101 (v':=.bool false) rfl ((dn _ _).trans (Na Value.bool (aU H)))<|bp [4,10] ?_;refine ah (i5 [] ab rfl (bN ⟨_,rfl,Na Value.bool (OR ⟨⟨l,F⟩,H⟩).symm,rfl⟩))
   ·refine dc 98 rfl F<|bp [4,10] ?_;refine ah (i5 [] ab rfl (bN ⟨_,rfl,Na Value.bool (OB (λ h=>F h.1.2)).symm,rfl⟩))
  ·refine dc 92 rfl l<|bp [4] ?_;refine aA 98 (v':=.bool false) rfl rfl<|bp [4,10] ?_;refine ah (i5 [] ab rfl (bN ⟨_,rfl,Na Value.bool (OB (λ h=>l h.1.1)).symm,rfl⟩))
 refine lQ 86 rfl k1<|bo rfl<|?_;rw[if_neg k1];refine ao ?_;by_cases S:k=98
 ·refine nd 104 rfl S<|dr ?_;rw[if_pos S];refine aI ?_;refine bj (v:=af N.snk) 2 ?_;refine az ?_;by_cases l:a.fr=N.snk
  ·refine dt 110 rfl l<|bp [4] ?_;refine ae [4] (v:=af N.src) (ad 2 rfl) rfl<|bp [4] ?_;by_cases F:last=N.src
   ·refine dt 116 rfl F<|bp [4,10] ?_;refine ae [4,10] (fW 0 Tryz.underlying205 Tryz.underlying3 rfl rfl rfl rfl rfl) rfl ?_;by_cases H:last∈W.map (j4 N)
    ·refine aA 119 (v':=.bool true) rfl ((dn _ _).trans (Na Value.bool (aQ H)))<|bp [4,10] ?_;refine ah (i5 [] ab rfl (bN ⟨_,rfl,Na Value.bool (OB (λ h=>h.2 H)).symm,rfl⟩))
    ·refine aA 119 (v':=.bool false) rfl ((dn _ _).trans (Na Value.bool (aU H)))<|bp [4,10] ?_;refine ah (i5 [] ab rfl (bN ⟨_,rfl,Na Value.bool (OR ⟨⟨l,F⟩,H⟩).symm,rfl⟩))
   ·refine dc 116 rfl F<|bp [4,10] ?_;refine ah (i5 [] ab rfl (bN ⟨_,rfl,Na Value.bool (OB (λ h=>F h.1.2)).symm,rfl⟩))
  ·refine dc 110 rfl l<|bp [4] ?_;refine aA 116 (v':=.bool false) rfl rfl<|bp [4,10] ?_;refine ah (i5 [] ab rfl (bN ⟨_,rfl,Na Value.bool (OB (λ h=>l h.1.1)).symm,rfl⟩))
 refine lQ 104 rfl S<|bo rfl<|?_;have k3:k=99:=(Y.resolve_left k1).resolve_left S;rw[if_neg S,if_pos k3];refine ao ?_;refine nd 122 rfl k3<|eu ?_;refine aM [] ⟨_,rfl,Na Value.bool ?_,rfl⟩;by_cases h:a.fr=last
 ·rw[OR h];exact aQ h
 ·rw[OB h];exact aU h
abbrev Fh:=Int×fg×Int
def fu(x:Fh):It:=(x.1,x.2.1.l,x.2.2)
def pG(A:OA_)(c:Nat)(its:List Fh):Heap:=[.own (.slice A its.length c) 235 3 its.length (rE its)]++its.map λ x=>bd 3 x.2.1
theorem CN:∀ {its:List Fh} {i:Nat} {x:Fh},its[i]?=some x->(rE its)[i*3]?=some (.int .u8 x.1)/\(rE its)[i*3+1]?=some (cT x.2.1)/\(rE its)[i*3+2]?=some (.int .i64 x.2.2)
 |[],i,x,h=>by simp at h
 |a::l,0,x,h=>by simp at h;subst h;simp[rE]
 |a::l,i+1,x,h=>by
  have b:=CN (its:=l) (i:=i) (x:=x) (by simpa using h);have e:rE (a::l)=[.int .u8 a.1,cT a.2.1,af a.2.2]++rE l:=by simp[rE]
  have c:(i+1)*3=i*3+3:=aa;rw[e,c];refine⟨?_,?_,?_⟩
  ·rw[NB ai];simpa using b.1
  ·rw[NB ai];simpa using b.2.1
  ·rw[NB ai];simpa using b.2.2
theorem pT{its:List Fh}{j:Nat}{x:Fh}(h:its[j]?=some x):fQ 235 (rE its) (j*3)=some (MX x.1 x.2.1.A x.2.1.l.length x.2.1.c x.2.2):=by
 obtain⟨a,b,d⟩:=CN h;show (match eI (rE its) (j*3) 3 with|some l=>some (Value.agg l.toArray)|none=>none)=_
 have:eI (rE its) (j*3) 3=some [.int .u8 x.1,cT x.2.1,af x.2.2]:=by
  unfold eI;rw[a];unfold eI;rw[b];unfold eI;rw[d];unfold eI;rfl
 rw[this];rfl
theorem Ea(its:List Fh):f7 (its.map λ x=>bd 3 x.2.1)=true:=by
 have:=dd 3 (its.map λ x=>x.2.1)
 rwa [OG] at this
theorem oC(A:OA_)(c:Nat)(its:List Fh):f7 (pG A c its)=true:=dl rfl (Ea its)
theorem Db(N:aV)(e:Int)(W:LI_)(m:Int)(o:LI_):xv N (e::W) m o=if Ke N e-o.getD e.toNat 0<m then none else xv N W m (o.set e.toNat (o.getD e.toNat 0+m)):=rfl
theorem zA(N:aV)(x:It)(r:List It)(o:LI_):pN N (x::r) o=match xv N x.2.1 x.2.2 o with|some o'=>pN N r o'|none=>none:=rfl
def within(N:aV)(o:LI_):Prop:=o.length=N.arcs.length/\∀ (i:Nat) (a:ej) (y:Int),N.arcs[i]?=some a->o[i]?=some y->0<=y/\y<=a.cap
theorem BT{N:aV}{o:LI_}(h:within N o){i:Nat}{a:ej}{y m:Int}(d:N.arcs[i]?=some a)(f:o[i]?=some y)(hm:0<=m/\m<=a.cap-y):within N (o.set i (y+m)):=by
 refine⟨by rw[NO];exact h.1,λ j g z b c=>?_⟩;by_cases e:i=j
 ·subst e;rw[d] at b;obtain rfl:=NK b;rw[Nq (by have:=(Ng.1 f).1;exact this)] at c;obtain rfl:=NK c;have:=h.2 i a y d f;omega
 ·rw[Ns e] at c;exact h.2 j g z b c
theorem ay.unfront{X:Cx}{A R:Heap}{c:aY}{i:Nat}(h:R[i]?=some c):ay X (c::(A++R.eraseIdx i)) (A++R):=by
 have hi:i<R.length:=(Ng.1 h).1;have e:R.set i c=R:=by rw[<- (Ng.1 h).2,List.set_getElem_self]
 have:=ay.back (X:=X) (A:=A) (R:=R) (c:=c) (i:=i) hi
 rwa [e] at this
theorem Jf(N:aV)(hN:N.Fits)(hR:N.Right)(A:OA_)(c b o:Nat)(hA:N.arcs≠[]->A=some ⟨b,o,none⟩)(its:List Fh)(Q:∀ x∈its.map fu,lM N x)(hl:its.length<=2001)(I:OA_)(ci:Nat):
 Fn 158 [bZ N A c,.slice I its.length ci] (aC (pG I ci its)) ([.seg b o (arcs N.arcs)]++pG I ci its) λ v H'=>(∃ (F:OA_) (n cf:Nat),v=.tuple #[.slice F n cf,.int .i64 (qp N (its.map fu))])/\H'=pG I ci its:=by
 have hn:=hR.len
 generalize hM:aC _=M
 refine aT Tryz.func158 λ w0=>?_;refine bu ?_;refine cY (cs:=bU N A c) λ p=>?_;refine zO ?_;refine ak rfl (λ h=>absurd rfl h) (λ _=>ag ?_);refine jN ?_;show J _ _ _ _ ([blk p 33 (bU N A c),.seg b o (arcs N.arcs),.own (.slice I its.length ci) 235 3 its.length (rE its)]++its.map λ x=>bd 3 x.2.1);refine aR (aH 2 rfl) λ ⟨_,_,R,_⟩=>?_
 refine cA (σ:=Nat) (λ j=>[(21,af j),(20,af its.length),(19,.slice I its.length ci),(1,.slice I its.length ci),(2,ap p 0)])
  (λ _=>[blk p 33 (bU N A c),.seg b o (arcs N.arcs),.own (.slice I its.length ci) 235 3 its.length (rE its)]++its.map λ x=>bd 3 x.2.1)
  (λ j=>j<=its.length/\((its.take j).map fu).all (mY N)=true) (λ j=>its.length-j) 0 a7 ay.refl ⟨Nl _,rfl⟩ ?_
 rintro j ⟨hj,m⟩;refine ao ?_;refine am (ak rfl (λ hlt=>ag ?_) (λ Z=>aO ?_))
 ·have hlt:j<its.length:=by omega
  obtain⟨x,C⟩:∃ x,its[j]?=some x:=⟨its[j],be hlt⟩;obtain⟨Y,rfl⟩:=R aa;have w:lM N (fu x):=Q _ (OM (Nb C));have g:(its.map λ x=>bd 3 x.2.1)[j]?=some (bd 3 x.2.1):=by rw[Nk,C];rfl
  refine bS (ay.front (i:=j) (c:=bd 3 x.2.1) g)<|aR (aH 0 (show _=some (bd 3 x.2.1) from rfl)) λ ⟨_,_,E,H⟩=>?_;obtain⟨gr,B⟩:=bg E H;refine am (aq ?_);refine BI ?_;refine aF (aw 3 rfl rfl rfl (pT C)) ?_;refine dD λ p8=>?_;refine iA ?_;refine bu ?_;refine bj (v:=bZ N A c) 2 ?_;refine bj (v:=MX x.1 x.2.1.A x.2.1.l.length x.2.1.c x.2.2) 0 ?_;refine cj (Fv N hR A c b o hA x.1 x.2.1.l x.2.2 w x.2.1.A x.2.1.c gr 0 (λ h=>B (λ S=>h (by simpa [aj] using S)))) rfl ⟨bz 3 rfl,ff 1 rfl B,an⟩ ?_;refine aN ?_;refine nW rfl (λ K=>?_) (λ K=>ag ?_)
  ·have K:mY N (fu x)=false:=by simpa [fu] using K
   refine ao ?_;refine bS (ay.trans (ay.sub (NW _ _)) (ay.trans (ay.unfront (A:=[_,_,_]) g) (ay.re [2] rfl ab)))<|bN ⟨_,rfl,⟨none,0,0,?_⟩,rfl⟩
   have:(its.map fu).all (mY N)=false:=by
    rw[List.all_eq_false];exact⟨fu x,OM (Nb C),by rw[K];decide⟩
   unfold qp;rw[if_pos this];rfl
  ·have K:mY N (fu x)=true:=by simpa [fu] using K
   refine ao ?_;refine⟨j+1,⟨Na (λ z=>some (af z)) (cp aa),rfl,rfl,rfl,rfl,an⟩,?_,⟨aa,?_⟩,aa⟩
   ·exact ay.trans (ay.sub (NW _ _)) (ay.unfront (A:=[_,_,_]) g)
   ·rw[Nu,C,NI,List.all_append,m]
    simpa using K
 obtain rfl:j=its.length:=aa;rw[NH] at m;refine aI ?_;refine bj (v:=.slice A N.arcs.length c) 0 ?_;refine az ?_;refine cX (n:=N.arcs.length) (c:=N.arcs.length) rfl rfl rfl rfl rfl rfl aa aa aa aK λ go=>?_;rw[oS];refine qg ?_;have hz:(List.replicate N.arcs.length (0:Int)).length=N.arcs.length:=ai
 refine cA (σ:=Nat×LI_) (λ s=>[(36,af s.1),(35,af its.length),(34,.slice I its.length ci),(1,.slice I its.length ci),(2,ap p 0),(9,ax go 0 N.arcs.length N.arcs.length)])
  (λ s=>[.own (ax go 0 N.arcs.length N.arcs.length) 2 1 N.arcs.length (aj s.2),blk p 33 (bU N A c),.seg b o (arcs N.arcs),.own (.slice I its.length ci) 235 3 its.length (rE its)]++its.map λ x=>bd 3 x.2.1)
  (λ s=>s.1<=its.length/\within N s.2/\pN N (its.map fu) (List.replicate N.arcs.length 0)=pN N ((its.map fu).drop s.1) s.2) (λ s=>its.length-s.1) (0,List.replicate N.arcs.length 0) a7 ay.refl
  ⟨Nl _,⟨hz,λ i a y O D=>?_⟩,by rw[List.drop_zero]⟩ ?_
 ·rw[Nw] at D;split at D
  ·obtain rfl:=NK D;have:=(hR.arc a (Nb O)).2.2;omega
  ·cases D
 rintro⟨j,l⟩ ⟨hj,hw,f⟩;simp only at hj hw f ⊢;refine ao ?_;refine am (ak rfl (λ hlt=>ag ?_) (λ Z=>aO ?_))
 ·have hlt:j<its.length:=by omega
  obtain⟨x,C⟩:∃ x,its[j]?=some x:=⟨its[j],be hlt⟩;obtain⟨Y,rfl⟩:=R aa;have w:lM N (fu x):=Q _ (OM (Nb C));have hc:x.2.1.l.length<=2000:=w.len;have hs:0<x.2.2/\x.2.2<=4611686018427387903:=w.amt;have h1:∀ e∈x.2.1.l,0<=e/\e<N.arcs.length:=w.rng;have h2:(its.map fu)[j]?=some (fu x):=by rw[Nk,C];rfl
  have h3:(its.map fu).drop j=fu x::(its.map fu).drop (j+1):=by
   have hv:j<(its.map fu).length:=by rw[Nm];exact hlt
   rw[N5 hv,(Ng.1 h2).2]
  rw[h3,zA] at f;have g:(its.map λ x=>bd 3 x.2.1)[j]?=some (bd 3 x.2.1):=by rw[Nk,C];rfl
  refine bS (ay.front (i:=j) (c:=bd 3 x.2.1) g)<|aR (aH 0 (show _=some (bd 3 x.2.1) from rfl)) λ ⟨_,_,E,H⟩=>?_;obtain⟨gr,B⟩:=bg E H;refine am (aq ?_);refine BI ?_;refine aF (aw 4 rfl rfl rfl (pT C)) ?_;refine dD λ p11=>?_;refine iA ?_;refine aI ?_;refine bj (v:=.slice x.2.1.A x.2.1.l.length x.2.1.c) 0 ?_;refine im ?_
  refine cA (σ:=Nat×LI_) (λ s=>[(43,af s.1),(42,af x.2.1.l.length),(41,.slice x.2.1.A x.2.1.l.length x.2.1.c),(11,ap p11 0),(36,af j),(35,af its.length),(34,ax Y 0 its.length ci),(1,ax Y 0 its.length ci),(2,ap p 0),(9,ax go 0 N.arcs.length N.arcs.length)])
   (λ s=>[blk p11 235 [.int .u8 x.1,.slice x.2.1.A x.2.1.l.length x.2.1.c,af x.2.2],bd 3 x.2.1,.own (ax go 0 N.arcs.length N.arcs.length) 2 1 N.arcs.length (aj s.2),blk p 33 (bU N A c),.seg b o (arcs N.arcs),.own (ax Y 0 its.length ci) 235 3 its.length (rE its)]++(its.map λ x=>bd 3 x.2.1).eraseIdx j)
   (λ s=>s.1<=x.2.1.l.length/\within N s.2/\xv N x.2.1.l x.2.2 l=xv N (x.2.1.l.drop s.1) x.2.2 s.2) (λ s=>x.2.1.l.length-s.1) (0,l) a7 ay.refl ⟨Nl _,hw,by rw[List.drop_zero]⟩ ?_
  rintro⟨t,P⟩ ⟨ht,r,d⟩;simp only at ht r d ⊢;refine ao ?_;refine am (ak rfl (λ q=>ag ?_) (λ hf=>aO ?_))
  ·have q:t<x.2.1.l.length:=by omega
   obtain⟨e,he⟩:∃ e,x.2.1.l[t]?=some e:=⟨x.2.1.l[t],be q⟩;obtain⟨i,a,rfl,O,u,_,_,U⟩:=Kd (h1 e (Nb he));obtain rfl:=hA (by rintro S;rw[S] at u;simp at u);obtain⟨q0,q1,q2⟩:=gF O;obtain⟨y,D⟩:∃ y,P[i]?=some y:=⟨P[i]'(by have:=r.1;omega),be _⟩;have hk:=r.2 i a y O D;have h4:=Bb hR (Nb O);have hr:P.getD (i:Int).toNat 0=y:=by rw[NA,Nf,D];rfl
   have hq:x.2.1.A=some ⟨gr,0,none⟩:=B (by intro S;have:=bY x.2.1.l;rw[S] at this;simp at this;omega);have V:x.2.1.l.drop t=(i:Int)::x.2.1.l.drop (t+1):=by rw[N5 q];rw[(Ng.1 he).2]
   rw[V,Db,U,hr,NA] at d;refine am (aq ?_);refine aI ?_;refine aF (ic (b:=gr) rfl (by rw[<- hq];rfl) rfl rfl rfl q) ?_;refine aF (v:=af (i:Int)) (dY 1 rfl (show _=some (ap gr (0+t)) by rw[NR];rfl) rfl (bC (A:=x.2.1.A) B) (bI he)) ?_;refine ii ?_;refine bM 14 (dT [0,1,2,3,4,5,6,7,8,9,10,11,12,13]) [0,1,2,3,4,5] aX ab rfl<|a9 ?_;refine bh (v:=af x.2.2) rfl (ad 0 rfl) ?_;refine a9 ?_;refine bh (v:=ax b o N.arcs.length c) rfl (ad 3 rfl) ?_;refine a9 ?_;refine bh rfl (jc rfl u) ?_;refine a9 ?_;refine bh (v:=af a.cap) rfl (fJ 4 rfl rfl rfl (N7 _ _ _) q2) ?_;refine a9 ?_;refine bh rfl (bn rfl u) ?_;refine bh (v:=af y) rfl (aw 2 rfl rfl rfl (bQ D)) ?_;refine a9 ?_;refine dK 60 (v':=.bool (dR (a.cap-y<x.2.2))) rfl (by rw[cp aa])<|gA ?_;refine ak rfl (λ X=>?_) (λ L=>ag ?_)
   ·rw[if_pos X] at d;have k:xv N (fu x).2.1 (fu x).2.2 l=none:=d;rw[k] at f;refine ao ?_;refine bS (ay.trans (ay.sub (NW _ _)) (ay.trans (ay.unfront (A:=[_,_,_,_]) g) (ay.re [3] rfl ab)))<|bN ⟨_,rfl,⟨none,0,0,?_⟩,rfl⟩;unfold qp;rw[if_neg (by rw[m];decide),if_pos f];rfl
   ·rw[if_neg L] at d;refine cq ?_;refine fZ 9 [0,1,2,3,4,5,6,7] 8 [] aX ?_
    (repeat' (refine js (gs:=[999]) rfl rfl ?_))
    refine gS [999] rfl (bn rfl u) rfl<|cV [999] (v:=af y) rfl rfl (aw 2 rfl rfl rfl (bQ D)) rfl<|?_
    (repeat' (refine js (gs:=[999]) rfl rfl ?_))
    refine cV [999] (v:=af x.2.2) rfl rfl (ad 0 rfl) rfl ?_
    (repeat' (refine js (gs:=[999]) rfl rfl ?_))
    refine gS [999] rfl (bn rfl u) rfl<|il rfl<|aA 67 (v':=af (y+x.2.2)) rfl (Na (Value.int .i64) (cp aa))<|aW 2 rfl rfl rfl rfl (fh rfl (by have:=r.1;omega)) [] rfl<|b6 []<|cM<|?_;refine dv ?_;refine⟨(t+1,P.set i (y+x.2.2)),⟨Na (λ z=>some (af z)) (cp aa),rfl,rfl,rfl,rfl,rfl,rfl,rfl,rfl,rfl,an⟩,ay.refl,⟨by simp only;omega,BT r O D ⟨aa,aa⟩,d⟩,by simp only;omega⟩
  ·obtain rfl:t=x.2.1.l.length:=by omega
   rw[List.drop_length] at d;have k:xv N (fu x).2.1 (fu x).2.2 l=some P:=d;rw[k] at f;refine ao ?_;refine⟨(j+1,P),⟨Na (λ z=>some (af z)) (cp aa),rfl,rfl,rfl,rfl,rfl,an⟩,?_,⟨by simp only;omega,r,f⟩,by simp only;omega⟩;exact ay.trans (ay.sub (NW _ _)) (ay.unfront (A:=[_,_,_,_]) g)
 ·obtain rfl:j=its.length:=by omega
  rw[List.drop_eq_nil_of_le (by rw[Nm];exact Nr _)] at f;refine ao ?_;refine bS (ay.re [3] rfl ab)<|bN ⟨_,rfl,⟨aL go 0,N.arcs.length,N.arcs.length,?_⟩,rfl⟩;unfold qp;rw[if_neg (by rw[m];decide),f,if_neg (by unfold pN;exact Option.some_ne_none _)];rfl
end Go.Proofs.YtmcnpaelaieniaaGreatDoor
