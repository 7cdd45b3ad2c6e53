import Derived.Test.YtmcnpaelaieniaaGreatDoorQX113
/- A part of the proof. -/
set_option linter.unusedVariables false
set_option linter.unusedSimpArgs false
set_option maxHeartbeats 8000000
namespace Go.Proofs.YtmcnpaelaieniaaGreatDoor
open Go.RowKit
open Lib
theorem fM(V:LibV)(ws:List (LU_))(hw:∀ x∈ws,x.length<=10000000)(D:ws.length<=10000000)(B:OA_)(n s f i:Nat)(t:ws≠[]->B=some ⟨f,i,none⟩)(l:n=ws.length):
 Fn 63 [.slice B n s] [] ([.seg f i (cj ws)]++V.heap) λ v H'=>∃ (A:OA_) (c:Nat),v=.tuple #[.slice A (aS ws).1.length c,.bool (sS ws)]/\H'=[.own (.slice A (aS ws).1.length c) 2 1 (aS ws).1.length (aj (aS ws).1)]:=by
 subst l;refine aT Tryz.func63 λ w0=>?_;refine cW ?_;refine cY (n:=ws.length) (c:=ws.length) rfl rfl rfl rfl rfl rfl aa aa aa aE λ g=>?_;rw[show made [af 0] (ws.length*1)=aj (List.replicate ws.length 0) by rw[db,NR];simp[aj]];refine cS ?_;refine au ?_
 refine bS (σ:=Nat) (λ k=>[(14,af k),(13,af ws.length),(12,.slice B ws.length s),(4,ax g 0 ws.length ws.length)]) (λ k=>[.own (ax g 0 ws.length ws.length) 2 1 ws.length (aj ((ws.take k).map (λ w=>(et w).1)++List.replicate (ws.length-k) 0)),.seg f i (cj ws)]++V.heap)
  (λ k=>k<=ws.length/\∀ j x,j<k->ws[j]?=some x->(et x).2=0) (λ k=>ws.length-k) 0 [0,1,2,3,4] a8 ab rfl ⟨Nk _,λ j x h=>by omega⟩ ?_
 rintro k ⟨E,a⟩;refine ao ?_;refine am (ak rfl (λ u=>ag ?_) (λ z=>aO ?_))
 ·have hlt':k<ws.length:=by omega
  obtain⟨x,hx⟩:∃ x,ws[k]?=some x:=⟨ws[k],an hlt'⟩;obtain rfl:=t (by rintro rfl;simp at hlt');have C:=hw x (M9 hx);refine am (au ?_);refine Kz ?_;refine ak rfl (λ he=>?_) (λ he=>ag ?_)
  ·have b:=sn hx a he;refine ao ?_;refine b6 2 1<|aL [0] ⟨_,rfl,none,0,?_,?_⟩
   ·rw[b,show sS ws=false from OE (by rw[b];exact he)];rfl
   ·rw[b];rfl
  ·have m:(et x).2=0:=Nn.1 he;refine Iy ?_;refine⟨k+1,[0,1,2,3,4],⟨?_,rfl,rfl,rfl,be⟩,ab,?_,⟨aa,λ j y o p=>?_⟩,aa⟩
   ·refine fJ ?_;rw[cv aa];rfl
   ·have:((ws.take k).map (λ w=>(et w).1)++List.replicate (ws.length-k) 0).set k (et x).1=(ws.take (k+1)).map (λ w=>(et w).1)++List.replicate (ws.length-(k+1)) 0:=by
     have hl:((ws.take k).map (λ w=>(et w).1)).length=k:=by rw[Nj,ND];omega
     refine GR ?_;simp
    rw[<- this];simp only[NO];rfl
   ·by_cases e:j=k
    ·subst e;rw[hx] at p;obtain rfl:=NM p;exact m
    ·exact a j y aa p
 have q:k=ws.length:=aa;subst q
 have d:=tB (ws:=ws) λ w r=>by
  obtain⟨j,o,e⟩:=Pp r;exact a j w o (by rw[an o,e])
 refine xM ?_;refine ao ?_;refine aL [0] ⟨_,rfl,aJ g 0,ws.length,?_,?_⟩
 ·rw[d,show sS ws=true from OU (by rw[d])];simp only[Nj];rfl
 ·rw[d];simp only[Nj]
theorem fq(V:LibV)(f:LU_)(z:f.length<=100)(l:LI_)(hl:∀ n∈l,b9 n)(j:l.length<=100000)(B:OA_)(n i b d:Nat)(o:l≠[]->B=some ⟨b,d,none⟩)(q:n=l.length):
 Fn 69 [du f,.slice B n i] [] ([.seg b d (aj l)]++V.heap) λ v H'=>v=du (gG f l)/\H'=[]:=by
 subst q;have r:=fi f l hl;refine aT Tryz.func69 λ w0=>?_;refine cW ?_;refine dp λ g0=>?_;refine ji ?_;refine cS ?_;refine au ?_
 refine bS (σ:=Nat×OA_×Nat) (λ s=>[(12,af s.1),(11,af l.length),(10,.slice B l.length i),(5,.slice s.2.1 (f::(l.take s.1).map itoa).length s.2.2)])
  (λ s=>[.own (.slice s.2.1 (f::(l.take s.1).map itoa).length s.2.2) 9 1 (f::(l.take s.1).map itoa).length (cj (f::(l.take s.1).map itoa)),.seg b d (aj l)]++V.heap)
  (λ s=>s.1<=l.length) (λ s=>l.length-s.1) (0,aJ g0 0,1) [0,1,2,3,4] a8 ab rfl (Nk _) ?_
 rintro⟨k,A,c⟩ t;simp only at t ⊢;refine ao ?_;refine am (ak rfl (λ u=>ag ?_) (λ w=>aO ?_))
 ·have hlt':k<l.length:=by omega
  obtain⟨x,e⟩:∃ x,l[k]?=some x:=⟨l[k],an hlt'⟩;obtain rfl:=o (by rintro rfl;simp at hlt');have hxB:=hl x (M9 e);have hlen:(f::(l.take k).map itoa).length=k+1:=by rw[Nf,Nj,ND];omega
  refine am (au ?_);refine wo ?_;refine aG (a7 1 rfl rfl (bq e)) ?_;refine Aq ?_;refine dp λ g2=>?_;refine bp (n:=(f::(l.take k).map itoa).length) (m:=1) (off:=0) (news:=cj [itoa x]) 1 0 rfl rfl rfl rfl rfl rfl ab rfl rfl (aQ g2 _ _ (0,0)) aE rfl rfl aa aa (λ _ _=>rfl) λ y c2=>cS ?_;have a:f::(l.take (k+1)).map itoa=(f::(l.take k).map itoa)++[itoa x]:=by rw[Nv,e];simp
  refine⟨(k+1,y,c2),[1,2,3,4,5],⟨?_,rfl,rfl,?_,be⟩,ab,?_,by simp only;omega,by simp only;omega⟩
  ·refine fJ ?_;rw[cv aa];rfl
  ·simp only[a];rw[Ng];rfl
  ·simp only[a];rw[Ng,show cj ((f::(l.take k).map itoa)++[itoa x])=cj (f::(l.take k).map itoa)++cj [itoa x] by simp[cj]];rfl
 obtain rfl:k=l.length:=aa;refine aP (aH 0 rfl) (λ ho=>?_);obtain⟨g,rfl⟩:=ho.2.2.1 ai;rw[NH] at*;exact HQ
theorem pu{l:LI_}{k:Nat}{x:Int}(a:l[k]?=some x):(l.take k++List.replicate (l.length-k) 0).set k x=l.take (k+1)++List.replicate (l.length-(k+1)) 0:=by
 have b:k<l.length:=(Nb.1 a).1;have hl:(l.take k).length=k:=by rw[ND];omega
 rw[OC _ _ aa,hl,OB,Nv,a,show l.length-k=(l.length-(k+1))+1 by omega,Ol,OT];simp
theorem Hh(l:LI_)(hl:l.length<=100000)(B:OA_)(n d a b:Nat)(f:l≠[]->B=some ⟨a,b,none⟩)(i:n=l.length):
 Fn 68 [.slice B n d] [] [.seg a b (aj l)] λ v H'=>∃ g:Nat,v=.slice (some ⟨g,0,none⟩) l.length l.length/\H'=[.own (.slice (some ⟨g,0,none⟩) l.length l.length) 3 1 l.length (aj l)]:=by
 subst i;refine aT Tryz.func68 λ w0=>?_;refine cW ?_;refine cY (n:=l.length) (c:=l.length) rfl rfl rfl rfl rfl rfl aa aa aa aE λ g=>?_;rw[oN];refine pJ ?_
 refine bS (σ:=Nat) (λ k=>[(11,af k),(10,af l.length),(9,.slice B l.length d),(3,ax g 0 l.length l.length)]) (λ k=>[.own (ax g 0 l.length l.length) 3 1 l.length (aj (l.take k++List.replicate (l.length-k) 0)),.seg a b (aj l)])
  (λ k=>k<=l.length) (λ k=>l.length-k) 0 [0,1] a8 ab rfl (Nk _) ?_
 rintro k o;refine ao ?_;refine am (ak rfl (λ j=>ag ?_) (λ m=>aO ?_))
 ·have hlt':k<l.length:=by omega
  obtain⟨x,e⟩:∃ x,l[k]?=some x:=⟨l[k],an hlt'⟩;obtain rfl:=f (by rintro rfl;simp at hlt');refine am (au ?_);refine wo ?_;refine aG (a7 1 rfl rfl (b7 e)) ?_;refine ew ?_;refine aG (hU rfl hlt') ?_;refine BV ?_;refine cS ?_;refine⟨k+1,[0,1],⟨M8 (λ z=>some (af z)) (cv aa),rfl,rfl,rfl,be⟩,ab,?_,aa,aa⟩;rw[<- pu e];simp only[NO];rfl
 obtain rfl:k=l.length:=aa;refine xM ?_;refine ao ?_;exact aL [0] ⟨_,rfl,g,rfl,rfl⟩
theorem xT(V:LibV)(w:LU_)(hw:w.length<=100)(l:LI_)(hi:∀ n∈l,b9 n)(hl:l.length<=100000)(B:OA_)(n d a b:Nat)(f:l≠[]->B=some ⟨a,b,none⟩)(i:n=l.length):
 Fn 101 [du w,.slice B n d] [] ([.seg a b (aj l)]++V.heap) λ v H'=>v=du (gG w l)/\H'=[]:=by
 subst i;refine aT Tryz.func101 λ w0=>?_;refine cW ?_;refine cY (n:=l.length) (c:=l.length) rfl rfl rfl rfl rfl rfl aa aa aa aE λ g=>?_;rw[oN];refine pJ ?_
 refine bS (σ:=Nat) (λ k=>[(13,af k),(12,af l.length),(11,.slice B l.length d),(5,ax g 0 l.length l.length),(0,du w)]) (λ k=>[.own (ax g 0 l.length l.length) 2 1 l.length (aj (l.take k++List.replicate (l.length-k) 0)),.seg a b (aj l)]++V.heap)
  (λ k=>k<=l.length) (λ k=>l.length-k) 0 [0,1,2,3,4] a8 ab rfl (Nk _) ?_
 rintro k o;refine ao ?_;refine am (ak rfl (λ j=>ag ?_) (λ m=>aO ?_))
 ·have hlt':k<l.length:=by omega
  obtain⟨x,e⟩:∃ x,l[k]?=some x:=⟨l[k],an hlt'⟩;obtain rfl:=f (by rintro rfl;simp at hlt');refine am (au ?_);refine wo ?_;refine aG (a7 1 rfl rfl (bq e)) ?_;refine ew ?_;refine aG (hU rfl hlt') ?_;refine BV ?_;refine cS ?_;refine⟨k+1,[0,1,2,3,4],⟨M8 (λ z=>some (af z)) (cv aa),rfl,rfl,rfl,rfl,be⟩,ab,?_,aa,aa⟩;rw[<- pu e];simp only[NO];rfl
 obtain rfl:k=l.length:=aa;refine xM ?_;refine aI ?_;refine cH (fq V w hw l hi hl (aJ g 0) l.length l.length g 0 aE rfl) rfl ⟨gC 0 rfl b8 (.inr rfl),⟨2,ai,rfl⟩,⟨3,ai,rfl⟩,⟨4,ai,rfl⟩,be⟩ ?_;exact mG
def Lc(A:OA_)(c:Nat)(o:List bP):aU:=.own (.slice A o.length c) 9 1 o.length (cj o)
def GE(o:List bP)(v:Value)(H':Heap):Prop:=∃ (A:OA_) (c:Nat),v=.slice A o.length c/\H'=[Lc A c o]
theorem EN:Fn 72 [] [] [] (GE eH):=by
 refine aT Tryz.func72 λ w0=>?_;refine cW ?_;refine dp λ g=>?_;refine ji ?_;refine aN ?_;exact aL [0] ⟨_,rfl,aJ g 0,1,rfl,rfl⟩
theorem jy(V:LibV)(e:Int)(he:b9 e)(A:OA_)(n c:Nat):Fn 65 [.int .i64 e,.slice A n c] [] V.heap λ v H'=>(e=0/\v=.slice A n c/\H'=[])\/(e≠0/\GE (j0 e) v H'):=by
 refine aT Tryz.func65 λ w0=>?_;refine i6 ?_;refine ak rfl (λ a=>?_) (λ a=>ag ?_)
 ·refine aI ?_;refine dp λ g=>?_;refine cH (fq V xc ab [e] (λ x b=>by rw[Nh.1 b];exact he) ai (aJ g 0) 1 1 g 0 aE rfl) rfl ⟨en 0 rfl,⟨1,ai,rfl⟩,⟨2,ai,rfl⟩,⟨3,ai,rfl⟩,be⟩ ?_;refine dp λ g2=>?_;refine ji ?_;refine aN ?_;exact aL [0] ⟨_,rfl,.inr ⟨a,aJ g2 0,1,rfl,rfl⟩⟩
 ·refine ao ?_;exact aL [] ⟨_,rfl,.inl ⟨Nn.1 a,rfl,rfl⟩⟩
def Fc(N:aR)(v:Int)(k:Nat):LN_:=(List.range k).filter (vL N v)
theorem D9{N:aR}{v:Int}{k:Nat}{a:eq}(h:N.arcs[k]?=some a):Fc N v (k+1)=Fc N v k++(if a.fr=v then [k] else []):=by
 unfold Fc;rw[OY,Pr]
 congr 1
 unfold vL;simp only[OJ,List.filter_nil,h,NW]
theorem FC(N:aR)(v:Int)(k:Nat):(Fc N v k).length<=k:=by
 have:=OA (vL N v) (List.range k);rw[Om] at this;exact this
def qR(its:List (Int×ff×Int)):LV_:=(its.map λ x=>[Value.int .u8 x.1,cT x.2.1,Value.int .i64 x.2.2]).flatten
theorem Kq(its:List (Int×ff×Int))(x:Int×ff×Int):qR its++[Value.int .u8 x.1,cT x.2.1,Value.int .i64 x.2.2]=qR (its++[x]):=by simp[qR]
section
variable {X:Cx}
theorem aw.mid3{A A1 b R I:Heap}(ix a:LN_)(c:Proofs.YtmcnpaelaieniaaGreatDoor.cI A ix=some A1)(d:Proofs.YtmcnpaelaieniaaGreatDoor.cI A a=some b)(e:(ix++a).Nodup):aw X (A++(R++I)) ((A1++R)++(b++I)):=
 (aw.mid2 ix a c d e).trans (aw.perm (Pe _ OO))
theorem aw.ret3{A B R I:Heap}:aw X ((A++R)++(B++I)) ((A++B)++(R++I)):=
 (aw.perm (Pe _ OO)).trans aw.ret2
end
def AS(N:aR)(f:LI_)(v:Value)(H':Heap):Prop:=∃ (its:List (Int×ff×Int)) (A':OA_) (c':Nat),its.map (λ x=>(x.1,x.2.1.l,x.2.2))=(lC N ⟨f,dJ (N.arcs.zip f) N.snk⟩).map (λ y=>(y.1,y.2.1.map (λ (i:Nat)=>(i:Int)),y.2.2))/\
 v=.tuple #[.slice A' its.length c',.int .i64 0]/\H'=[.own (.slice A' its.length c') 235 3 its.length (qR its)]++its.map λ x=>bg 3 x.2.1
theorem DE(N:aR)(hN:N.Fits)(hR:N.Right)(A:OA_)(c b o:Nat)(hA:N.arcs≠[]->A=some ⟨b,o,none⟩)(f:LI_)(F:OA_)(cf bf of:Nat)(hF:f≠[]->F=some ⟨bf,of,none⟩)(hf:∀ x∈f,b9 x)(e1:f.length*8<=140737488351232)(g:aD N f)(V:N.arcs≠[]):
 Fn 157 [cd N A c,.slice F f.length cf] [] [.seg b o (arcs N.arcs),.seg bf of (aj f)] (AS N f):=by
 have p2:=hR.len;have k0:=hR.nodes;have hlen:=g.len;obtain rfl:=hA V;obtain rfl:=hF (by rintro rfl;simp only[NA] at hlen;exact V (Nw.1 hlen.symm));obtain⟨n,hn⟩:∃ n:Nat,N.nodes=n:=⟨N.nodes.toNat,aa⟩;refine aT Tryz.func157 λ w0=>?_;refine bA ?_;refine dh (cs:=bY N (aJ b o) c) λ p=>?_;refine fR ?_;refine bh (v:=cd N (aJ b o) c) 0 ?_;refine az ?_;refine dB (f8 N hN hR (aJ b o) c b o hA f (aJ bf of) cf bf of hF hf e1) rfl ⟨bx 1 rfl,bx 2 rfl,be⟩ ?_;rintro v H' ⟨⟨rfl,_⟩|⟨_,hW⟩,rfl⟩
 case inr=>exact absurd g hW
 refine dE ?_;obtain⟨vv,hz⟩:∃ vv,vv=dJ (N.arcs.zip f) N.snk:=⟨_,rfl⟩;rw[<- hz];refine cS ?_;refine ak rfl (λ h=>absurd rfl h) (λ _=>ag ?_)
 refine iB (σ:=Nat×Nat×Nat×Nat) (λ t=>[(8,ap t.1 0),(2,ap p 0)])
  (λ t=>[blk t.1 256 (pz N (aJ b o) c (aJ t.2.1 0) f.length t.2.2.1 vv (aJ t.2.2.2 0) (n+1) (n+1) 0),.own (ax t.2.2.2 0 (n+1) (n+1)) 23 1 (n+1) ((List.replicate (n+1) ek).map cT),.own (ax t.2.1 0 f.length t.2.2.1) 2 1 f.length (aj f),blk p 33 (bY N (aJ b o) c),.seg b o (arcs N.arcs)]) ?_ ?_
 ·refine lz (Sf:=[blk p 33 (bY N (aJ b o) c)])<|jY [0,1,3,4,5,6] bC [0] ab rfl<|?_
  (repeat' (first|refine eI (gs:=[999]) rfl rfl ?_|refine aF [999] (v:=cd N (aJ b o) c) rfl (ad 0 rfl) rfl ?_|refine aF [999] (v:=af N.nodes) rfl (ad 0 rfl) rfl ?_))
  refine G2 ?_;refine av 2 [7] bC ab ⟨⟨_,rfl,?_⟩,⟨_,rfl,?_⟩,be⟩
  ·refine fh (fst:=[]) (cap:=[]) (gS (aJ bf of) cf bf of f aE aa) rfl ⟨bx 2 rfl,be⟩ ?_;rintro u H' ⟨Al,z,rfl,rfl⟩;refine fj (aH 0 rfl) λ ⟨_,_,B,hc⟩=>?_;obtain⟨bl,B⟩:=bo B hc;obtain rfl:=B (by intro h0;have:=bU f;rw[h0] at this;simp only[NA] at this;exact V (Nw.1 aa));refine ah ⟨⟨[1],by decide,rfl⟩,?_⟩;refine av 7 [] bC ab ⟨⟨_,rfl,?_⟩,be⟩;refine cY (n:=n+1) (c:=n+1) rfl rfl rfl rfl rfl rfl aa aa aa aE λ go=>?_;rw[show made [Value.slice none 0 0] ((n+1)*1)=(List.replicate (n+1) ek).map cT by rw[db,NR,OH];rfl];refine ah ⟨⟨[2],by decide,rfl⟩,?_⟩;refine av 8 [] bC ab ⟨⟨_,rfl,?_⟩,be⟩;refine fv ?_;refine ah ⟨⟨[2],by decide,rfl⟩,?_⟩;refine av 9 [] bC ab ⟨⟨_,rfl,?_⟩,be⟩;refine dh (cs:=pz N (aJ b o) c (aJ bl 0) f.length z vv (aJ go 0) (n+1) (n+1) 0) λ H=>?_;refine ah ⟨⟨[3],by decide,rfl⟩,?_⟩;refine av 10 [] bC ab ⟨⟨_,rfl,?_⟩,be⟩;refine aN ?_;refine⟨⟨[3],ab,rfl⟩,?_⟩;exact fb bC ⟨(H,bl,z,go),a8,aw.picks [0,1,2,3,4] ab rfl⟩
  ·refine cY (n:=n+1) (c:=n+1) rfl rfl rfl rfl rfl rfl aa aa aa aE λ go=>?_;rw[show made [Value.slice none 0 0] ((n+1)*1)=(List.replicate (n+1) ek).map cT by rw[db,NR,OH];rfl];refine ah ⟨⟨[1],by decide,rfl⟩,?_⟩;refine av 2 [] bC ab ⟨⟨_,rfl,?_⟩,be⟩;refine fh (fst:=[]) (cap:=[]) (gS (aJ bf of) cf bf of f aE aa) rfl ⟨bx 3 rfl,be⟩ ?_;rintro u H' ⟨Al,z,rfl,rfl⟩;refine fj (aH 0 rfl) λ ⟨_,_,B,hc⟩=>?_;obtain⟨bl,B⟩:=bo B hc;obtain rfl:=B (by intro h0;have:=bU f;rw[h0] at this;simp only[NA] at this;exact V (Nw.1 aa));refine ah ⟨⟨[2],by decide,rfl⟩,?_⟩;refine av 8 [] bC ab ⟨⟨_,rfl,?_⟩,be⟩;refine fv ?_;refine ah ⟨⟨[2],by decide,rfl⟩,?_⟩;refine av 9 [] bC ab ⟨⟨_,rfl,?_⟩,be⟩;refine dh (cs:=pz N (aJ b o) c (aJ bl 0) f.length z vv (aJ go 0) (n+1) (n+1) 0) λ H=>?_;refine ah ⟨⟨[3],by decide,rfl⟩,?_⟩;refine av 10 [] bC ab ⟨⟨_,rfl,?_⟩,be⟩;refine aN ?_;refine⟨⟨[3],ab,rfl⟩,?_⟩;exact fb bC ⟨(H,bl,z,go),a8,aw.picks [0,2,1,3,4] ab rfl⟩
 rintro⟨H,bl,z,go⟩;refine aI ?_;refine bh (v:=ax b o N.arcs.length c) 3 ?_;refine ik ?_;refine bQ (aw.nils 3 (n+1)) ?_
 refine cN (σ:=Nat×List ff) (λ s=>[(34,af (s.1:Int)),(33,af (N.arcs.length:Int)),(32,ax b o N.arcs.length c),(8,ap H 0),(2,ap p 0)])
  (λ s=>[blk H 256 (pz N (aJ b o) c (aJ bl 0) f.length z vv (aJ go 0) (n+1) (n+1) 0),.own (ax go 0 (n+1) (n+1)) 23 1 (n+1) (s.2.map cT),.own (ax bl 0 f.length z) 2 1 f.length (aj f),blk p 33 (bY N (aJ b o) c),.seg b o (arcs N.arcs)]++s.2.map (bg 3))
  (λ s=>s.1<=N.arcs.length/\s.2.length=n+1/\∀ (v:Nat) (r:ff),s.2[v]?=some r->r.l=(Fc N (v:Int) s.1).map λ (i:Nat)=>(i:Int)) (λ s=>N.arcs.length-s.1)
  (0,List.replicate (n+1) ek) a8 aw.refl ⟨Nk _,ai,λ v r h=>?_⟩ ?_
 ·rw[Nt] at h;split at h
  ·simp only[Na] at h;subst h;rfl
  ·cases h
 rintro⟨k,rows⟩ ⟨hk,L,Y⟩;simp only at hk L Y ⊢;refine ao ?_;refine am (ak rfl (λ hlt=>ag ?_) (λ p8=>aO ?_))
 ·have hlt:k<N.arcs.length:=by omega
  obtain⟨a,ha⟩:∃ a,N.arcs[k]?=some a:=⟨_,an hlt⟩;have k4:=hR.arc a (M9 ha);obtain⟨v,hv⟩:∃ v:Nat,a.fr=v:=⟨a.fr.toNat,aa⟩;have hs:v<rows.length:=aa;obtain⟨row,d⟩:∃ r,rows[v]?=some r:=⟨rows[v],an hs⟩;have hy:=Y v row d;have hG:=FC N (v:Int) k;have C:row.l.length=(Fc N (v:Int) k).length:=by rw[hy,Nj]
  refine am (au ?_);refine tY ?_;refine aG (a7 4 rfl rfl (jm ha)) ?_;refine az ?_;refine dM λ ho=>?_;refine mU ?_;show J _ _ _ _ ([blk ho 37 [af a.fr,af a.to,af a.cap],_,_,_,_,_]++rows.map (bg 3));rw[hv];refine bQ (aw.front (i:=v) (c:=bg 3 row) (by rw[Ni,d];rfl)) ?_;refine cA ?_;refine bK 18 (dS [0,1,2,3,4,5,6,7,8,9,10,11,12,13,14]++[(15,false),(16,false)]++dS [17]) [1,2,3] aW ab rfl<|IR ?_;refine IR ?_;refine nJ ?_;refine bc rfl (aA (v:=cT row) 2 rfl rfl rfl (show (rows.map cT)[v]?=some (cT row) by rw[Ni,d];rfl)) ?_;refine jM ?_;refine dp λ g2=>?_;refine bZ [2,3,4]<|cz ?_;refine bp (n:=row.l.length) (m:=1) (off:=0) (news:=aj [(k:Int)]) 1 0 rfl rfl rfl rfl rfl rfl ab rfl rfl (aQ g2 _ _ (0,0)) aE rfl rfl aa aa (λ _ _=>rfl) λ A2 c2=>BE ?_;refine Ia ?_;refine⟨(k+1,rows.set v ⟨A2,c2,row.l++[(k:Int)]⟩),⟨?_,rfl,rfl,rfl,rfl,be⟩,?_,⟨by simp only;omega,by simp only[NQ];omega,λ u q hu=>?_⟩,by simp only;omega⟩
  ·refine fJ ?_;rw[cv aa];rfl
  ·simp only[O1];refine aw.trans (aw.sub (NU _ _)) (aw.trans (aw.back (A:=[_,_,_,_,_,_]) (by rw[Nj];exact hs)) (aw.re [1,2,3,4,5] rfl ab))
  ·simp only at hu ⊢;rw[D9 ha,NJ];by_cases hH:v=u
   ·subst hH;rw[No hs] at hu;simp only[Na] at hu;rw[<- hu,if_pos hv,hy];rfl
   ·rw[Nq hH] at hu;rw[if_neg (λ e=>hH aa),Oi,NL];exact Y u q hu
 obtain rfl:k=N.arcs.length:=aa;refine aP (p:=∀ v:Nat,∃ Z:Nat,∀ row,rows[v]?=some row->row.l.length<=row.c/\(aj row.l≠[]->row.A=aJ Z 0)) (λ w hw v=>?_) λ D=>?_
 ·cases hv:rows[v]? with
  |none=>exact⟨0,λ row h=>by cases h⟩
  |some row=>
   obtain⟨_,h2,h3,h4⟩:=aH (X:=⟨w0,[],⟨0,[]⟩⟩) (v+5) (show _=some (bg 3 row) by show (rows.map (bg 3))[v]?=_;rw[Ni,hv];rfl) w hw;obtain⟨Z,M⟩:=bo h3 h4;exact⟨Z,λ s3 h=>by simp only[Na] at h;subst h;exact⟨h2,M⟩⟩
 obtain⟨Z,M⟩:∃ Z:Nat->Nat,∀ (v:Nat) (row:ff),rows[v]?=some row->row.l.length<=row.c/\(aj row.l≠[]->row.A=aJ (Z v) 0):=⟨λ v=>Classical.choose (D v),λ v=>Pf (D v)⟩
 clear D
 have c1:tv rows Z (List.replicate (n+1) 0) (rows.map cT):=by
  refine⟨ai,λ v row q hr hq=>?_⟩;rw[Nt] at hq;split at hq
  ·obtain rfl:=NM hq;refine⟨row.A,row.c,by rw[Ni,hr];rfl,(M v row hr).1,λ hlt=>(M v row hr).2 (λ h0=>?_)⟩;have:=bU row.l;rw[h0] at this;simp only[NA] at this;omega
  ·cases hq
 have hS:=zH.start N f n;have hL:∀ (v:Nat) (row:ff),rows[v]?=some row->row.l=(iE N (v:Int)).map λ (i:Nat)=>(i:Int):=Y;obtain⟨U,O⟩:∃ U:Wk,U=⟨f,vv⟩:=⟨_,rfl⟩
 have q2:U.size<=2001:=by
  have:qr U.left<=U.left.length:=List.countP_le_length;have e:U.left.length=f.length:=by rw[O]
  unfold Wk.size;split<;>omega
 have k3:U.OK N:=by subst O;exact⟨g,hz.symm⟩
 refine jZ ?_;refine b6 235 3 ?_
 refine cN (σ:=List (Int×ff×Int)×List (Int×LN_×Int)×Wk×LN_×LV_×Nat×OA_×Nat) (λ s=>[(11,.slice s.2.2.2.2.2.2.1 s.1.length s.2.2.2.2.2.2.2),(8,ap H 0),(2,ap p 0)])
  (λ s=>[.own (.slice s.2.2.2.2.2.2.1 s.1.length s.2.2.2.2.2.2.2) 235 3 s.1.length (qR s.1),blk H 256 (pz N (aJ b o) c (aJ bl 0) s.2.2.1.left.length z s.2.2.1.val (aJ go 0) (n+1) (n+1) (s.2.2.2.2.2.1:Nat)),.own (ax go 0 (n+1) (n+1)) 23 1 (n+1) s.2.2.2.2.1,.own (ax bl 0 s.2.2.1.left.length z) 2 1 s.2.2.1.left.length (aj s.2.2.1.left),blk p 33 (bY N (aJ b o) c),.seg b o (arcs N.arcs)]++(rows.map (bg 3)++s.1.map λ x=>bg 3 x.2.1))
  (λ s=>s.2.2.1.OK N/\tv rows Z s.2.2.2.1 s.2.2.2.2.1/\zH N s.2.2.1.left n s.2.2.2.1/\s.2.2.2.2.2.1<=s.2.2.1.left.length/\(∀ j x,j<s.2.2.2.2.2.1->s.2.2.1.left[j]?=some x->i5 x=false)/\s.1.map (λ x=>(x.1,x.2.1.l,x.2.2))=s.2.1.map (λ y=>(y.1,y.2.1.map (λ (i:Nat)=>(i:Int)),y.2.2))/\s.2.1++lC N s.2.2.1=lC N U/\s.1.length+s.2.2.1.size<=U.size) (λ s=>s.2.2.1.size)
  ([],[],U,List.replicate (n+1) 0,rows.map cT,0,none,0) a8 (by subst O;simp only[Oi,NL];exact aw.refl) ⟨k3,c1,by subst O;exact hS,Nk _,λ j x h=>absurd h (Nat.not_lt_zero _),rfl,rfl,ai⟩ ?_
 rintro⟨its,ps,w,pos,vals,k,Ai,ci⟩ ⟨hw,hV,hD,hg,hb,P,h1,hd⟩;simp only at hw hV hD hg hb P h1 hd ⊢;have b2:=hw.flow.len;refine aP (aH 3 rfl) λ ⟨_,hB,_,_⟩=>aI ?_;refine bJ (fst:=[]) (cap:=[]) [] (zw N (aJ b o) c w.left aa (aJ bl 0) z bl hB aE w.val (aJ go 0) (n+1) (n+1) k hg hb H) rfl rfl rfl rfl aW (K:=[.own (.slice Ai its.length ci) 235 3 its.length (qR its),.own (ax go 0 (n+1) (n+1)) 23 1 (n+1) vals,.own (ax bl 0 w.left.length z) 2 1 w.left.length (aj w.left),blk p 33 (bY N (aJ b o) c),.seg b o (arcs N.arcs)]++(rows.map (bg 3)++its.map λ x=>bg 3 x.2.1)) (aw.re (A1:=[blk H 256 (pz N (aJ b o) c (aJ bl 0) w.left.length z w.val (aJ go 0) (n+1) (n+1) (k:Nat)),.own (.slice Ai its.length ci) 235 3 its.length (qR its),.own (ax go 0 (n+1) (n+1)) 23 1 (n+1) vals,.own (ax bl 0 w.left.length z) 2 1 w.left.length (aj w.left),blk p 33 (bY N (aJ b o) c),.seg b o (arcs N.arcs)]) (R:=rows.map (bg 3)++its.map λ x=>bg 3 x.2.1) [1,0,2,3,4,5] rfl ab) ⟨gC 2 rfl b8 (.inr rfl),be⟩ aE ?_;rintro u H' ⟨rfl,rfl⟩;refine ef ?_;refine ak rfl (λ hp=>ag ?_) (λ hp=>aO ?_)
 ·have hp:bW w.left<w.left.length:=hp;obtain⟨q1,l2,r1,hP,l1⟩:=pN hR hw hp;have E:=El hR hw hp;refine au ?_;show J _ _ _ _ ([_,_,_,_,_,_]++(rows.map (bg 3)++its.map fun x=>bg 3 x.2.1));refine aI ?_;refine dC (fst:=[]) (cap:=[]) (GJ N hR (aJ b o) c b o aE w hw hp z bl go n hn H rows L hL Z (fun v row h=>(M v row h).2) pos vals hV hD) rfl (aw.mid3 (R:=rows.map (bg 3)) (I:=its.map fun x=>bg 3 x.2.1) [0,2,3] [1,4,5] rfl rfl ab) ⟨bx 2 rfl,trivial⟩ ?_;rintro u H' ⟨e2,ht,A4,c4,n1,h5,rfl,rfl⟩;refine⟨dc rfl (dd _ rows),?_⟩;refine cK aw.ret3<|az ?_;obtain⟨row,d⟩:∃ row:ff,row=⟨A4,c4,(hQ N w).2.1.map fun (i:Nat)=>(i:Int)⟩:=⟨_,rfl⟩;have C:row.l.length=(hQ N w).2.1.length:=by rw[d,List.length_map]
  have Q:Value.slice A4 (hQ N w).2.1.length c4=cT row:=by unfold cT;rw[C,d]
  have k2:aU.own (.slice A4 (hQ N w).2.1.length c4) 3 1 (hQ N w).2.1.length (cJ (hQ N w).2.1)=bg 3 row:=by unfold bg;rw[<- Q,C,d];rfl
  rw[k2,Q];refine dp λ g8=>?_;refine bp (n:=its.length) (m:=1) (off:=0) (news:=[Value.int .u8 (hQ N w).1,cT row,af (hQ N w).2.2]) 5 0 rfl rfl rfl rfl rfl rfl ab rfl rfl (aQ g8 _ _ (0,0)) aE rfl rfl aa aa (λ _ _=>rfl) λ A7 c7=>?_;rw[Kq its ((hQ N w).1,row,(hQ N w).2.2),show its.length+1=(its++[((hQ N w).1,row,(hQ N w).2.2)]).length by simp];refine aN ?_;have S:=(E 0).2;have hI:=zB hR hw hp;refine⟨(its++[((hQ N w).1,row,(hQ N w).2.2)],ps++[hQ N w],z7 N w,e2,ht,bW w.left,A7,c7),a8,?_,⟨q1,n1,h5.fall λ i=>(E i).1,by simp only;omega,EO S (λ i=>(E i).1) λ j x hj hx=>BU hj hx,?_,?_,by simp only[Ng,Nf,NA];omega⟩,by simp only;omega⟩
  ·simp only[NJ,Ns,Oi];rw[S];exact (show aw _ ([_,_,_,_,_,_,_,_]++(rows.map (bg 3)++its.map λ x=>bg 3 x.2.1)) _ from (aw.re [1,5,2,3,4,6,7] rfl ab)).trans aw.give
  ·simp only[NJ,Ns,Oi];rw[P,d]
  ·simp only;rw[<- h1,hI,NI];rfl
 have hp:¬ bW w.left<w.left.length:=hp;rw[yx hp,NL,O,hz] at h1;refine ao ?_;show J _ _ _ _ ([_,_,_,_,_,_]++(rows.map (bg 3)++its.map λ x=>bg 3 x.2.1));exact bQ ((aw.re [1] rfl ab).trans (aw.sub (List.Sublist.append_left (List.sublist_append_right (rows.map (bg 3)) (its.map λ x=>bg 3 x.2.1)) _)))<|bM ⟨_,rfl,its,Ai,ci,by rw[P,h1],rfl,rfl⟩
theorem J4{N:aR}{e:Int}(h:0<=e/\e<N.arcs.length):∃ (i:Nat) (a:eq),e=i/\N.arcs[i]?=some a/\i<N.arcs.length/\kn N e=a.fr/\DO N e=a.to/\Je N e=a.cap:=by
 obtain⟨i,rfl⟩:∃ i:Nat,e=i:=⟨e.toNat,aa⟩;have hi:i<N.arcs.length:=aa;refine⟨i,N.arcs[i],rfl,an hi,hi,?_,?_,?_⟩
 ·exact kK (an hi)
 ·exact uv (an hi)
 ·unfold Je;rw[Nz,an hi]
theorem yV(N:aR)(e:Int)(W met:LI_)(last:Int):pL N (e::W) met last=if (met≠[]/\kn N e≠last)\/kn N e∈met then false else pL N W (met++[kn N e]) (DO N e):=rfl
def MV(k:Int)(R:OA_)(n c:Nat)(m:Int):Value:=.agg #[.int .u8 k,.slice R n c,.int .i64 m]
theorem G4(N:aR)(hR:N.Right)(A:OA_)(c b o:Nat)(hA:N.arcs≠[]->A=some ⟨b,o,none⟩)(k:Int)(W:LI_)(m:Int)(L:l7 N (k,W,m))(R:OA_)(cr n d:Nat)(X:W≠[]->R=some ⟨n,d,none⟩):
 Fn 180 [cd N A c,MV k R W.length cr m] [] [.seg b o (arcs N.arcs),.seg n d (aj W)] λ v H'=>v=.bool (mV N (k,W,m))/\H'=[]:=by
 have hf:=hR.len;have hn:W.length<=2000:=L.len;have s:W≠[]:=L.ne;have u:0<W.length:=NP.2 s;have hq:0<m:=L.amt.1;have w:∀ e∈W,0<=e/\e<N.arcs.length:=L.rng;have Y:k=112\/k=98\/k=99:=L.kind;obtain rfl:=X s
 have M:N.arcs≠[]:=by
  obtain⟨e,he⟩:=PU _ s;have:=w e he;rintro U;rw[U] at this;simp at this;omega
 obtain rfl:=hA M;refine aT Tryz.func180 λ w0=>?_;refine bA ?_;refine dh (cs:=bY N (aJ b o) c) λ p=>?_;refine dh (cs:=[.int .u8 k,ax n d W.length cr,af m]) λ q=>?_;refine ew ?_;refine bh (v:=af m) 0 ?_;refine az ?_;refine dD 13 rfl aa<|dY ?_;refine ae [3] (v:=ax n d W.length cr) (ad 0 rfl) rfl<|dY ?_;refine dD 18 rfl aa<|ah<|bu rfl (ag ?_);refine bA ?_;refine qt rfl aE λ V=>cS ?_;refine aI ?_;refine bh (v:=ax n d W.length cr) 1 ?_;refine ik ?_
 refine bS (σ:=Nat×Int) (λ t=>[(23,af t.1),(22,af W.length),(21,ax n d W.length cr),(6,af t.2),(5,.map (some V)),(2,ap p 0),(3,ap q 0)])
  (λ t=>[.obj V (jR (l9 ((W.take t.1).map (kn N)))),blk q 235 [.int .u8 k,ax n d W.length cr,af m],blk p 33 (bY N (aJ b o) c),.seg b o (arcs N.arcs),.seg n d (aj W)])
  (λ t=>t.1<=W.length/\pL N W [] 0=pL N (W.drop t.1) ((W.take t.1).map (kn N)) t.2/\(0<t.1->t.2=DO N ((W.take t.1).getLastD 0))) (λ t=>W.length-t.1)
  (0,0) [0,1,2,3,4] a8 ab rfl ⟨Nk _,ai,λ h=>absurd h ab⟩ ?_
 rintro⟨j,last⟩ ⟨hj,f,g⟩;simp only at hj f g ⊢;refine ao ?_;refine am (ak rfl (λ hlt=>ag ?_) (λ hs=>aO ?_))
 ·have hlt:j<W.length:=by omega
  obtain⟨e,he⟩:∃ e,W[j]?=some e:=⟨W[j],an hlt⟩;obtain⟨i,a,rfl,Z,hil,D,I,_⟩:=J4 (w e (M9 he));obtain⟨q0,q1,q2⟩:=gA Z;have K:W.take (j+1)=W.take j++[(i:Int)]:=by rw[Nv,he];rfl
  have hv:W.drop j=(i:Int)::W.drop (j+1):=by rw[N7 hlt];rw[(Nb.1 he).2]
  have O:((W.take j).map (kn N)≠[])↔0<j:=by
   rw[<- NP,Nj,ND];omega
  rw[hv] at f;rw[yV] at f;refine am (au ?_);refine jc ?_;refine aG (a7 4 rfl rfl (bq he)) ?_;refine aN ?_
  -- whether the walk goes on here
  refine am (gj [(60,.bool (dU ((0<j/\a.fr≠last)\/a.fr∈(W.take j).map (kn N)))),(8,af i),(23,af j),(22,af W.length),(21,ax n d W.length cr),(6,af last),(5,.map (some V)),(2,ap p 0),(3,ap q 0)]
   [.obj V (jR (l9 ((W.take j).map (kn N)))),blk q 235 [.int .u8 k,ax n d W.length cr,af m],blk p 33 (bY N (aJ b o) c),.seg b o (arcs N.arcs),.seg n d (aj W)] ?_ ?_)
  ·refine aI ?_;refine dD 30 rfl aa<|ic ?_;refine ae [2] (v:=ax b o N.arcs.length c) (ad 2 rfl) rfl<|ic ?_;refine dD 37 rfl aa<|bX [2,9] ?_;by_cases U:0<j
   ·refine d7 40 rfl aa<|bX [2,9,12] ?_;refine ae [2,9,12] (v:=ax b o N.arcs.length c) (ad 2 rfl) rfl<|bX [2,9,12] ?_;refine ae [2,9,12] (j9 rfl hil) rfl<|bX [2,9,12] ?_;refine ae [2,9,12] (v:=af a.fr) (fA 3 rfl rfl rfl (N3 _ _ _) q0) rfl<|bX [2,9,12] ?_;by_cases l:a.fr≠last
    ·refine d7 51 rfl l<|bX [2,9,12,23] ?_;exact ah ⟨[0,1,2,3,4],⟨M8 some (M8 Value.bool (aV (.inl ⟨U,l⟩)).symm),rfl,rfl,rfl,rfl,rfl,rfl,rfl,rfl,be⟩,ab,rfl⟩
    ·refine dD 51 rfl l<|KP ?_;refine ah ⟨[0,1,2,3,4],⟨?_,rfl,rfl,rfl,rfl,rfl,rfl,rfl,rfl,be⟩,ab,rfl⟩;refine M8 some ((dn _ _).trans (M8 Value.bool ?_));exact eB ⟨λ h=>.inr h,λ h=>h.resolve_left (λ h'=>l h'.2)⟩
   ·refine dD 40 rfl aa<|bX [2,9,12] ?_;refine aB 51 (v':=.bool false) rfl rfl<|KP ?_;refine ah ⟨[0,1,2,3,4],⟨?_,rfl,rfl,rfl,rfl,rfl,rfl,rfl,rfl,be⟩,ab,rfl⟩;refine M8 some ((dn _ _).trans (M8 Value.bool ?_));exact eB ⟨λ h=>.inr h,λ h=>h.resolve_left (λ h'=>U h'.1)⟩
  have B:((0<j/\a.fr≠last)\/a.fr∈(W.take j).map (kn N))↔((W.take j).map (kn N)≠[]/\kn N (i:Int)≠last)\/kn N (i:Int)∈(W.take j).map (kn N):=by rw[O,D]
  refine ak rfl (λ P=>?_) (λ C=>ag ?_)
  ·rw[if_pos (B.1 P)] at f;refine ao ?_;refine aL [] ⟨_,rfl,?_,rfl⟩;unfold mV;rw[if_neg (not_or.2 ⟨by simp only;omega,s⟩),if_pos f];rfl
  ·rw[if_neg (λ h=>C (B.2 h))] at f;refine GQ ?_;refine aG (j9 rfl hil) ?_;refine az ?_;refine aG (v:=af a.fr) (fA 3 rfl rfl rfl (N3 _ _ _) q0) ?_;refine pP 0 Tryz.underlying205 Tryz.underlying3 rfl rfl rfl rfl rfl (λ z hz=>?_) [] rfl ?_
   ·obtain⟨y,hy,rfl⟩:=NB.1 hz;rintro rfl;exact C (.inr hy)
   refine ah<|GQ ?_;refine aG (j9 rfl hil) ?_;refine az ?_;refine aG (v:=af a.to) (fA 3 rfl rfl rfl (N3 _ _ _) q1) ?_;refine cS ?_;refine⟨(j+1,a.to),[0,1,2,3,4],⟨M8 (λ z=>some (af z)) (cv aa),rfl,rfl,rfl,rfl,rfl,rfl,be⟩,ab,?_,⟨by simp only;omega,?_,λ _=>?_⟩,by simp only;omega⟩
   ·simp only[K,NJ,Ns,Oi,D];unfold l9;rw[NJ];rfl
   ·simp only[K,NJ,Ns,Oi];rw[f,I]
   ·simp only[K];rw[List.getLastD_eq_getLast?,N0];exact I.symm
 obtain rfl:j=W.length:=aa;rw[List.drop_length] at f;have hr:pL N W [] 0=true:=f;have g:=g u;rw[NH] at*;obtain⟨e0,E⟩:∃ e,W[0]?=some e:=⟨W[0],an u⟩
 have hb:W.headD 0=e0:=by
  cases hc:W with
  |nil=>exact absurd hc s
  |cons x r=>rw[hc] at E;simpa using E
 obtain⟨i,a,rfl,Z,hil,D,I,_⟩:=J4 (w e0 (M9 E));obtain⟨q0,q1,q2⟩:=gA Z
 have Q:mV N (k,W,m)=if k=112 then decide ((a.fr=N.src/\last=N.snk)/\last∉W.map (kn N)) else if k=98 then decide ((a.fr=N.snk/\last=N.src)/\last∉W.map (kn N)) else if k=99 then decide (a.fr=last) else false:=by
  unfold mV;rw[if_neg (not_or.2 ⟨by simp only;omega,s⟩),if_neg (by rw[hr];decide)];simp only[hb,D,<- g]
 rw[Q];refine cA ?_;refine bK 10 (dS [0,1,2,3,4,5,6,7,8,9]) [0,1,2,3,4] aW ab rfl<|a6 ?_;refine bc (v:=ax b o N.arcs.length c) rfl (ad 2 rfl) ?_;refine a6 ?_;refine bc (v:=ax n d W.length cr) rfl (ad 1 rfl) ?_;refine bc (v:=ap n (d+0)) rfl (hU (m:=0) rfl u) ?_;refine bc (v:=af i) rfl (a7 4 rfl rfl (bq E)) ?_;refine bc rfl (j9 rfl hil) ?_;refine a6 ?_;refine bc (v:=af a.fr) rfl (fA 3 rfl rfl rfl (N3 _ _ _) q0) ?_;refine iA ?_;refine aI ?_;refine bh (v:=.int .u8 k) 1 ?_;refine ik ?_;refine ao ?_;by_cases k1:k=112
 ·refine pj 86 rfl k1<|dy ?_;rw[if_pos k1];refine aI ?_;refine bh (v:=af N.src) 2 ?_;refine az ?_;by_cases l:a.fr=N.src
  ·refine d7 92 rfl l<|bX [4] ?_;refine ae [4] (v:=af N.snk) (ad 2 rfl) rfl<|bX [4] ?_;by_cases F:last=N.snk
   ·refine d7 98 rfl F<|bX [4,10] ?_;refine ae [4,10] (fZ 0 Tryz.underlying205 Tryz.underlying3 rfl rfl rfl rfl rfl) rfl ?_;by_cases H:last∈W.map (kn N)
    ·refine aB 101 (v':=.bool true) rfl ((dn _ _).trans (M8 Value.bool (aV H)))<|bX [4,10] ?_;refine ah (hZ [] ab rfl (bM ⟨_,rfl,M8 Value.bool (OE (λ h=>h.2 H)).symm,rfl⟩))
    ·refine aB 101 (v':=.bool false) rfl ((dn _ _).trans (M8 Value.bool (aZ H)))<|bX [4,10] ?_;refine ah (hZ [] ab rfl (bM ⟨_,rfl,M8 Value.bool (OU ⟨⟨l,F⟩,H⟩).symm,rfl⟩))
   ·refine dD 98 rfl F<|bX [4,10] ?_;refine ah (hZ [] ab rfl (bM ⟨_,rfl,M8 Value.bool (OE (λ h=>F h.1.2)).symm,rfl⟩))
  ·refine dD 92 rfl l<|bX [4] ?_;refine aB 98 (v':=.bool false) rfl rfl<|bX [4,10] ?_;refine ah (hZ [] ab rfl (bM ⟨_,rfl,M8 Value.bool (OE (λ h=>l h.1.1)).symm,rfl⟩))
 refine nj 86 rfl k1<|bu rfl<|?_;rw[if_neg k1];refine ao ?_;by_cases S:k=98
 ·refine pj 104 rfl S<|dy ?_;rw[if_pos S];refine aI ?_;refine bh (v:=af N.snk) 2 ?_;refine az ?_;by_cases l:a.fr=N.snk
  ·refine d7 110 rfl l<|bX [4] ?_;refine ae [4] (v:=af N.src) (ad 2 rfl) rfl<|bX [4] ?_;by_cases F:last=N.src
   ·refine d7 116 rfl F<|bX [4,10] ?_;refine ae [4,10] (fZ 0 Tryz.underlying205 Tryz.underlying3 rfl rfl rfl rfl rfl) rfl ?_;by_cases H:last∈W.map (kn N)
    ·refine aB 119 (v':=.bool true) rfl ((dn _ _).trans (M8 Value.bool (aV H)))<|bX [4,10] ?_;refine ah (hZ [] ab rfl (bM ⟨_,rfl,M8 Value.bool (OE (λ h=>h.2 H)).symm,rfl⟩))
    ·refine aB 119 (v':=.bool false) rfl ((dn _ _).trans (M8 Value.bool (aZ H)))<|bX [4,10] ?_;refine ah (hZ [] ab rfl (bM ⟨_,rfl,M8 Value.bool (OU ⟨⟨l,F⟩,H⟩).symm,rfl⟩))
   ·refine dD 116 rfl F<|bX [4,10] ?_;refine ah (hZ [] ab rfl (bM ⟨_,rfl,M8 Value.bool (OE (λ h=>F h.1.2)).symm,rfl⟩))
  ·refine dD 110 rfl l<|bX [4] ?_;refine aB 116 (v':=.bool false) rfl rfl<|bX [4,10] ?_;refine ah (hZ [] ab rfl (bM ⟨_,rfl,M8 Value.bool (OE (λ h=>l h.1.1)).symm,rfl⟩))
 refine nj 104 rfl S<|bu rfl<|?_;have k3:k=99:=(Y.resolve_left k1).resolve_left S;rw[if_neg S,if_pos k3];refine ao ?_;refine pj 122 rfl k3<|eP ?_;refine aL [] ⟨_,rfl,M8 Value.bool ?_,rfl⟩;by_cases h:a.fr=last
 ·rw[OU h];exact aV h
 ·rw[OE h];exact aZ h
abbrev Fy:=Int×ff×Int
def fm(x:Fy):It:=(x.1,x.2.1.l,x.2.2)
def pB(A:OA_)(c:Nat)(its:List Fy):Heap:=[.own (.slice A its.length c) 235 3 its.length (qR its)]++its.map λ x=>bg 3 x.2.1
theorem C7:∀ {its:List Fy} {i:Nat} {x:Fy},its[i]?=some x->(qR its)[i*3]?=some (.int .u8 x.1)/\(qR its)[i*3+1]?=some (cT x.2.1)/\(qR its)[i*3+2]?=some (.int .i64 x.2.2)
 |[],i,x,h=>by simp at h
 |a::l,0,x,h=>by simp at h;subst h;simp[qR]
 |a::l,i+1,x,h=>by
  have b:=C7 (its:=l) (i:=i) (x:=x) (by simpa using h);have e:qR (a::l)=[.int .u8 a.1,cT a.2.1,af a.2.2]++qR l:=by simp[qR]
  have c:(i+1)*3=i*3+3:=aa;rw[e,c];refine⟨?_,?_,?_⟩
  ·rw[Nu ai];simpa using b.1
  ·rw[Nu ai];simpa using b.2.1
  ·rw[Nu ai];simpa using b.2.2
theorem qc{its:List Fy}{j:Nat}{x:Fy}(h:its[j]?=some x):fP 235 (qR its) (j*3)=some (MV x.1 x.2.1.A x.2.1.l.length x.2.1.c x.2.2):=by
 obtain⟨a,b,d⟩:=C7 h;show (match eD (qR its) (j*3) 3 with|some l=>some (Value.agg l.toArray)|none=>none)=_
 have:eD (qR its) (j*3) 3=some [.int .u8 x.1,cT x.2.1,af x.2.2]:=by
  unfold eD;rw[a];unfold eD;rw[b];unfold eD;rw[d];unfold eD;rfl
 rw[this];rfl
theorem DZ(its:List Fy):f5 (its.map λ x=>bg 3 x.2.1)=true:=by
 have:=dd 3 (its.map λ x=>x.2.1)
 rwa [OD] at this
theorem oB(A:OA_)(c:Nat)(its:List Fy):f5 (pB A c its)=true:=dc rfl (DZ its)
theorem D4(N:aR)(e:Int)(W:LI_)(m:Int)(o:LI_):xG N (e::W) m o=if Je N e-o.getD e.toNat 0<m then none else xG N W m (o.set e.toNat (o.getD e.toNat 0+m)):=rfl
theorem yR(N:aR)(x:It)(r:List It)(o:LI_):qh N (x::r) o=match xG N x.2.1 x.2.2 o with|some o'=>qh N r o'|none=>none:=rfl
def within(N:aR)(o:LI_):Prop:=o.length=N.arcs.length/\∀ (i:Nat) (a:eq) (y:Int),N.arcs[i]?=some a->o[i]?=some y->0<=y/\y<=a.cap
theorem Ca{N:aR}{o:LI_}(h:within N o){i:Nat}{a:eq}{y m:Int}(d:N.arcs[i]?=some a)(f:o[i]?=some y)(hm:0<=m/\m<=a.cap-y):within N (o.set i (y+m)):=by
 refine⟨by rw[NQ];exact h.1,λ j g z b c=>?_⟩;by_cases e:i=j
 ·subst e;rw[d] at b;obtain rfl:=NM b;rw[No (by have:=(Nb.1 f).1;exact this)] at c;obtain rfl:=NM c;have:=h.2 i a y d f;omega
 ·rw[Nq e] at c;exact h.2 j g z b c
theorem aw.unfront{X:Cx}{A R:Heap}{c:aU}{i:Nat}(h:R[i]?=some c):aw X (c::(A++R.eraseIdx i)) (A++R):=by
 have hi:i<R.length:=(Nb.1 h).1;have e:R.set i c=R:=by rw[<- (Nb.1 h).2,List.set_getElem_self]
 have:=aw.back (X:=X) (A:=A) (R:=R) (c:=c) (i:=i) hi
 rwa [e] at this
theorem Jl(N:aR)(hN:N.Fits)(hR:N.Right)(A:OA_)(c b o:Nat)(hA:N.arcs≠[]->A=some ⟨b,o,none⟩)(its:List Fy)(Q:∀ x∈its.map fm,l7 N x)(hl:its.length<=2001)(I:OA_)(ci:Nat):
 Fn 158 [cd N A c,.slice I its.length ci] (ay (pB I ci its)) ([.seg b o (arcs N.arcs)]++pB I ci its) λ v H'=>(∃ (F:OA_) (n cf:Nat),v=.tuple #[.slice F n cf,.int .i64 (qS N (its.map fm))])/\H'=pB I ci its:=by
 have hn:=hR.len
 generalize hM:ay _=M
 refine aT Tryz.func158 λ w0=>?_;refine bA ?_;refine dh (cs:=bY N A c) λ p=>?_;refine Dj ?_;refine ak rfl (λ h=>absurd rfl h) (λ _=>ag ?_);refine jZ ?_;show J _ _ _ _ ([blk p 33 (bY N A c),.seg b o (arcs N.arcs),.own (.slice I its.length ci) 235 3 its.length (qR its)]++its.map λ x=>bg 3 x.2.1);refine aP (aH 2 rfl) λ ⟨_,_,R,_⟩=>?_
 refine cN (σ:=Nat) (λ j=>[(21,af j),(20,af its.length),(19,.slice I its.length ci),(1,.slice I its.length ci),(2,ap p 0)])
  (λ _=>[blk p 33 (bY N A c),.seg b o (arcs N.arcs),.own (.slice I its.length ci) 235 3 its.length (qR its)]++its.map λ x=>bg 3 x.2.1)
  (λ j=>j<=its.length/\((its.take j).map fm).all (mV N)=true) (λ j=>its.length-j) 0 a8 aw.refl ⟨Nk _,rfl⟩ ?_
 rintro j ⟨hj,m⟩;refine ao ?_;refine am (ak rfl (λ hlt=>ag ?_) (λ Z=>aO ?_))
 ·have hlt:j<its.length:=by omega
  obtain⟨x,C⟩:∃ x,its[j]?=some x:=⟨its[j],an hlt⟩;obtain⟨Y,rfl⟩:=R aa;have w:l7 N (fm x):=Q _ (OR (M9 C));have g:(its.map λ x=>bg 3 x.2.1)[j]?=some (bg 3 x.2.1):=by rw[Ni,C];rfl
  refine bQ (aw.front (i:=j) (c:=bg 3 x.2.1) g)<|aP (aH 0 (show _=some (bg 3 x.2.1) from rfl)) λ ⟨_,_,E,H⟩=>?_;obtain⟨gr,B⟩:=bo E H;refine am (au ?_);refine Bw ?_;refine aG (aA 3 rfl rfl rfl (qc C)) ?_;refine dM λ p8=>?_;refine iG ?_;refine bA ?_;refine bh (v:=cd N A c) 2 ?_;refine bh (v:=MV x.1 x.2.1.A x.2.1.l.length x.2.1.c x.2.2) 0 ?_;refine cH (G4 N hR A c b o hA x.1 x.2.1.l x.2.2 w x.2.1.A x.2.1.c gr 0 (λ h=>B (λ S=>h (by simpa [aj] using S)))) rfl ⟨bx 3 rfl,gy 1 rfl B,be⟩ ?_;refine aN ?_;refine nZ rfl (λ K=>?_) (λ K=>ag ?_)
  ·have K:mV N (fm x)=false:=by simpa [fm] using K
   refine ao ?_;refine bQ (aw.trans (aw.sub (NU _ _)) (aw.trans (aw.unfront (A:=[_,_,_]) g) (aw.re [2] rfl ab)))<|bM ⟨_,rfl,⟨none,0,0,?_⟩,rfl⟩
   have:(its.map fm).all (mV N)=false:=by
    rw[List.all_eq_false];exact⟨fm x,OR (M9 C),by rw[K];decide⟩
   unfold qS;rw[if_pos this];rfl
  ·have K:mV N (fm x)=true:=by simpa [fm] using K
   refine ao ?_;refine⟨j+1,⟨M8 (λ z=>some (af z)) (cv aa),rfl,rfl,rfl,rfl,be⟩,?_,⟨aa,?_⟩,aa⟩
   ·exact aw.trans (aw.sub (NU _ _)) (aw.unfront (A:=[_,_,_]) g)
   ·rw[Nv,C,NJ,List.all_append,m]
    simpa using K
 obtain rfl:j=its.length:=aa;rw[NH] at m;refine aI ?_;refine bh (v:=.slice A N.arcs.length c) 0 ?_;refine az ?_;refine cY (n:=N.arcs.length) (c:=N.arcs.length) rfl rfl rfl rfl rfl rfl aa aa aa aE λ go=>?_;rw[oN];refine pJ ?_;have hz:(List.replicate N.arcs.length (0:Int)).length=N.arcs.length:=ai
 refine cN (σ:=Nat×LI_) (λ s=>[(36,af s.1),(35,af its.length),(34,.slice I its.length ci),(1,.slice I its.length ci),(2,ap p 0),(9,ax go 0 N.arcs.length N.arcs.length)])
  (λ s=>[.own (ax go 0 N.arcs.length N.arcs.length) 2 1 N.arcs.length (aj s.2),blk p 33 (bY N A c),.seg b o (arcs N.arcs),.own (.slice I its.length ci) 235 3 its.length (qR its)]++its.map λ x=>bg 3 x.2.1)
  (λ s=>s.1<=its.length/\within N s.2/\qh N (its.map fm) (List.replicate N.arcs.length 0)=qh N ((its.map fm).drop s.1) s.2) (λ s=>its.length-s.1) (0,List.replicate N.arcs.length 0) a8 aw.refl
  ⟨Nk _,⟨hz,λ i a y O D=>?_⟩,by rw[List.drop_zero]⟩ ?_
 ·rw[Nt] at D;split at D
  ·obtain rfl:=NM D;have:=(hR.arc a (M9 O)).2.2;omega
  ·cases D
 rintro⟨j,l⟩ ⟨hj,hw,f⟩;simp only at hj hw f ⊢;refine ao ?_;refine am (ak rfl (λ hlt=>ag ?_) (λ Z=>aO ?_))
 ·have hlt:j<its.length:=by omega
  obtain⟨x,C⟩:∃ x,its[j]?=some x:=⟨its[j],an hlt⟩;obtain⟨Y,rfl⟩:=R aa;have w:l7 N (fm x):=Q _ (OR (M9 C));have hc:x.2.1.l.length<=2000:=w.len;have hs:0<x.2.2/\x.2.2<=4611686018427387903:=w.amt;have h1:∀ e∈x.2.1.l,0<=e/\e<N.arcs.length:=w.rng;have h2:(its.map fm)[j]?=some (fm x):=by rw[Ni,C];rfl
  have h3:(its.map fm).drop j=fm x::(its.map fm).drop (j+1):=by
   have hv:j<(its.map fm).length:=by rw[Nj];exact hlt
   rw[N7 hv,(Nb.1 h2).2]
  rw[h3,yR] at f;have g:(its.map λ x=>bg 3 x.2.1)[j]?=some (bg 3 x.2.1):=by rw[Ni,C];rfl
  refine bQ (aw.front (i:=j) (c:=bg 3 x.2.1) g)<|aP (aH 0 (show _=some (bg 3 x.2.1) from rfl)) λ ⟨_,_,E,H⟩=>?_;obtain⟨gr,B⟩:=bo E H;refine am (au ?_);refine Bw ?_;refine aG (aA 4 rfl rfl rfl (qc C)) ?_;refine dM λ p11=>?_;refine iG ?_;refine aI ?_;refine bh (v:=.slice x.2.1.A x.2.1.l.length x.2.1.c) 0 ?_;refine ik ?_
  refine cN (σ:=Nat×LI_) (λ s=>[(43,af s.1),(42,af x.2.1.l.length),(41,.slice x.2.1.A x.2.1.l.length x.2.1.c),(11,ap p11 0),(36,af j),(35,af its.length),(34,ax Y 0 its.length ci),(1,ax Y 0 its.length ci),(2,ap p 0),(9,ax go 0 N.arcs.length N.arcs.length)])
   (λ s=>[blk p11 235 [.int .u8 x.1,.slice x.2.1.A x.2.1.l.length x.2.1.c,af x.2.2],bg 3 x.2.1,.own (ax go 0 N.arcs.length N.arcs.length) 2 1 N.arcs.length (aj s.2),blk p 33 (bY N A c),.seg b o (arcs N.arcs),.own (ax Y 0 its.length ci) 235 3 its.length (qR its)]++(its.map λ x=>bg 3 x.2.1).eraseIdx j)
   (λ s=>s.1<=x.2.1.l.length/\within N s.2/\xG N x.2.1.l x.2.2 l=xG N (x.2.1.l.drop s.1) x.2.2 s.2) (λ s=>x.2.1.l.length-s.1) (0,l) a8 aw.refl ⟨Nk _,hw,by rw[List.drop_zero]⟩ ?_
  rintro⟨t,P⟩ ⟨ht,r,d⟩;simp only at ht r d ⊢;refine ao ?_;refine am (ak rfl (λ q=>ag ?_) (λ hf=>aO ?_))
  ·have q:t<x.2.1.l.length:=by omega
   obtain⟨e,he⟩:∃ e,x.2.1.l[t]?=some e:=⟨x.2.1.l[t],an q⟩;obtain⟨i,a,rfl,O,u,_,_,U⟩:=J4 (h1 e (M9 he));obtain rfl:=hA (by rintro S;rw[S] at u;simp at u);obtain⟨q0,q1,q2⟩:=gA O;obtain⟨y,D⟩:∃ y,P[i]?=some y:=⟨P[i]'(by have:=r.1;omega),an _⟩;have hk:=r.2 i a y O D;have h4:=Br hR (M9 O);have hr:P.getD (i:Int).toNat 0=y:=by rw[Nz,Nc,D];rfl
   have hq:x.2.1.A=some ⟨gr,0,none⟩:=B (by intro S;have:=bU x.2.1.l;rw[S] at this;simp at this;omega);have V:x.2.1.l.drop t=(i:Int)::x.2.1.l.drop (t+1):=by rw[N7 q];rw[(Nb.1 he).2]
   rw[V,D4,U,hr,Nz] at d;refine am (au ?_);refine aI ?_;refine aG (ij (b:=gr) rfl (by rw[<- hq];rfl) rfl rfl rfl q) ?_;refine aG (v:=af (i:Int)) (dW 1 rfl (show _=some (ap gr (0+t)) by rw[NO];rfl) rfl (bi (A:=x.2.1.A) B) (bq he)) ?_;refine iH ?_;refine bK 14 (dS [0,1,2,3,4,5,6,7,8,9,10,11,12,13]) [0,1,2,3,4,5] aW ab rfl<|a6 ?_;refine bc (v:=af x.2.2) rfl (ad 0 rfl) ?_;refine a6 ?_;refine bc (v:=ax b o N.arcs.length c) rfl (ad 3 rfl) ?_;refine a6 ?_;refine bc rfl (j9 rfl u) ?_;refine a6 ?_;refine bc (v:=af a.cap) rfl (fA 4 rfl rfl rfl (N3 _ _ _) q2) ?_;refine a6 ?_;refine bc rfl (bG rfl u) ?_;refine bc (v:=af y) rfl (aA 2 rfl rfl rfl (b7 D)) ?_;refine a6 ?_;refine dG 60 (v':=.bool (dU (a.cap-y<x.2.2))) rfl (by rw[cv aa])<|gF ?_;refine ak rfl (λ X=>?_) (λ L=>ag ?_)
   ·rw[if_pos X] at d;have k:xG N (fm x).2.1 (fm x).2.2 l=none:=d;rw[k] at f;refine ao ?_;refine bQ (aw.trans (aw.sub (NU _ _)) (aw.trans (aw.unfront (A:=[_,_,_,_]) g) (aw.re [3] rfl ab)))<|bM ⟨_,rfl,⟨none,0,0,?_⟩,rfl⟩;unfold qS;rw[if_neg (by rw[m];decide),if_pos f];rfl
   ·rw[if_neg L] at d;refine cA ?_;refine fW 9 [0,1,2,3,4,5,6,7] 8 [] aW ?_
    (repeat' (refine jr (gs:=[999]) rfl rfl ?_))
    refine gU [999] rfl (bG rfl u) rfl<|cV [999] (v:=af y) rfl rfl (aA 2 rfl rfl rfl (b7 D)) rfl<|?_
    (repeat' (refine jr (gs:=[999]) rfl rfl ?_))
    refine cV [999] (v:=af x.2.2) rfl rfl (ad 0 rfl) rfl ?_
    (repeat' (refine jr (gs:=[999]) rfl rfl ?_))
    refine gU [999] rfl (bG rfl u) rfl<|im rfl<|aB 67 (v':=af (y+x.2.2)) rfl (M8 (Value.int .i64) (cv aa))<|aY 2 rfl rfl rfl rfl (fF rfl (by have:=r.1;omega)) [] rfl<|bZ []<|cP<|?_;refine dw ?_;refine⟨(t+1,P.set i (y+x.2.2)),⟨M8 (λ z=>some (af z)) (cv aa),rfl,rfl,rfl,rfl,rfl,rfl,rfl,rfl,rfl,be⟩,aw.refl,⟨by simp only;omega,Ca r O D ⟨aa,aa⟩,d⟩,by simp only;omega⟩
  ·obtain rfl:t=x.2.1.l.length:=by omega
   rw[List.drop_length] at d;have k:xG N (fm x).2.1 (fm x).2.2 l=some P:=d;rw[k] at f;refine ao ?_;refine⟨(j+1,P),⟨M8 (λ z=>some (af z)) (cv aa),rfl,rfl,rfl,rfl,rfl,be⟩,?_,⟨by simp only;omega,r,f⟩,by simp only;omega⟩;exact aw.trans (aw.sub (NU _ _)) (aw.unfront (A:=[_,_,_,_]) g)
 ·obtain rfl:j=its.length:=by omega
  rw[List.drop_eq_nil_of_le (by rw[Nj];exact Np _)] at f;refine ao ?_;refine bQ (aw.re [3] rfl ab)<|bM ⟨_,rfl,⟨aJ go 0,N.arcs.length,N.arcs.length,?_⟩,rfl⟩;unfold qS;rw[if_neg (by rw[m];decide),f,if_neg (by unfold qh;exact Option.some_ne_none _)];rfl
end Go.Proofs.YtmcnpaelaieniaaGreatDoor
