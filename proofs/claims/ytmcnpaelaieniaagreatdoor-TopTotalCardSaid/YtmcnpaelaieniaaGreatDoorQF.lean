import Derived.Test.YtmcnpaelaieniaaGreatDoorQC
/- A part of the proof. -/
set_option linter.unusedVariables false
set_option linter.unusedSimpArgs false
namespace Go.Proofs.YtmcnpaelaieniaaGreatDoor
open Go.RowKit
def b9(l:LB_)(is:Bool)(k:Nat):LI_:=((List.range k).filter λ (v:Nat)=>decide (0<v/\l[v]?=some is)).map λ (v:Nat)=>(v:Int)
theorem nu(l:LB_)(is:Bool)(k:Nat):b9 l is (k+1)=b9 l is k++(if 0<k/\l[k]?=some is then [(k:Int)] else []):=by
 unfold b9;refine wO ?_
 congr 1
 by_cases h:0<k/\l[k]?=some is<;>simp[h]
theorem lA(l:LB_)(is:Bool)(k:Nat):(b9 l is k).length<=k:=by
 unfold b9;exact C2
theorem je{l:LB_}{is:Bool}{k:Nat}{x:Int}:x∈b9 l is k↔∃ v:Nat,v<k/\0<v/\l[v]?=some is/\x=v:=by
 unfold b9;refine w6 ?_
 constructor
 ·rintro⟨v,⟨a,b,c⟩,rfl⟩;exact⟨v,a,b,c,rfl⟩
 ·rintro⟨v,a,b,c,rfl⟩;exact⟨v,⟨a,b,c⟩,rfl⟩
theorem Iu(A:OA_)(c b o:Nat)(l:LB_)(g:l≠[]->A=some ⟨b,o,none⟩)(hl:l.length<=100000)(is:Bool):
 Fn 47 [.slice A l.length c,.bool is] [] [.seg b o (dM l)] λ v H'=>∃ i j,v=.slice i (b9 l is l.length).length j/\H'=[.own v 3 1 (b9 l is l.length).length (aj (b9 l is l.length))]:=by
 refine aT Tryz.func47 λ w0=>?_;refine ja ?_;refine jn ?_;refine bX 3 1 ?_
 refine bP (σ:=Nat×OA_×Nat) (λ s=>[(10,af s.1),(9,af l.length),(8,.slice A l.length c),(5,.slice s.2.1 (b9 l is s.1).length s.2.2),(1,.bool is)])
  (λ s=>[.own (.slice s.2.1 (b9 l is s.1).length s.2.2) 3 1 (b9 l is s.1).length (aj (b9 l is s.1)),.seg b o (dM l)]) (λ s=>s.1<=l.length) (λ s=>l.length-s.1)
  (0,none,0) [0,1] a7 ab rfl (Nl _) ?_
 rintro⟨k,A1,d⟩ q;simp only at q ⊢;have r:=lA l is k;refine ao ?_;refine am (ak rfl (λ hlt=>ag ?_) (λ t=>aO ?_))
 ·have hlt:k<l.length:=by omega
  obtain rfl:=g (by rintro rfl;simp at hlt);obtain⟨m,hm⟩:∃ m,l[k]?=some m:=⟨l[k],be hlt⟩;have a:=nu l is k;refine am (aq ?_);refine iz ?_;refine aF (aZ 1 rfl rfl (show (dM l)[k]?=some (.bool m) from iD hm)) ?_;refine aN ?_;by_cases hgo:0<k/\m=is
  ·rw[if_pos ⟨hgo.1,by rw[hm,hgo.2]⟩] at a;refine Hf ?_;refine aE (fV [] rfl ?_);refine dp λ g2=>?_;refine bx (n:=(b9 l is k).length) (m:=1) (off:=0) (news:=aj [(k:Int)]) 1 0 rfl rfl rfl rfl rfl rfl ab rfl rfl (aS g2 _ _ (0,0)) aK rfl rfl aa aa (λ _ _=>rfl) λ u c2=>?_;rw[show (b9 l is k).length+1=(b9 l is (k+1)).length by rw[a];simp,show aj (b9 l is k)++aj [(k:Int)]=aj (b9 l is (k+1)) by rw[a];simp[aj]];refine cR ?_;refine⟨(k+1,u,c2),[1,2],⟨?_,rfl,rfl,rfl,rfl,an⟩,ab,rfl,by simp only;omega,by simp only;omega⟩;refine fy ?_;rw[cp aa];rfl
  ·rw[if_neg (fun h=>hgo ⟨h.1,by rw[hm] at h;simpa using h.2⟩),List.append_nil] at a
   refine fN [(21,.bool false),(10,af k),(9,af l.length),(8,ax b o l.length c),(5,.slice A1 (b9 l is k).length d),(1,.bool is)]
    [.own (.slice A1 (b9 l is k).length d) 3 1 (b9 l is k).length (aj (b9 l is k)),.seg b o (dM l)] ?_ ?_
   ·refine aI ?_;by_cases h0:0<k
    ·exact Hx
    ·refine dc 17 rfl aa<|cW [2] ?_;exact qm
   ·refine bo rfl (ag ?_);refine ao ?_;refine⟨(k+1,A1,d),[0,1],⟨?_,rfl,rfl,by simp only[a];rfl,rfl,an⟩,ab,by simp only[a];rfl,by simp only;omega,by simp only;omega⟩;refine fy ?_;rw[cp aa];rfl
 ·have f:k=l.length:=by omega
  subst f;refine ao ?_;refine aM [0] ⟨_,rfl,A1,d,rfl,rfl⟩
def Lt(N:aV)(f:LI_)(n:Nat)(v:Value)(H':Heap):Prop:=
 (aD N f/\¬ tf N (bc (N.arcs.zip f)) 1 N.snk/\∃ (l:LB_) (A':OA_) (c':Nat),l.length=n+1/\(∀ v:Nat,l[v]?=some true↔v<=n/\tf N (bc (N.arcs.zip f)) 1 v)/\v=.tuple #[.slice A' (b9 l true (n+1)).length c',.int .i64 0]/\
  H'=[.own (.slice A' (b9 l true (n+1)).length c') 3 1 (b9 l true (n+1)).length (aj (b9 l true (n+1)))])\/
 (¬ aD N f/\v=.tuple #[.slice none 0 0,.int .i64 (eP N f)]/\H'=[])\/(aD N f/\tf N (bc (N.arcs.zip f)) 1 N.snk/\v=.tuple #[.slice none 0 0,.int .i64 8]/\H'=[])
theorem FL(N:aV)(u:N.Fits)(k:N.Right)(A:OA_)(c b o:Nat)(w:N.arcs≠[]->A=some ⟨b,o,none⟩)(f:LI_)(F:OA_)(cf m of:Nat)(y:f≠[]->F=some ⟨m,of,none⟩)(z:∀ x∈f,b7 x)(q:f.length*8<=140737488351232)
 (n:Nat) (B:N.nodes=n):Fn 24 [bZ N A c,.slice F f.length cf] [] [.seg b o (arcs N.arcs),.seg m of (aj f)] (Lt N f n):=by
 have C:=k.nodes;have D:=k.snk;obtain⟨s,r⟩:∃ s:Nat,N.snk=s:=⟨N.snk.toNat,aa⟩;refine aT Tryz.func24 λ w0=>?_;refine bu ?_;refine cY (cs:=bU N A c) λ p=>?_;refine ie ?_;refine dG (IF N u k A c b o w f F cf m of y z q 1 ab n B) rfl ⟨bz 1 rfl,bz 2 rfl,an⟩ ?_;rintro v H' (⟨d,_,l,g,hl,e,rfl,rfl⟩|⟨d,rfl,rfl⟩|⟨_,E,_,_⟩)
 ·refine r6 ?_;refine ak rfl (λ h=>absurd rfl h) (λ _=>?_);obtain⟨j,a⟩:∃ j,l[s]?=some j:=⟨l[s]'aa,be aa⟩;have i:=e s;refine aI ?_;refine bj 1 ?_;refine aA 21 (v':=af (s:Int)) rfl (Na (Value.int .i64) r)<|ip ?_;refine aF (aw 0 rfl rfl rfl (show (dM l)[s]?=some (.bool j) from iD a)) ?_;refine aN ?_
  cases j with
  |true=>
   refine eu ?_;refine aM [] ⟨_,rfl,.inr (.inr ⟨d,by rw[r];exact (i.1 a).2,rfl,rfl⟩)⟩
  |false=>
   refine bo rfl (ag ?_)
   have t:¬ tf N (bc (N.arcs.zip f)) 1 N.snk:=λ H=>by
    have:=i.2 ⟨aa,r▸H⟩;rw[a] at this;simp at this
   refine aI ?_;have T:=Iu (aL g 0) (n+1) g 0 l aK aa true;rw[hl] at T;refine eW T rfl ⟨fX 0 rfl ca (.inr rfl),an⟩ ?_;rintro v H' ⟨I,K,rfl,rfl⟩;refine aN ?_;refine aM [0] ⟨_,rfl,.inl ⟨d,t,l,I,K,hl,e,rfl,rfl⟩⟩
 ·refine r6 ?_;refine ak rfl (λ h=>?_) (λ h=>absurd (cZ.1 (No.1 h)) d);refine ao ?_;refine aM [] ⟨_,rfl,.inr (.inl ⟨d,rfl,rfl⟩)⟩
 ·exact absurd E ab
structure fm (N:aV) (s:LI_):Prop where
 rise:s.Pairwise (·<·)
 rng:∀ x∈s,1<=x/\x<=N.nodes
 src:N.src∈s
 snk:N.snk∉s
theorem rA{s:LI_}{v:Int}(h:s.Pairwise (·<·))(hl:∀ x∈s,x<v):(s++[v]).Pairwise (·<·):=by
 rw[Of];exact⟨h,OT _ _,λ a c b d=>by rw[Ni.1 d];exact hl a c⟩
def eC(N:aV)(s:LI_)(k:Nat):LI_:=((List.range k).filter λ (i:Nat)=>match N.arcs[i]? with
 |some a=>decide (a.fr∈s/\a.to∉s)
 |none=>false).map λ (i:Nat)=>(i:Int)
theorem sX{N:aV}{s:LI_}{k:Nat}{a:ej}(h:N.arcs[k]?=some a):eC N s (k+1)=eC N s k++(if a.fr∈s/\a.to∉s then [(k:Int)] else []):=by
 unfold eC;refine wO ?_
 congr 1
 by_cases b:a.fr∈s/\a.to∉s<;>simp[h,b]
theorem pB(N:aV)(s:LI_)(k:Nat):(eC N s k).length<=k:=by
 unfold eC;exact C2
def l6(s:LI_):List (Int×Value):=s.map λ v=>(v,.bool true)
theorem dn(s:LI_)(n:Int):(m9 (l6 s) n).getD (.bool false)=.bool (dR (n∈s)):=by
 induction s with
 |nil=>rw[aU ai];rfl
 |cons v s a=>
  show (m9 ((v,.bool true)::l6 s) n).getD _=_;unfold m9;by_cases h:v=n
  ·rw[if_pos h,aQ (by simp[h])];rfl
  ·rw[if_neg h,a];have:(n∈v::s)↔n∈s:=by simp[Ne.symm h]
   rw[ey this]
theorem Am(N:aV)(hN:N.Fits)(hR:N.Right)(A:OA_)(c b o:Nat)(hA:N.arcs≠[]->A=some ⟨b,o,none⟩)(s:LI_)(u:fm N s)(M:s.length<=100000)(S:OA_)(cs B os:Nat)(O:s≠[]->S=some ⟨B,os,none⟩):
 Fn 97 [bZ N A c,.slice S s.length cs] [] [.seg b o (arcs N.arcs),.seg B os (aj s)] λ v H'=>∃ I K,v=.tuple #[.slice I (eC N s N.arcs.length).length K,.int .i64 0]/\
  H'=[.own (.slice I (eC N s N.arcs.length).length K) 3 1 (eC N s N.arcs.length).length (aj (eC N s N.arcs.length))]:=by
 have P:=hR.len;have Q:=hR.nodes;refine aT Tryz.func97 λ w0=>?_;refine bu ?_;refine cY (cs:=bU N A c) λ p=>?_;refine zO ?_;refine ak rfl (λ h=>absurd rfl h) (λ _=>ag ?_);refine bu ?_;refine qe rfl aK λ g=>cR ?_;refine jn ?_
 refine bP (σ:=Nat) (λ k=>[(22,af k),(21,af s.length),(20,.slice S s.length cs),(8,af ((s.take k).getLast?.getD 0)),(7,.map (some g)),(2,ap p 0)])
  (λ k=>[.obj g (jT (l6 (s.take k))),blk p 33 (bU N A c),.seg b o (arcs N.arcs),.seg B os (aj s)]) (λ k=>k<=s.length) (λ k=>s.length-k)
  0 [0,1,2,3] a7 ab rfl (Nl _) ?_
 intro k L;refine ao ?_;refine am (ak rfl (λ hlt=>ag ?_) (λ C=>aO ?_))
 ·have hlt:k<s.length:=by omega
  obtain rfl:=O (by rintro rfl;simp at hlt);obtain⟨x,hx⟩:∃ x,s[k]?=some x:=⟨s[k],be hlt⟩;have R:=u.rng x (Nb hx)
  have d:∀ y∈s.take k,y<x:=by
   intro y D;obtain⟨j,U,i⟩:=NV.1 D;have E:j<k:=by simp at U;omega
   have l:=N9.1 u.rise j k aa hlt E;rw[PD] at i;obtain⟨_,F⟩:=Ng.1 hx;rw[<- i,<- F];exact l
  have H:(s.take k).getLast?.getD 0<x:=by
   cases h:(s.take k).getLast? with
   |none=>show (0:Int)<x;omega
   |some y=>exact d y (OC h)
  have r:s.take (k+1)=s.take k++[x]:=by rw[Nu,hx];rfl
  refine am (aq ?_);refine Bn ?_;refine dc 29 rfl aa<|ek ?_;refine ae [3] (ad 1 rfl) rfl<|cW [3] ?_;refine ak rfl (λ h=>absurd h aa) (λ _=>ag ?_);refine aI ?_;refine qq 0 Tryz.underlying205 Tryz.underlying3 rfl rfl rfl rfl rfl (λ q w=>?_) [] rfl ?_
  ·obtain⟨y,D,rfl⟩:=NF.1 w;have:=d y D;show y≠x;omega
  refine cR ?_;refine⟨k+1,[0,1,2,3],⟨?_,rfl,rfl,?_,rfl,rfl,an⟩,ab,?_,aa,aa⟩
  ·refine fy ?_;rw[cp aa];rfl
  ·rw[r,N1];rfl
  ·rw[r];unfold l6;rw[NI];rfl
 ·have f:k=s.length:=by omega
  subst f;rw[NH];refine aI ?_;refine bj 1 ?_;refine aF (fW 0 Tryz.underlying205 Tryz.underlying3 rfl rfl rfl rfl rfl) ?_;refine aA 42 (v':=.bool true) rfl (by rw[dn,aQ u.src])<|FC ?_;refine aA 48 (v':=.bool false) rfl (by rw[dn,aU u.snk])<|cW [5] ?_;refine bo rfl (ag ?_);refine c9 ?_;refine bj 1 ?_;refine iZ ?_;refine bX 3 1 ?_
  refine bP (σ:=Nat×OA_×Nat) (λ t=>[(53,af t.1),(52,af N.arcs.length),(51,.slice A N.arcs.length c),(11,.slice t.2.1 (eC N s t.1).length t.2.2),(7,.map (some g)),(2,ap p 0)])
   (λ t=>[.own (.slice t.2.1 (eC N s t.1).length t.2.2) 3 1 (eC N s t.1).length (aj (eC N s t.1)),.obj g (jT (l6 s)),blk p 33 (bU N A c),.seg b o (arcs N.arcs)]) (λ t=>t.1<=N.arcs.length) (λ t=>N.arcs.length-t.1)
   (0,none,0) [0,1,2,3] a7 ab rfl (Nl _) ?_
  rintro⟨k,A1,z⟩ L;simp only at L ⊢;have V:=pB N s k;refine ao ?_;refine am (ak rfl (λ hlt=>ag ?_) (λ C=>aO ?_))
  ·have hlt:k<N.arcs.length:=by omega
   obtain rfl:=hA (by intro X;rw[X] at hlt;simp at hlt);obtain⟨x,hx⟩:∃ x,N.arcs[k]?=some x:=⟨N.arcs[k],be hlt⟩;have a:=sX (s:=s) hx;have w:IntKind.i64.wrap ((k:Int)+1)=((k+1:Nat):Int):=cp aa;refine am (aq ?_);refine uh ?_;refine aF (aZ 3 rfl rfl (gU hx)) ?_;refine dD λ q=>?_;refine mx ?_;by_cases e:x.fr∈s/\x.to∉s
   ·rw[if_pos e] at a;refine jh ?_;refine aF (fW 2 Tryz.underlying205 Tryz.underlying3 rfl rfl rfl rfl rfl) ?_;refine az ?_;refine aA 62 (v':=.bool true) rfl (by rw[dn,aQ e.1])<|FD ?_;refine aA 66 (v':=.bool false) rfl (by rw[dn,aU e.2])<|cW [4] ?_;refine dr ?_;refine aE (fV [] rfl ?_);refine dp λ g2=>?_;refine bx (n:=(eC N s k).length) (m:=1) (off:=0) (news:=aj [(k:Int)]) 2 0 rfl rfl rfl rfl rfl rfl ab rfl rfl (aS g2 _ _ (0,0)) aK rfl rfl aa aa (λ _ _=>rfl) λ Y c2=>?_;rw[show (eC N s k).length+1=(eC N s (k+1)).length by rw[a];simp,show aj (eC N s k)++aj [(k:Int)]=aj (eC N s (k+1)) by rw[a];simp[aj]];refine cR ?_;exact⟨(k+1,Y,c2),[2,3,4,5],⟨Na some (Na (Value.int .i64) w),rfl,rfl,rfl,rfl,rfl,an⟩,ab,rfl,by simp only;omega,by simp only;omega⟩
   ·rw[if_neg e,NN] at a
    refine fN [(68,.bool false),(53,af k),(52,af N.arcs.length),(51,ax b o N.arcs.length c),(11,.slice A1 (eC N s k).length z),(7,.map (some g)),(2,ap p 0)]
     [.own (.slice A1 (eC N s k).length z) 3 1 (eC N s k).length (aj (eC N s k)),.obj g (jT (l6 s)),blk p 33 (bU N (aL b o) c),.seg b o (arcs N.arcs)] ?_ ?_
    ·refine jh ?_;refine aF (fW 2 Tryz.underlying205 Tryz.underlying3 rfl rfl rfl rfl rfl) ?_;refine az ?_;by_cases l:x.fr∈s
     ·have F:x.to∈s:=No.1 λ h=>e ⟨l,h⟩;refine aA 62 (v':=.bool true) rfl (by rw[dn,aQ l])<|FD ?_;refine aA 66 (v':=.bool true) rfl (by rw[dn,aQ F])<|cW [4] ?_;exact⟨[1,2,3,4],a7,ab,rfl⟩
     ·refine aA 62 (v':=.bool false) rfl (by rw[dn,aU l])<|cW [4] ?_;exact⟨[1,2,3,4],a7,ab,rfl⟩
    ·refine bo rfl (ag ?_);refine ao ?_;exact⟨(k+1,A1,z),[0,1,2,3],⟨Na some (Na (Value.int .i64) w),rfl,rfl,by simp only[a];rfl,rfl,rfl,an⟩,ab,by simp only[a];rfl,by simp only;omega,by simp only;omega⟩
  ·have f:k=N.arcs.length:=by omega
   subst f;refine ao ?_;exact aM [0] ⟨_,rfl,A1,z,rfl,rfl⟩
def jB(N:aV)(i:Int):Int:=match N.arcs[i.toNat]? with
 |some a=>a.cap
 |none=>0
open Classical in
noncomputable def iw(s:LI_)(l:List ej):Int:=(l.map λ a=>if a.fr∈s/\a.to∉s then a.cap else 0).sum
theorem v9(N:aV)(s:LI_):∀ k,k<=N.arcs.length->((eC N s k).map (jB N)).sum=iw s (N.arcs.take k)
 |0,_=>by simp[eC,iw]
 |k+1,h=>by
  obtain⟨a,b⟩:∃ a,N.arcs[k]?=some a:=⟨N.arcs[k],be aa⟩;have d:=v9 N s k aa;rw[sX b,Nu,b,NI,ON,d];unfold iw;rw[NI,ON]
  congr 1
  by_cases c:a.fr∈s/\a.to∉s
  ·simp only[if_pos c,Nv,Og,ND,List.sum_nil,P2];show jB N (k:Int)+0=a.cap+0;unfold jB;rw[NA,b]
  ·simp only[if_neg c,Nv,Og,ND,List.sum_nil,P2];rfl
theorem jk:∀ (l:LI_),(∀ x∈l,0<=x)->0<=l.sum
 |[],_=>by simp
 |x::l,h=>by
  have:=jk l λ y a=>h y (by simp[a]);have:=h x ai;simp only[ND];omega
theorem xy{N:aV}(b:N.Right)(s:LI_):0<=iw s N.arcs/\iw s N.arcs<=4611686018427387903:=by
 have c:∀ (l:List ej),(∀ a∈l,0<=a.cap)->0<=iw s l/\iw s l<=(l.map (·.cap)).sum:=by
  intro l
  induction l with
  |nil=>intro _;simp[iw]
  |cons a l d=>
   intro h;have e:=d λ x f=>h x (by simp[f]);have i:=h a ai;unfold iw at e ⊢;refine tM ?_;split<;>omega
 have:=c N.arcs λ a g=>(b.arc a g).2.2;have:=b.sum;omega
theorem sS(N:aV)(L:N.Fits)(w:N.Right)(A:OA_)(c b o:Nat)(I:N.arcs≠[]->A=some ⟨b,o,none⟩)(s:LI_)(M:fm N s)(z:s.length<=100000)(S:OA_)(cs B os:Nat)(O:s≠[]->S=some ⟨B,os,none⟩):
 Fn 59 [bZ N A c,.slice S s.length cs] [] [.seg b o (arcs N.arcs),.seg B os (aj s)] λ v H'=>v=tg (iw s N.arcs,0)/\H'=[]:=by
 have P:=w.len;obtain⟨l,hl⟩:∃ l,l=eC N s N.arcs.length:=⟨_,rfl⟩;have C:=pB N s N.arcs.length;have f:(l.map (jB N)).sum=iw s N.arcs:=by rw[hl,v9 N s _ (Nr _),NH]
 have g:∀ x∈l,∃ (i:Nat) (a:ej),x=i/\N.arcs[i]?=some a/\jB N x=a.cap/\0<=a.cap:=by
  intro x d;rw[hl] at d;unfold eC at d;obtain⟨i,hi,rfl⟩:=NF.1 d;have r:=(Pd.1 hi).2
  cases m:N.arcs[i]? with
  |none=>rw[m] at r;simp at r
  |some a=>exact⟨i,a,rfl,m,by unfold jB;rw[NA,m],(w.arc a (Nb m)).2.2⟩
 have j:∀ x∈l.map (jB N),0<=x:=by
  intro x d;obtain⟨y,Q,rfl⟩:=NF.1 d;obtain⟨_,a,_,_,R,U⟩:=g y Q;rw[R];exact U
 have V:=xy w s
 have n:∀ k,0<=((l.take k).map (jB N)).sum/\((l.take k).map (jB N)).sum<=4611686018427387903:=by
  intro k;have e:((l.take k).map (jB N)).sum+((l.drop k).map (jB N)).sum=iw s N.arcs:=by rw[<- ON,<- NI,Oa,f]
  have h1:=jk ((l.take k).map (jB N)) λ x d=>j x (by rw[List.map_take] at d;exact Oi d);have h2:=jk ((l.drop k).map (jB N)) λ x d=>j x (by rw[List.map_drop] at d;exact PN d);omega
 refine aT Tryz.func59 λ w0=>?_;refine bu ?_;refine cY (cs:=bU N A c) λ p=>?_;refine ie ?_;refine eW (Am N L w A c b o I s M z S cs B os O) rfl ⟨bz 1 rfl,bz 2 rfl,an⟩ ?_;rintro v H' ⟨A1,K,rfl,rfl⟩;rw[<- hl] at C ⊢;refine cR ?_;refine ao ?_;refine aR (aH 0 rfl) λ ⟨_,_,D,_⟩=>aq<|?_
 refine bP (σ:=Nat) (λ k=>[(19,af k),(18,af l.length),(17,.slice A1 l.length K),(8,af ((l.take k).map (jB N)).sum),(7,af 0),(2,ap p 0)])
  (λ k=>[.own (.slice A1 l.length K) 3 1 l.length (aj l),blk p 33 (bU N A c),.seg b o (arcs N.arcs)]) (λ k=>k<=l.length) (λ k=>l.length-k)
  0 [0,1,2] a7 ab rfl (Nl _) ?_
 intro k hk;refine ao ?_;refine am (ak rfl (λ hlt=>ag ?_) (λ X=>aO ?_))
 ·have hlt:k<l.length:=by omega
  obtain⟨g1,rfl⟩:=D aa;obtain⟨x,d⟩:∃ x,l[k]?=some x:=⟨l[k],be hlt⟩;obtain⟨i,a,rfl,m,t,Y⟩:=g x (Nb d);have q:i<N.arcs.length:=(Ng.1 m).1;obtain rfl:=I (by intro Z;rw[Z] at q;simp at q);obtain⟨_,_,E⟩:=gF m;have u:((l.take (k+1)).map (jB N)).sum=((l.take k).map (jB N)).sum+a.cap:=by rw[Nu,d,NI,ON];simp[t]
  have F:=n (k+1);rw[u] at F;refine am (aq ?_);refine qQ ?_;refine aF (aw 0 rfl rfl rfl (bI d)) ?_;refine dQ ?_;refine bj 1 ?_;refine az ?_;refine aF (jc rfl q) ?_;refine az ?_;refine aF (aZ 2 rfl rfl E) ?_;refine cR ?_;refine⟨k+1,[0,1,2],⟨?_,rfl,rfl,?_,rfl,rfl,an⟩,ab,rfl,aa,aa⟩
  ·refine fy ?_;rw[cp aa];rfl
  ·show some (af (IntKind.i64.wrap (((l.take k).map (jB N)).sum+a.cap)))=_;rw[u,cp aa]
 ·have H:k=l.length:=by omega
  subst H;refine ao ?_;refine aM [] ⟨_,rfl,?_,rfl⟩;rw[NH,f];rfl
theorem xB:∀ (c:List ej) (f:LI_) (i:Nat) (a:ej) (x m v:Int),c[i]?=some a->f[i]?=some x->
 dH (c.zip (f.set i (x+m))) v=dH (c.zip f) v+((if a.to=v then m else 0)-(if a.fr=v then m else 0))
 |[],_,_,_,_,_,_,h,_=>by simp at h
 |_::_,[],_,_,_,_,_,_,h=>by simp at h
 |b::c,y::f,0,a,x,m,v,d,e=>by
  simp only[Ok,Nc] at d e;subst d e;simp only[OW,Pt,dH,Nv,ND];split<;>split<;>omega
 |b::c,y::f,i+1,a,x,m,v,d,e=>by
  have:=xB c f i a x m v (by simpa using d) (by simpa using e);simp only[dH] at this;simp only[List.set_cons_succ,Pt,dH,Nv,ND];omega
def ks(N:aV):Int->LN_->Int->Prop
 |a,[],z=>a=z
 |a,i::W,z=>∃ r:ej,N.arcs[i]?=some r/\r.fr=a/\ks N r.to W z
theorem qh{N:aV}{i:Nat}{r:ej}(h:N.arcs[i]?=some r):∀ {W:LN_} {a:Int},ks N a W r.fr->ks N a (W++[i]) r.to
 |[],_,hw=>⟨r,h,hw.symm,rfl⟩
 |_::_,_,⟨q,b,c,d⟩=>⟨q,b,c,qh h d⟩
theorem xD(t x:Int):∀ (s:LI_),s.Nodup->(s.map λ v=>if t=v then x else 0).sum=if t∈s then x else 0
 |[],_=>by simp
 |v::s,h=>by
  have b:=NJ.1 h;simp only[Nv,ND,xD t x s b.2];by_cases e:t=v
  ·subst e;rw[if_pos rfl,if_neg b.1,if_pos ai];omega
  ·rw[if_neg e];by_cases a:t∈s
   ·rw[if_pos a,if_pos (by simp[a])];omega
   ·rw[if_neg a,if_neg (by simp[e,a])];omega
def n7(s:LI_)(ps:List (ej×Int)):Int:=(ps.map λ p=>(if p.1.fr∈s then p.2 else 0)-(if p.1.to∈s then p.2 else 0)).sum
theorem CH(f g:Int->Int):∀ s:LI_,(s.map λ v=>f v-g v).sum=(s.map f).sum-(s.map g).sum
 |[]=>by simp
 |v::s=>by simp only[Nv,ND,CH f g s];omega
theorem C0(f g:Int->Int):∀ s:LI_,(s.map λ v=>f v+g v).sum=(s.map f).sum+(s.map g).sum
 |[]=>by simp
 |v::s=>by simp only[Nv,ND,C0 f g s];omega
theorem Bd{s:LI_}(a:s.Nodup):∀ ps:List (ej×Int),(s.map (dH ps)).sum=-n7 s ps
 |[]=>by
  have:∀ s:LI_,(s.map (dH [])).sum=0:=by
   intro s
   induction s with
   |nil=>rfl
   |cons v s b=>simp only[Nv,ND,b];simp[dH]
  rw[this];simp[n7]
 |p::ps=>by
  have b:=Bd a ps
  have e:(s.map (dH (p::ps)))=s.map λ v=>((if p.1.to=v then p.2 else 0)-(if p.1.fr=v then p.2 else 0))+dH ps v:=by
   refine Ou λ v _=>?_;simp only[dH,Nv,ND]
  rw[e,C0,CH,xD _ _ s a,xD _ _ s a,b];simp only[n7,Nv,ND];omega
theorem yf(g:Int->Int):∀ s:LI_,(∀ v∈s,g v=0)->(s.map g).sum=0
 |[],_=>by simp
 |v::s,h=>by simp only[Nv,ND,yf g s λ w hw=>h w (by simp[hw]),h v ai];omega
theorem qi(g:Int->Int)(a:Int):∀ s:LI_,s.Nodup->a∈s->(∀ v∈s,v≠a->g v=0)->(s.map g).sum=g a
 |[],_,h,_=>by simp at h
 |v::s,d,f,h=>by
  have c:=NJ.1 d;refine tM ?_;by_cases e:v=a
  ·subst e;rw[yf g s λ w hw=>h w (by simp[hw]) (λ e=>c.1 (e▸hw))];omega
  ·have b:a∈s:=(Nn.1 f).resolve_left (λ h=>e h.symm);rw[qi g a s c.2 b λ w hw=>h w (by simp[hw]),h v ai e];omega
theorem tX{s:LI_}(h:s.Pairwise (·<·)):s.Nodup:=h.imp λ h=>by omega
theorem Cn{N:aV}{f:LI_}(d:aD N f){s:LI_}(a:fm N s):dH (N.arcs.zip f) N.src=-n7 s (N.arcs.zip f):=by
 rw[<- Bd (tX a.rise),qi _ N.src s (tX a.rise) a.src λ v c b=>d.kept v (a.rng v c) b λ e=>a.snk (e▸c)]
def tY(n:Nat)(z:Int):LI_:=((List.range (n+1)).map λ (v:Nat)=>(v:Int)).filter λ v=>decide (1<=v/\v≠z)
theorem qo{n:Nat}{z x:Int}:x∈tY n z↔1<=x/\x<=n/\x≠z:=by
 unfold tY;simp only[Pd,NF,N8,NX]
 constructor
 ·rintro⟨⟨v,d,rfl⟩,a,b⟩;exact⟨a,aa,b⟩
 ·rintro⟨a,b,c⟩;exact⟨⟨x.toNat,aa,aa⟩,a,c⟩
theorem B8{N:aV}(b:N.Right)(n:Nat)(d:N.nodes=n)(s:LI_)(a:∀ x:Int,x∈s↔1<=x/\x<=n/\x≠N.snk):∀ ps:List (ej×Int),(∀ p∈ps,p.1∈N.arcs)->n7 s ps=dH ps N.snk
 |[],_=>by simp[n7,dH]
 |p::ps,h=>by
  have c:=B8 b n d s a ps λ q e=>h q (by simp[e]);have k:=b.arc p.1 (h p ai);have f:p.1.fr∈s↔p.1.fr≠N.snk:=by rw[a];omega
  have g:p.1.to∈s↔p.1.to≠N.snk:=by rw[a];omega
  have i:N.snk∉s:=by rw[a];omega
  simp only[n7,dH,Nv,ND] at c ⊢;rw[c];by_cases j:p.1.fr=N.snk<;>by_cases a2:p.1.to=N.snk<;>simp[f,g,i,j,a2]<;>omega
theorem rt(n:Nat)(z:Int):(tY n z).Nodup:=by
 unfold tY
 have h:((List.range (n+1)).map λ (v:Nat)=>(v:Int)).Nodup:=by
  rw[List.nodup_iff_pairwise_ne,List.pairwise_map];exact List.nodup_range.imp λ h e=>h aa
 exact List.Pairwise.filter _ h
theorem oT{N:aV}(a:N.Right){f:LI_}(c:aD N f){s:LI_}(d:fm N s):dH (N.arcs.zip f) N.snk=n7 s (N.arcs.zip f):=by
 have e:=a.nodes;have g:=a.src;have h:=a.diff;obtain⟨n,i⟩:∃ n:Nat,N.nodes=n:=⟨N.nodes.toNat,aa⟩;have j:=B8 a n i (tY n N.snk) (λ x=>qo) (N.arcs.zip f) λ p hp=>(List.of_mem_zip hp).1;have k:=Bd (rt n N.snk) (N.arcs.zip f)
 rw[qi _ N.src _ (rt n N.snk) (qo.2 ⟨aa,aa,h⟩) λ v l b=>by
  have:=qo.1 l;exact c.kept v aa b this.2.2,Cn c d,j] at k
 omega
def jC(m:Int):LN_->LI_->LI_
 |[],f=>f
 |i::W,f=>jC m W (f.set i (f.getD i 0+m))
theorem kY(m:Int):∀ (W:LN_) (f:LI_),(jC m W f).length=f.length
 |[],_=>rfl
 |i::W,f=>by rw[jC,kY m W];simp
theorem qG{N:aV}{z m v:Int}:∀ (W:LN_) (a:Int) (f:LI_),f.length=N.arcs.length->ks N a W z->dH (N.arcs.zip (jC m W f)) v=dH (N.arcs.zip f) v+((if z=v then m else 0)-(if a=v then m else 0))
 |[],a,f,_,h=>by
  have c:a=z:=h;rw[jC,c];omega
 |i::W,a,f,hl,⟨r,b,d,e⟩=>by
  have hi:i<N.arcs.length:=(Ng.1 b).1;have g:f[i]?=some (f.getD i 0):=by rw[Nf,be aa];rfl
  rw[jC,qG W r.to _ (by simp[hl]) e,xB N.arcs f i r _ m v b g,d];omega
theorem ys(m:Int):∀ (W:LN_) (f:LI_) (j:Nat),W.Nodup->(∀ i∈W,i<f.length)->(jC m W f)[j]?=if j∈W then some (f.getD j 0+m) else f[j]?
 |[],f,j,_,_=>by simp[jC]
 |i::W,f,j,c,hi=>by
  have b:=NJ.1 c;rw[jC,ys m W _ j b.2 (λ k d=>by simp;exact hi k (by simp[d]))];by_cases e:j=i
  ·subst e;rw[if_neg b.1,if_pos ai,Nq (hi j ai)]
  ·by_cases a:j∈W
   ·rw[if_pos a,if_pos (by simp[a])];simp only[Nf];rw[Ns (λ h=>e h.symm)]
   ·rw[if_neg a,if_neg (by simp[e,a]),Ns (λ h=>e h.symm)]
theorem mD:∀ {l:LI_},(∀ x∈l,0<=x)->∀ {x},x∈l->x<=l.sum
 |[],_,_,h=>by cases h
 |y::l,h,x,a=>by
  have d:0<=l.sum:=by
   clear a
   have b:∀ x∈l,0<=x:=λ x a=>h x (by simp[a])
   clear h
   induction l with
   |nil=>simp
   |cons z l c=>
    have:=b z ai;have:=c (λ x a=>b x (by simp[a]));rw[ND];omega
  rw[ND]
  rcases Nn.1 a with rfl|a
  ·omega
  ·have:=h y ai;have:=mD (λ x a=>h x (by simp[a])) a;omega
theorem aV.Right.cap{N:aV}(h:N.Right){a:ej}(c:a∈N.arcs):a.cap<=4611686018427387903:=
 PY (mD (l:=N.arcs.map (·.cap)) (λ x d=>by obtain⟨b,e,rfl⟩:=NF.1 d;exact (h.arc b e).2.2) (NF.2 ⟨a,c,rfl⟩)) h.sum
theorem aD.inB{N:aV}(c:N.Right){f:LI_}(a:Ranged N f):∀ x∈f,b7 x:=by
 intro x d;obtain⟨j,e,rfl⟩:=NV.1 d;have hl:=a.len;have b:N.arcs[j]?=some (N.arcs[j]'aa):=be aa;have g:=a.all (N.arcs[j]'aa,f[j]) (Nb (N0.2 ⟨b,be e⟩));have h:=c.cap (Nb b);simp only at g;unfold Go.Proofs.YtmcnpaelaieniaaGreatDoor.b7;omega
theorem iV(N:aV)(c:N.Right):aD N (List.replicate N.arcs.length 0):=by
 have d:∀ (l:List ej) (v:Int),dH (l.zip (List.replicate l.length 0)) v=0:=by
  intro l v
  induction l with
  |nil=>simp[dH]
  |cons a l b=>
   simp only[dH] at b;simp only[dH,Nh,Oo,Pt,Nv,ND,b];split<;>split<;>rfl
 refine⟨⟨ai,λ p hp=>?_⟩,λ v _ _ _=>d _ _⟩;obtain⟨e,f⟩:=List.of_mem_zip hp;have:=(c.arc p.1 e).2.2;have:=List.eq_of_mem_replicate f;omega
def eN(N:aV)(r:Nat):Nat:=(df N r).1.toNat
def gR(N:aV)(r:Nat):Nat:=(df N r).2.toNat
theorem ow{N:aV}(a:N.Right){r:Nat}(b:r<2*N.arcs.length):(df N r).1=(eN N r:Int)/\1<=eN N r/\(eN N r:Int)<=N.nodes:=by
 have:=jL a b;unfold eN;omega
theorem jM{N:aV}(a:N.Right){r:Nat}(b:r<2*N.arcs.length):(df N r).2=(gR N r:Int)/\1<=gR N r/\(gR N r:Int)<=N.nodes:=by
 have:=jL a b;unfold gR;omega
def cI(r:Nat):Nat:=if r%2=1 then r-1 else r+1
theorem mC(r:Nat):cI (cI r)=r:=by unfold cI;split<;>split<;>omega
theorem x7(r:Nat):cI r≠r:=by unfold cI;split<;>omega
theorem zr{r m:Nat}(h:r<2*m):cI r<2*m:=by unfold cI;split<;>omega
theorem BN(r:Nat):cI r/2=r/2:=by unfold cI;split<;>omega
theorem iK(N:aV)(r:Nat):eN N (cI r)=gR N r:=by
 unfold eN gR df;rw[BN]
 cases N.arcs[r/2]? with
 |none=>rfl
 |some a=>
  show (ed a (cI r)).1.toNat=(ed a r).2.toNat;unfold ed cI;split<;>split<;>first|rfl|omega
theorem ky(N:aV)(r:Nat):gR N (cI r)=eN N r:=by
 have:=iK N (cI r);rw[mC] at this;exact this.symm
def Tr(N:aV):Nat->LN_->Nat->Prop
 |a,[],z=>a=z
 |a,r::W,z=>eN N r=a/\Tr N (gR N r) W z
theorem Hs{N:aV}{r:Nat}:∀ {W:LN_} {a:Nat},Tr N a W (eN N r)->Tr N a (W++[r]) (gR N r)
 |[],_,h=>⟨h.symm,rfl⟩
 |_::_,_,⟨b,c⟩=>⟨b,Hs c⟩
theorem rp{N:aV}{r z:Nat}:∀ {W:LN_} {a:Nat},Tr N a (W++[r]) z->Tr N a W (eN N r)/\z=gR N r
 |[],_,⟨c,b⟩=>⟨c.symm,b.symm⟩
 |_::_,_,⟨c,b⟩=>⟨⟨c,(rp b).1⟩,(rp b).2⟩
theorem xh{N:aV}:∀ {W:LN_} {a z:Nat} (k:Nat),Tr N a W z->∃ y,Tr N a (W.take k) y
 |[],a,_,k,_=>⟨a,by rw[List.take_nil];exact rfl⟩
 |r::W,a,z,0,_=>⟨a,rfl⟩
 |r::W,a,z,k+1,⟨b,c⟩=>by obtain⟨y,d⟩:=xh k c;exact⟨y,b,d⟩
def dZ(N:aV)(W:LN_):Nat:=match W.getLast? with
 |none=>N.src.toNat
 |some r=>gR N r
theorem rf(N:aV)(W:LN_)(r:Nat):dZ N (W++[r])=gR N r:=by unfold dZ;rw[N1];rfl
theorem AV{N:aV}{W:LN_}{z:Nat}(h:Tr N N.src.toNat W z):z=dZ N W:=by
 rcases Ob W with rfl|⟨a,r,rfl⟩
 ·exact h.symm
 ·rw[Oc] at h ⊢;rw[(rp h).2,rf]
structure gp (N:aV) (L:Nat->LN_) (lv:Nat->Int):Prop where
 ok:∀ v r,r∈L v->r<2*N.arcs.length/\eN N r=v/\lv (gR N r)=lv v+1
 hi:∀ v,-1<=lv v/\lv v<N.nodes
theorem q4{N:aV}{L:Nat->LN_}{lv:Nat->Int}(c:gp N L lv):∀ {W:LN_} {a z:Nat},Tr N a W z->(∀ r∈W,r∈L (eN N r))->lv z=lv a+W.length/\∀ r∈W,lv a<=lv (eN N r)/\lv (eN N r)<lv z
 |[],a,z,h,_=>by rw[show a=z from h];simp
 |r::W,a,z,⟨d,g⟩,e=>by
  have f:=(c.ok _ _ (e r ai)).2.2;obtain⟨i,j⟩:=q4 c g λ q b=>e q (by simp[b]);rw[d] at f;refine⟨by rw[i,f,Nh];omega,λ q b=>?_⟩
  rcases Nn.1 b with rfl|b
  ·rw[d];omega
  ·have:=j q b;omega
theorem ud{N:aV}{L:Nat->LN_}{lv:Nat->Int}(c:gp N L lv):∀ {W:LN_} {a z:Nat},Tr N a W z->(∀ r∈W,r∈L (eN N r))->W.Nodup/\∀ r∈W,∀ q∈W,cI r≠q
 |[],a,z,h,_=>⟨PH,λ _ h=>by cases h⟩
 |r::W,a,z,⟨n,i⟩,d=>by
  obtain⟨j,o⟩:=ud c i λ q b=>d q (by simp[b]);have p:=(c.ok _ _ (d r ai)).2.2;have k:=(q4 c i λ q b=>d q (by simp[b])).2
  have l:∀ s∈r::W,∀ q∈r::W,cI s=q->False:=by
   intro s f q b e;have t:=(c.ok _ _ (d s f)).2.2;have m:=(c.ok _ _ (d q b)).2.2;rw[<- e,ky,iK] at m;omega
  refine⟨NJ.2 ⟨λ g=>?_,j⟩,λ s f q b e=>l s f q b e⟩;have:=(k r g).1;omega
def rh(L:Nat->LN_)(pos:LN_)(u:Nat):Prop:=∀ p,pos[u]?=some p->(L u).length<=p
structure PI (N:aV) (L:Nat->LN_) (least:Int) (rm:LI_) (pos W:LN_):Prop where
 pl:pos.length=N.nodes.toNat+1
 tr:∃ z,Tr N N.src.toNat W z
 head:∀ r∈W,∃ p,pos[eN N r]?=some p/\(L (eN N r))[p]?=some r/\least<=rm.getD r 0
 pass:∀ v p,pos[v]?=some p->∀ j r,j<p->(L v)[j]?=some r->rm.getD r 0<least\/(gR N r≠N.snk.toNat/\rh L pos (gR N r))
theorem zL{pos:LN_}{v p u q:Nat}(h:pos[v]?=some p)(a:(pos.set v (p+1))[u]?=some q):∃ b,pos[u]?=some b/\b<=q/\(u≠v->b=q):=by
 by_cases e:v=u
 ·subst e;rw[Nq (Ng.1 h).1] at a;simp only[Nc] at a;exact⟨p,h,aa,λ h=>absurd rfl h⟩
 ·rw[Ns e] at a;exact⟨q,a,Nr _,λ _=>rfl⟩
theorem rh.more{L:Nat->LN_}{pos:LN_}{v p u:Nat}(h:rh L pos u)(hp:pos[v]?=some p):rh L (pos.set v (p+1)) u:=by
 intro q a;obtain⟨b,c,d,_⟩:=zL hp a;exact Ov (h b c) d
section
variable {N:aV} {L:Nat->LN_} {lv:Nat->Int} {least:Int} {rm:LI_} {pos W:LN_}
theorem PI.on(h:PI N L least rm pos W):Tr N N.src.toNat W (dZ N W):=by
 obtain⟨z,a⟩:=h.tr;rw[<- AV a];exact a
theorem PI.mem(h:PI N L least rm pos W):∀ r∈W,r∈L (eN N r):=λ r a=>by
 obtain⟨p,_,b,_⟩:=h.head r a;exact Nb b
theorem PI.go(h:PI N L least rm pos W)(d:gp N L lv){p r:Nat}(hp:pos[dZ N W]?=some p)(b:(L (dZ N W))[p]?=some r)(hl:least<=rm.getD r 0):PI N L least rm pos (W++[r]):=by
 have c:=(d.ok _ _ (Nb b)).2.1;refine⟨h.pl,⟨_,Hs (c.symm▸h.on)⟩,λ q a=>?_,h.pass⟩
 rcases Np.1 a with a|a
 ·exact h.head q a
 ·rw[Ni.1 a,c];exact⟨p,hp,b,hl⟩
theorem PI.bump(h:PI N L least rm pos W){v p r:Nat}(g:∀ q∈W,eN N q≠v)(hp:pos[v]?=some p)(i:(L v)[p]?=some r)(hl:rm.getD r 0<least\/(gR N r≠N.snk.toNat/\rh L pos (gR N r))):PI N L least rm (pos.set v (p+1)) W:=by
 refine⟨by rw[NO];exact h.pl,h.tr,λ q a=>?_,λ u q a j s l b=>?_⟩
 ·obtain⟨k,c,f,d⟩:=h.head q a;exact⟨k,by rw[Ns (g q a).symm];exact c,f,d⟩
 ·obtain⟨m,c,f,d⟩:=zL hp a
  have key:rm.getD s 0<least\/(gR N s≠N.snk.toNat/\rh L pos (gR N s)):=by
   by_cases e:u=v
   ·subst e;rw[hp] at c;simp only[Nc] at c;rw[Nq (Ng.1 hp).1] at a;simp only[Nc] at a;by_cases n:j=p
    ·subst n;rw[i] at b;simp only[Nc] at b;rw[<- b];exact hl
    ·exact h.pass u p hp j s aa b
   ·have:=d e;subst this;exact h.pass u m c j s l b
  rcases key with k|⟨k1,o⟩
  ·exact .inl k
  ·exact .inr ⟨k1,o.more hp⟩
theorem PI.skip(h:PI N L least rm pos W)(a:gp N L lv){p r:Nat}(hp:pos[dZ N W]?=some p)(b:(L (dZ N W))[p]?=some r)(hl:rm.getD r 0<least):PI N L least rm (pos.set (dZ N W) (p+1)) W:=
 h.bump (λ q c e=>by have:=((q4 a h.on h.mem).2 q c).2;rw[e] at this;omega) hp b (.inl hl)
theorem PI.drop{r:Nat}(h:PI N L least rm pos (W++[r])):PI N L least rm pos W:=by
 obtain⟨z,a⟩:=h.tr;exact⟨h.pl,⟨_,(rp a).1⟩,λ q b=>h.head q (by simp[b]),h.pass⟩
theorem PI.back_at{r:Nat}(h:PI N L least rm pos (W++[r])):∃ q,pos[dZ N W]?=some q/\(L (dZ N W))[q]?=some r/\eN N r=dZ N W:=by
 obtain⟨z,c⟩:=h.tr;have e:=AV (rp c).1;obtain⟨p,a,b,_⟩:=h.head r ai;rw[e] at a b;exact⟨p,a,b,e⟩
theorem PI.back{r p q:Nat}(h:PI N L least rm pos (W++[r]))(g:gp N L lv)(d:dZ N (W++[r])≠N.snk.toNat)(hp:pos[dZ N (W++[r])]?=some p)(hl:(L (dZ N (W++[r]))).length<=p)(f:pos[dZ N W]?=some q):
 PI N L least rm (pos.set (dZ N W) (q+1)) W:=by
 obtain⟨j,b,i,k⟩:=h.back_at;rw[f] at b;simp only[Nc] at b;subst b;rw[rf] at d hp hl;refine h.drop.bump (λ s c e=>?_) f i (.inr ⟨d,λ l a=>?_⟩)
 ·have:=((q4 g h.drop.on h.drop.mem).2 s c).2;rw[e] at this;omega
 ·rw[hp] at a;simp only[Nc] at a;rw[<- a];exact hl
end
inductive Nx (N:aV) (L:Nat->LN_) (least:Int) (rm:LI_):LN_->LN_->Bool->LN_->LN_->Prop
 |hit {pos W:LN_}:dZ N W=N.snk.toNat->Nx N L least rm pos W true pos W
 |go {pos W pos' W':LN_} {r p:Nat} {b:Bool}:dZ N W≠N.snk.toNat->pos[dZ N W]?=some p->(L (dZ N W))[p]?=some r->least<=rm.getD r 0->Nx N L least rm pos (W++[r]) b pos' W'->Nx N L least rm pos W b pos' W'
 |skip {pos W pos' W':LN_} {r p:Nat} {b:Bool}:dZ N W≠N.snk.toNat->pos[dZ N W]?=some p->(L (dZ N W))[p]?=some r->rm.getD r 0<least->Nx N L least rm (pos.set (dZ N W) (p+1)) W b pos' W'->Nx N L least rm pos W b pos' W'
 |back {pos W pos' W':LN_} {r p q:Nat} {b:Bool}:dZ N (W++[r])≠N.snk.toNat->pos[dZ N (W++[r])]?=some p->(L (dZ N (W++[r]))).length<=p->pos[dZ N W]?=some q->Nx N L least rm (pos.set (dZ N W) (q+1)) W b pos' W'->Nx N L least rm pos (W++[r]) b pos' W'
 |stop {pos:LN_} {p:Nat}:N.src.toNat≠N.snk.toNat->pos[N.src.toNat]?=some p->(L N.src.toNat).length<=p->Nx N L least rm pos [] false pos []
theorem Nx.keeps{N:aV}{L:Nat->LN_}{lv:Nat->Int}{least:Int}{rm:LI_}(i:gp N L lv){pos W pos' g:LN_}{b:Bool}(h:Nx N L least rm pos W b pos' g):
 PI N L least rm pos W->PI N L least rm pos' g/\(b=true->dZ N g=N.snk.toNat)/\(b=false->g=[]/\rh L pos' N.src.toNat):=by
 induction h with
 |hit h=>exact λ a=>⟨a,λ _=>h,λ h=>(by cases h)⟩
 |go _ c d e _ f=>exact λ a=>f (a.go i c d e)
 |skip _ c d e _ f=>exact λ a=>f (a.skip i c d e)
 |back j c d e _ f=>exact λ a=>f (a.back i j c d e)
 |stop _ c d=>exact λ a=>⟨a,λ h=>(by cases h),λ _=>⟨rfl,λ p hp=>by rw[c] at hp;simp only[Nc] at hp;rw[<- hp];exact d⟩⟩
inductive LP (N:aV) (L:Nat->LN_) (least:Int) (rm:LI_):Nat->Prop
 |src:LP N L least rm N.src.toNat
 |step {r:Nat}:LP N L least rm (eN N r)->r∈L (eN N r)->least<=rm.getD r 0->LP N L least rm (gR N r)
theorem CB{N:aV}(e:N.Right){L:Nat->LN_}{lv:Nat->Int}{least:Int}{rm:LI_}(f:gp N L lv){pos:LN_}(c:PI N L least rm pos [])(g:rh L pos N.src.toNat)(i:N.src.toNat≠N.snk.toNat):
 ∀ {u},LP N L least rm u->u≠N.snk.toNat/\rh L pos u:=by
 intro u h
 induction h with
 |src=>exact⟨i,g⟩
 |@step r _ d hl l=>
  obtain⟨j,m,a⟩:=NV.1 d;have b:=(f.ok _ _ d).1;have n:=ow e b;have hlen:eN N r<pos.length:=by rw[c.pl];omega
  obtain⟨p,hp⟩:∃ p,pos[eN N r]?=some p:=⟨pos[eN N r],be hlen⟩;have:=l.2 p hp
  rcases c.pass _ p hp j r aa (by rw[be m,a]) with k|k
  ·omega
  ·exact k
def qJ(a:Int)(r:Nat)(rm:LI_):LI_:=(rm.set r (rm.getD r 0-a)).set (cI r) (rm.getD (cI r) 0+a)
def dg(a:Int):LN_->LI_->LI_
 |[],rm=>rm
 |r::W,rm=>dg a W (qJ a r rm)
theorem mt(a:Int)(r:Nat)(rm:LI_):(qJ a r rm).length=rm.length:=by simp[qJ]
theorem iX(a:Int):∀ (W:LN_) (rm:LI_),(dg a W rm).length=rm.length
 |[],_=>rfl
 |r::W,rm=>by rw[dg,iX a W,mt]
theorem vL(a:Int)(r:Nat):∀ (W:LN_) (rm:LI_),dg a (W++[r]) rm=qJ a r (dg a W rm)
 |[],_=>rfl
 |q::W,rm=>by simp only[Od,dg];exact vL a r W _
theorem kq{l:LI_}{i j:Nat}{x d:Int}(hi:i<l.length):(l.set i x).getD j d=if i=j then x else l.getD j d:=by
 simp only[Nf];by_cases e:i=j
 ·subst e;rw[if_pos rfl,Nq hi];rfl
 ·rw[if_neg e,Ns e]
theorem vY{a:Int}{r m:Nat}{rm:LI_}(hl:rm.length=2*m)(e:r<2*m)(q:Nat):
 (qJ a r rm).getD q 0=rm.getD q 0+(if cI q=r then a else 0)-(if q=r then a else 0):=by
 have g:=zr e;unfold qJ;rw[kq (by rw[NO];omega),kq aa];have b:=x7 r;by_cases c:cI r=q
 ·subst c;rw[if_pos rfl,mC,if_pos rfl,if_neg b];omega
 ·have f:cI q≠r:=fun h=>c (by rw[← h,mC]);rw[if_neg c,if_neg f];by_cases d:r=q
  ·subst d;rw[if_pos rfl,if_pos rfl];omega
  ·rw[if_neg d,if_neg (λ h=>d h.symm)];omega
open Classical in
theorem jj{a:Int}{m:Nat}:∀ {W:LN_} {rm:LI_},rm.length=2*m->(∀ r∈W,r<2*m)->W.Nodup->(∀ q:Nat,(dg a W rm).getD q 0=rm.getD q 0+(if cI q∈W then a else 0)-(if q∈W then a else 0))
 |[],rm,_,_,_,q=>by simp[dg]
 |r::W,rm,hl,d,f,q=>by
  have c:=NJ.1 f;rw[dg,jj (by rw[mt];exact hl) (λ x g=>d x (by simp[g])) c.2 q,vY hl (d r ai)]
  have h:(if cI q∈r::W then a else 0)=(if cI q=r then a else 0)+(if cI q∈W then a else 0):=by
   by_cases e:cI q=r
   ·rw[if_pos e,if_pos (by simp[e]),if_neg (by rw[e];exact c.1)];omega
   ·rw[if_neg e];by_cases b:cI q∈W
    ·rw[if_pos b,if_pos (by simp[b])];omega
    ·rw[if_neg b,if_neg (by simp[e,b])];omega
  have b:(if q∈r::W then a else 0)=(if q=r then a else 0)+(if q∈W then a else 0):=by
   by_cases e:q=r
   ·rw[if_pos e,if_pos (by simp[e]),if_neg (by rw[e];exact c.1)];omega
   ·rw[if_neg e];by_cases b:q∈W
    ·rw[if_pos b,if_pos (by simp[b])];omega
    ·rw[if_neg b,if_neg (by simp[e,b])];omega
  rw[h,b];omega
def dC(rm:LI_)(W:LN_):Int:=W.foldl (λ m q=>if rm.getD q 0<m then rm.getD q 0 else m) (rm.getD (W.headD 0) 0)
theorem vm(rm:LI_):∀ (W:LN_) (x:Int),(W.foldl (λ m q=>if rm.getD q 0<m then rm.getD q 0 else m) x<=x)/\(∀ r∈W,W.foldl (λ m q=>if rm.getD q 0<m then rm.getD q 0 else m) x<=rm.getD r 0)/\
 (W.foldl (λ m q=>if rm.getD q 0<m then rm.getD q 0 else m) x=x\/∃ r∈W,W.foldl (λ m q=>if rm.getD q 0<m then rm.getD q 0 else m) x=rm.getD r 0)
 |[],x=>⟨Ox _,λ _ h=>(by cases h),.inl rfl⟩
 |r::W,x=>by
  obtain⟨d,e,a⟩:=vm rm W (if rm.getD r 0<x then rm.getD r 0 else x);simp only[OH];refine⟨PY d (by split<;>omega),λ q c=>?_,?_⟩
  ·rcases Nn.1 c with rfl|c
   ·exact PY d (by split<;>omega)
   ·exact e q c
  ·rcases a with a|⟨q,c,a⟩
   ·split at a
    ·exact .inr ⟨r,ai,by rename_i b;rw[if_pos b];exact a⟩
    ·rename_i b;exact .inl (by rw[if_neg b];exact a)
   ·exact .inr ⟨q,by simp[c],a⟩
theorem qL{rm:LI_}{W:LN_}:∀ r∈W,dC rm W<=rm.getD r 0:=(vm rm W _).2.1
theorem ny{rm:LI_}{W:LN_}(h:W≠[]):∃ r∈W,dC rm W=rm.getD r 0:=by
 rcases (vm rm W (rm.getD (W.headD 0) 0)).2.2 with a|a
 ·cases W with
  |nil=>exact absurd rfl h
  |cons r W=>exact⟨r,ai,a⟩
 ·exact a
def rI(least:Int)(rm:LI_)(W:LN_):Nat:=W.findIdx λ r=>decide (rm.getD r 0<least)
inductive Bl (N:aV) (L:Nat->LN_) (least:Int):LI_->LN_->LN_->List (LN_×Int)->LI_->Prop
 |stop {rm:LI_} {pos W pos' W':LN_}:Nx N L least rm pos W false pos' W'->Bl N L least rm pos W [] rm
 |walk {rm rm':LI_} {pos W pos' W':LN_} {ws:List (LN_×Int)}:Nx N L least rm pos W true pos' W'->
  Bl N L least (dg (dC rm W') W' rm) pos' (W'.take (rI least (dg (dC rm W') W' rm) W')) ws rm'->Bl N L least rm pos W ((W',dC rm W')::ws) rm'
theorem f8{l:List ej}{f:LI_}{i:Nat}{a:ej}{x:Int}(h:l[i]?=some a)(k:f[i]?=some x):(l.zip f)[i]?=some (a,x):=N0.2 ⟨h,k⟩
theorem eh:∀ {ps:List (ej×Int)} {i:Nat} {p:ej×Int},ps[i]?=some p->(bc ps)[2*i]?=some (p.1.cap-p.2)/\(bc ps)[2*i+1]?=some p.2
 |[],_,_,h=>by simp at h
 |q::ps,0,p,h=>by
  simp only[Ok,Nc] at h;subst h;exact ji
 |q::ps,i+1,p,h=>by
  have a:=eh (ps:=ps) (i:=i) (by simpa using h);have e:bc (q::ps)=[q.1.cap-q.2,q.2]++bc ps:=by simp[bc]
  rw[e,NB eK,NB eK];exact⟨by rw[show 2*(i+1)-[q.1.cap-q.2,q.2].length=2*i by simp;omega];exact a.1,by rw[show 2*(i+1)+1-[q.1.cap-q.2,q.2].length=2*i+1 by simp;omega];exact a.2⟩
def iG(a:Int)(r:Nat)(f:LI_):LI_:=f.set (r/2) (f.getD (r/2) 0+if r%2=1 then-a else a)
def pF(a:Int):LN_->LI_->LI_
 |[],f=>f
 |r::W,f=>pF a W (iG a r f)
theorem lH(a:Int)(r:Nat)(f:LI_):(iG a r f).length=f.length:=by simp[iG]
theorem BA{N:aV}{a:Int}{r:Nat}{f:LI_}(hl:f.length=N.arcs.length)(l:r<2*N.arcs.length):qJ a r (bc (N.arcs.zip f))=bc (N.arcs.zip (iG a r f)):=by
 have j:(N.arcs.zip f).length=N.arcs.length:=by simp;omega
 have g:(N.arcs.zip (iG a r f)).length=N.arcs.length:=by simp[lH];omega
 have c:=d8 (N.arcs.zip f);have b:=d8 (N.arcs.zip (iG a r f));rw[j] at c;rw[g] at b
 have h:∀ q:Nat,q<2*N.arcs.length->(qJ a r (bc (N.arcs.zip f))).getD q 0=(bc (N.arcs.zip (iG a r f))).getD q 0:=by
  intro q s;rw[vY c l];have k:q/2<N.arcs.length:=aa;obtain⟨ar,i⟩:∃ x,N.arcs[q/2]?=some x:=⟨N.arcs[q/2],be k⟩;have m:f[q/2]?=some (f.getD (q/2) 0):=by rw[Nf,be aa];rfl
  have n:(iG a r f)[q/2]?=some ((iG a r f).getD (q/2) 0):=by rw[Nf,be (by rw[lH];omega)];rfl
  obtain⟨g1,g2⟩:=eh (f8 i m);obtain⟨g3,g4⟩:=eh (f8 i n)
  have d:(iG a r f).getD (q/2) 0=f.getD (q/2) 0+if r/2=q/2 then (if r%2=1 then-a else a) else 0:=by
   unfold iG;rw[kq aa];by_cases e:r/2=q/2
   ·rw[if_pos e,if_pos e,e]
   ·rw[if_neg e,if_neg e];omega
  simp only at g1 g2 g3 g4
  rcases Pj q with hm|hm
  ·have e:2*(q/2)=q:=by omega
   rw[e] at g1 g3;simp only[Nf] at d ⊢;rw[g1,g3];simp only[NL,Nf] at d ⊢;rw[d];unfold cI;rw[if_neg (by omega:¬ q%2=1)];split<;>split<;>split<;>(try split)<;>omega
  ·have e:2*(q/2)+1=q:=by omega
   rw[e] at g2 g4;simp only[Nf] at d ⊢;rw[g2,g4];simp only[NL,Nf] at d ⊢;rw[d];unfold cI;rw[if_pos hm];split<;>split<;>split<;>(try split)<;>omega
 refine PK (by rw[mt,c,b]) λ q o p=>?_;have:=h q aa;simp only[Nf] at this;rw[be o,be p] at this;exact this
theorem Dp{N:aV}{a v:Int}{r:Nat}{f:LI_}(hl:f.length=N.arcs.length)(d:r<2*N.arcs.length):
 dH (N.arcs.zip (iG a r f)) v=dH (N.arcs.zip f) v+((if (df N r).2=v then a else 0)-(if (df N r).1=v then a else 0)):=by
 obtain⟨ar,b⟩:∃ x,N.arcs[r/2]?=some x:=⟨N.arcs[r/2]'aa,be aa⟩;have c:f[r/2]?=some (f.getD (r/2) 0):=by rw[Nf,be aa];rfl
 have he:df N r=ed ar r:=by unfold df;rw[b]
 unfold iG;rw[xB N.arcs f (r/2) ar _ _ v b c,he];unfold ed;by_cases hm:r%2=1
 ·rw[if_pos hm,if_pos hm];simp only;split<;>split<;>omega
 ·rw[if_neg hm,if_neg hm]
theorem v5{N:aV}(c:N.Right){a:Int}:∀ {W:LN_} {f:LI_} {x z:Nat},f.length=N.arcs.length->(∀ r∈W,r<2*N.arcs.length)->Tr N x W z->
 (pF a W f).length=N.arcs.length/\dg a W (bc (N.arcs.zip f))=bc (N.arcs.zip (pF a W f))/\∀ v:Int,dH (N.arcs.zip (pF a W f)) v=dH (N.arcs.zip f) v+((if (z:Int)=v then a else 0)-(if (x:Int)=v then a else 0))
 |[],f,x,z,hl,_,h=>⟨hl,rfl,λ v=>by rw[show x=z from h];simp only[pF];omega⟩
 |r::W,f,x,z,hl,d,⟨e,g⟩=>by
  have b:=d r ai;obtain⟨k1,i,j⟩:=v5 c (a:=a) (f:=iG a r f) (by rw[lH];exact hl) (λ q k=>d q (by simp[k])) g;refine⟨k1,by rw[dg,BA hl b,i];rfl,λ v=>?_⟩;rw[pF,j,Dp hl b,(jM c b).1,(ow c b).1,e];omega
theorem mE{N:aV}{f:LI_}(hl:f.length=N.arcs.length):Ranged N f↔∀ q,q<2*N.arcs.length->0<=(bc (N.arcs.zip f)).getD q 0:=by
 constructor
 ·intro h q l;obtain⟨ar,b⟩:∃ x,N.arcs[q/2]?=some x:=⟨N.arcs[q/2]'aa,List.getElem?_eq_getElem aa⟩;have e:f[q/2]?=some (f.getD (q/2) 0):=by rw[List.getD_eq_getElem?_getD,List.getElem?_eq_getElem aa];rfl
  have a:=f8 b e;obtain⟨g1,g2⟩:=eh a;have:=h.all _ (Nb a);simp only at g1 g2 this
  rcases Pj q with hm|hm
  ·rw[show 2*(q/2)=q by omega] at g1;rw[Nf,g1,NL];omega
  ·rw[show 2*(q/2)+1=q by omega] at g2;rw[Nf,g2,NL];omega
 ·intro h;refine⟨hl,fun p hp=>?_⟩;obtain⟨j,d,c⟩:=List.mem_iff_getElem.1 hp;have a:(N.arcs.zip f)[j]?=some p:=by rw[List.getElem?_eq_getElem d,c]
  have g:j<N.arcs.length:=by have:=d;simp at this;omega
  obtain⟨g1,g2⟩:=eh a;have i:=h (2*j) aa;have k:=h (2*j+1) aa;rw[Nf,g1,NL] at i;rw[Nf,g2,NL] at k;omega
theorem wb{N:aV}(g:N.Right){f:LI_}(b:aD N f){W:LN_}(j:∀ r∈W,r<2*N.arcs.length)(l:W.Nodup)(m:Tr N N.src.toNat W N.snk.toNat){a:Int}(y:0<=a)(hm:∀ r∈W,a<=(bc (N.arcs.zip f)).getD r 0):
 aD N (pF a W f)/\dg a W (bc (N.arcs.zip f))=bc (N.arcs.zip (pF a W f))/\dH (N.arcs.zip (pF a W f)) N.snk=dH (N.arcs.zip f) N.snk+a:=by
 obtain⟨n,k,h⟩:=v5 g (a:=a) b.len j m;have o:=g.src;have p:=g.snk;have s:=g.diff;have t:((N.src.toNat:Nat):Int)=N.src:=aa;have u:((N.snk.toNat:Nat):Int)=N.snk:=aa;rw[t,u] at h;have i:(N.arcs.zip f).length=N.arcs.length:=by have:=b.len;simp;omega
 refine⟨⟨(mE n).2 λ q w=>?_,λ v x c d=>?_⟩,k,?_⟩
 ·rw[← k,jj (by rw[d8,i]) j l];have z:=(mE b.len).1 b.toRanged q w;by_cases e:q∈W
  ·have:=hm q e;rw[if_pos e];split<;>omega
  ·rw[if_neg e];split<;>omega
 ·rw[h,b.kept v x c d,if_neg (λ e=>d e.symm),if_neg (λ e=>c e.symm)];rfl
 ·rw[h,if_pos rfl,if_neg s];omega
theorem Bl.keeps{N:aV}(n:N.Right){L:Nat->LN_}{lv:Nat->Int}{least:Int}(t:gp N L lv)(hle:1<=least){rm rm':LI_}{pos W:LN_}{ws:List (LN_×Int)}(h:Bl N L least rm pos W ws rm'):
 ∀ f,aD N f->rm=bc (N.arcs.zip f)->PI N L least rm pos W->
   ∃ f',aD N f'/\rm'=bc (N.arcs.zip f')/\dH (N.arcs.zip f) N.snk+least*ws.length<=dH (N.arcs.zip f') N.snk/\(∀ u,LP N L least rm' u->u≠N.snk.toNat)/\(∀ v r,r∈L v->rm'.getD r 0<=rm.getD r 0)/\
     (∀ q,q<2*N.arcs.length->rm.getD q 0<rm'.getD q 0->cI q∈L (eN N (cI q))):=by
 induction h with
 |@stop rm pos W pos' b F=>
  intro f E he G;obtain⟨d,_,Y⟩:=F.keeps t G;obtain⟨rfl,Z⟩:=Y rfl;have H:=n.src;have I:=n.snk;have K:=n.diff;exact⟨f,E,he,ai,λ u hu=>(CB n t d Z aa hu).1,λ _ _ _=>Ox _,λ q _ h=>by omega⟩
 |@walk rm rm' pos W pos' b ws F _ U=>
  intro f E he G;obtain⟨d,h2,_⟩:=F.keeps t G;have e:=h2 rfl;have l:=d.on;rw[e] at l;have x:=ud t l d.mem;have y:∀ r∈b,r<2*N.arcs.length:=λ r c=>(t.ok _ _ (d.mem r c)).1;have w:∀ r∈b,least<=rm.getD r 0:=λ r c=>by obtain⟨_,_,_,h⟩:=d.head r c;exact h
  have z:b≠[]:=by
   intro h0;have H:=n.src;have I:=n.snk;have K:=n.diff;rw[h0] at e;simp only[dZ,List.getLast?_nil] at e;omega
  obtain⟨r0,M,O⟩:=ny (rm:=rm) z;have A:=w r0 M;rw[<- O] at A;obtain⟨a,o⟩:∃ a,a=dC rm b:=⟨_,rfl⟩;rw[<- o] at A U ⊢;have B:∀ r∈b,a<=rm.getD r 0:=λ r c=>o▸qL r c;obtain⟨k1,V,k3⟩:=wb n E y x.1 l (by omega:0<=a) (he▸B);rw[<- he] at V;have P:rm.length=2*N.arcs.length:=by rw[he,d8];have:=E.len;simp;omega
  have s:=jj (a:=a) P y x.1
  have g:∀ v r,r∈L v->(dg a b rm).getD r 0<=rm.getD r 0:=by
   intro v r c;rw[s]
   have:cI r∉b:=by
    intro m;have g1:=(t.ok _ _ c);have g2:=(t.ok _ _ (d.mem _ m)).2.2;have g3:=g1.2.2;rw[ky,iK] at g2;rw[<- g1.2.1] at g3;omega
   rw[if_neg this];split<;>omega
  have Q:PI N L least (dg a b rm) pos' (b.take (rI least (dg a b rm) b)):=by
   refine⟨d.pl,xh _ l,λ r c=>?_,λ v p hp j r hj C=>?_⟩
   ·obtain⟨p,g1,g2,_⟩:=d.head r (List.mem_of_mem_take c);refine⟨p,g1,g2,?_⟩;obtain⟨i,hi,D⟩:=List.mem_iff_getElem.1 c;have R:i<rI least (dg a b rm) b:=by rw[List.length_take] at hi;omega
    rw[PD] at D;have:=Py R;rw[D] at this
    simpa using this
   ·rcases d.pass v p hp j r hj C with k|k
    ·exact .inl (by have:=g v r (Nb C);omega)
    ·exact .inr k
  obtain⟨f',g1,g2,g3,g4,g5,g6⟩:=U (pF a b f) k1 V Q;refine⟨f',g1,g2,?_,g4,λ v r c=>PY (g5 v r c) (g v r c),λ q hq X=>?_⟩
  ·rw[k3] at g3;rw[List.length_cons];have:least*((ws.length+1:Nat):Int)=least*ws.length+least:=by grind
   omega
  ·by_cases S:rm.getD q 0<(dg a b rm).getD q 0
   ·rw[s] at S;by_cases m:cI q∈b
    ·exact d.mem _ m
    ·rw[if_neg m] at S;split at S<;>omega
   ·exact g6 q hq aa
def dL(lv:LI_)(v:Nat):Int:=lv.getD v (-1)
theorem wS{lv:LI_}{v:Nat}{x:Int}(h:lv[v]?=some x):dL lv v=x:=by unfold dL;rw[Nf,h];rfl
theorem qw{lv:LI_}{v:Nat}(h:v<lv.length):lv[v]?=some (dL lv v):=by unfold dL;rw[Nf,be h];rfl
theorem CZ{lv:LI_}{t v:Nat}{x:Int}(h:t<lv.length):dL (lv.set t x) v=if t=v then x else dL lv v:=kq h
theorem CT{lv:LI_}{v:Nat}(h:lv.length<=v):dL lv v=-1:=by unfold dL;rw[Nf,N4 h];rfl
structure fw (N:aV) (rm:LI_) (least:Int) (lv:LI_):Prop where
 len:lv.length=N.nodes.toNat+1
 src:dL lv N.src.toNat=0
 nil:dL lv 0=-1
 rng:∀ v,-1<=dL lv v/\dL lv v<N.nodes
 zero:∀ v,dL lv v=0->v=N.src.toNat
 step:∀ r,r<2*N.arcs.length->least<=rm.getD r 0->0<=dL lv (eN N r)->0<=dL lv (gR N r)/\dL lv (gR N r)<=dL lv (eN N r)+1
 back:∀ v,0<dL lv v->∃ r,r<2*N.arcs.length/\least<=rm.getD r 0/\gR N r=v/\dL lv (eN N r)=dL lv v-1
structure LH (N:aV) (rm:LI_) (least:Int) (k:Nat) (fr:LN_) (lv:LI_):Prop where
 k1:1<=k
 len:lv.length=N.nodes.toNat+1
 src:dL lv N.src.toNat=0
 nil:dL lv 0=-1
 rng:∀ v,dL lv v=-1\/0<=dL lv v/\dL lv v<=(k:Int)-1
 zero:∀ v,dL lv v=0->v=N.src.toNat
 front:∀ v,dL lv v=(k:Int)-1↔v∈fr
 done:∀ r,r<2*N.arcs.length->least<=rm.getD r 0->0<=dL lv (eN N r)->dL lv (eN N r)<(k:Int)-1->0<=dL lv (gR N r)/\dL lv (gR N r)<=dL lv (eN N r)+1
 back:∀ v,0<dL lv v->∃ r,r<2*N.arcs.length/\least<=rm.getD r 0/\gR N r=v/\dL lv (eN N r)=dL lv v-1
 cnt:k+fr.length+lv.count (-1)<=N.nodes.toNat+2
structure LV (N:aV) (rm:LI_) (least:Int) (k:Nat) (now:LN_) (i j:Nat) (nxt:LN_) (lv:LI_):Prop where
 k1:1<=k
 len:lv.length=N.nodes.toNat+1
 src:dL lv N.src.toNat=0
 nil:dL lv 0=-1
 rng:∀ v,dL lv v=-1\/0<=dL lv v/\dL lv v<=(k:Int)
 zero:∀ v,dL lv v=0->v=N.src.toNat
 old:∀ v,dL lv v=(k:Int)-1↔v∈now
 new:∀ v,dL lv v=(k:Int)↔v∈nxt
 done:∀ r,r<2*N.arcs.length->least<=rm.getD r 0->0<=dL lv (eN N r)->(dL lv (eN N r)<(k:Int)-1\/eN N r∈now.take i\/(now[i]?=some (eN N r)/\∃ a,a<j/\(tr N (2*N.arcs.length) (eN N r))[a]?=some (r:Int)))->
  0<=dL lv (gR N r)/\dL lv (gR N r)<=dL lv (eN N r)+1
 back:∀ v,0<dL lv v->∃ r,r<2*N.arcs.length/\least<=rm.getD r 0/\gR N r=v/\dL lv (eN N r)=dL lv v-1
 cnt:k+nxt.length+lv.count (-1)<=N.nodes.toNat+1
section
variable {N:aV} {rm:LI_} {least:Int} {k:Nat} {lv:LI_}
theorem jv:∀ (l:LI_) (t:Nat) (x:Int),l[t]?=some (-1)->x≠-1->(l.set t x).count (-1)+1=l.count (-1)
 |[],_,_,h,_=>by simp at h
 |y::l,0,x,h,a=>by
  simp only[Ok,Nc] at h;subst h;simp[a]
 |y::l,t+1,x,h,a=>by
  have:=jv l t x (by simpa using h) a;simp only[List.set_cons_succ,List.count_cons];omega
theorem LH.init(c:N.Right):LH N rm least 1 [N.src.toNat] ((List.replicate (N.nodes.toNat+1) (-1)).set N.src.toNat 0):=by
 have d:=c.src;have f:=c.nodes;have b:N.src.toNat<(List.replicate (N.nodes.toNat+1) (-1:Int)).length:=by rw[NP];omega
 have g:∀ v,dL (List.replicate (N.nodes.toNat+1) (-1)) v=-1:=by
  intro v;by_cases h:v<N.nodes.toNat+1
  ·exact wS (by rw[Nw,if_pos h])
  ·exact CT (by rw[NP];omega)
 have a:∀ v,dL ((List.replicate (N.nodes.toNat+1) (-1)).set N.src.toNat 0) v=if N.src.toNat=v then 0 else-1:=λ v=>by rw[CZ b,g]
 refine⟨Nr _,ai,by rw[a,if_pos rfl],by rw[a,if_neg aa],λ v=>?_,λ v h=>?_,λ v=>?_,λ r _ _ j i=>by omega,λ v h=>?_,?_⟩
 ·rw[a];split
  ·exact .inr ⟨aa,aa⟩
  ·exact .inl rfl
 ·rw[a] at h;split at h
  ·rename_i e;exact e.symm
  ·omega
 ·rw[a,Ni]
  constructor
  ·intro h;split at h
   ·rename_i e;exact e.symm
   ·omega
  ·rintro rfl;rw[if_pos rfl];omega
 ·rw[a] at h;split at h<;>omega
 ·have:=jv (List.replicate (N.nodes.toNat+1) (-1)) N.src.toNat 0 (by rw[Nw,if_pos aa]) ab;have i:(List.replicate (N.nodes.toNat+1) (-1:Int)).count (-1)=N.nodes.toNat+1:=ai;simp only[NU];omega
theorem LH.turn{fr:LN_}(h:LH N rm least k fr lv)(c:fr≠[]):LV N rm least k fr 0 0 [] lv:=by
 have j:=h.k1;have hlen:0<fr.length:=NM.2 c;refine⟨h.k1,h.len,h.src,h.nil,λ v=>?_,h.zero,h.front,λ v=>⟨λ e=>?_,λ e=>by cases e⟩,λ r d f g b=>?_,h.back,?_⟩
 ·rcases h.rng v with e|e
  ·exact .inl e
  ·exact .inr ⟨e.1,aa⟩
 ·rcases h.rng v with i|i<;>omega
 ·rcases b with b|b|⟨_,a,l,_⟩
  ·exact h.done r d f g b
  ·simp at b
  ·omega
 ·have:=h.cnt;simp only[NC];omega
theorem LV.row{now c:LN_}{i j:Nat}(h:LV N rm least k now i j c lv)(o:∀ v,now[i]?=some v->(tr N (2*N.arcs.length) v).length<=j):LV N rm least k now (i+1) 0 c lv:=by
 refine⟨h.k1,h.len,h.src,h.nil,h.rng,h.zero,h.old,h.new,λ r d l f b=>?_,h.back,h.cnt⟩
 rcases b with b|b|⟨_,a,m,_⟩
 ·exact h.done r d l f (.inl b)
 ·rw[Nu] at b
  rcases Np.1 b with b|b
  ·exact h.done r d l f (.inr (.inl b))
  ·cases g:now[i]? with
   |none=>rw[g] at b;simp at b
   |some v=>
    rw[g] at b;have e:eN N r=v:=by simpa using b
    refine h.done r d l f (.inr (.inr ⟨by rw[g,e],?_⟩))
    have hm:(r:Int)∈tr N (2*N.arcs.length) (eN N r):=by
     refine wR.2 ⟨r,d,?_,rfl⟩;unfold eN
     have p:0<=(df N r).1:=by
      by_cases q:0<=(df N r).1
      ·exact q
      ·exfalso;have:eN N r=0:=by unfold eN;omega
       rw[this,h.nil] at f;omega
     omega
    obtain⟨a,m,n⟩:=NV.1 hm;exact⟨a,O9 m (e▸o v g),by rw[be m,n]⟩
 ·omega
theorem LV.final{now a:LN_}{i j:Nat}(h:LV N rm least k now i j a lv)(hi:now.length<=i):LH N rm least (k+1) a lv:=by
 have f:=h.k1;refine⟨aa,h.len,h.src,h.nil,λ v=>?_,h.zero,λ v=>?_,λ r b c d g=>?_,h.back,?_⟩
 ·rcases h.rng v with e|e
  ·exact .inl e
  ·exact .inr ⟨e.1,aa⟩
 ·have:=h.new v;rw[show (((k+1:Nat):Int)-1)=(k:Int) by omega];exact this
 ·refine h.done r b c d ?_;by_cases e:dL lv (eN N r)<(k:Int)-1
  ·exact .inl e
  ·refine .inr (.inl ?_);rw[Oh hi];exact (h.old _).1 aa
 ·have:=h.cnt;omega
theorem LV.pass{now c:LN_}{i j r:Nat}(h:LV N rm least k now i j c lv)(t:∃ v,now[i]?=some v/\(tr N (2*N.arcs.length) v)[j]?=some (r:Int))(d:rm.getD r 0<least\/dL lv (gR N r)≠-1):LV N rm least k now i (j+1) c lv:=by
 refine⟨h.k1,h.len,h.src,h.nil,h.rng,h.zero,h.old,h.new,λ q g l m b=>?_,h.back,h.cnt⟩
 rcases b with b|b|⟨b,a,w,n⟩
 ·exact h.done q g l m (.inl b)
 ·exact h.done q g l m (.inr (.inl b))
 ·by_cases e:a=j
  ·subst e;obtain⟨v,s,o⟩:=t;rw[s] at b;simp only[Nc] at b;rw[<- b,o] at n
   have u:r=q:=by
    have f:(r:Int)=q:=by simpa using n
    omega
   subst u;have p:=(h.old v).2 (Nb s)
   rcases d with d|d
   ·omega
   ·rcases h.rng (gR N r) with f|f
    ·exact absurd f d
    ·rw[b] at p;exact⟨f.1,aa⟩
  ·exact h.done q g l m (.inr (.inr ⟨b,a,aa,n⟩))
theorem LV.put{now g:LN_}{i j r:Nat}(h:LV N rm least k now i j g lv)(C:∃ v,now[i]?=some v/\eN N r=v/\(tr N (2*N.arcs.length) v)[j]?=some (r:Int))(x:r<2*N.arcs.length)(B:1<=gR N r/\gR N r<lv.length)(hl:least<=rm.getD r 0)(l:dL lv (gR N r)=-1):
 LV N rm least k now i (j+1) (g++[gR N r]) (lv.set (gR N r) (k:Int)):=by
 obtain⟨v,p,m,y⟩:=C;obtain⟨t,rfl⟩:∃ t,t=gR N r:=⟨_,rfl⟩;have F:=h.k1;have c:∀ u,dL (lv.set (gR N r) (k:Int)) u=if gR N r=u then (k:Int) else dL lv u:=λ u=>CZ B.2
 have n:=(h.old v).2 (Nb p);have o:gR N r≠v:=λ e=>by rw[e] at l;omega
 refine⟨h.k1,by rw[NO];exact h.len,?_,?_,λ u=>?_,λ u hu=>?_,λ u=>?_,λ u=>?_,λ q s w f b=>?_,λ u hu=>?_,?_⟩
 ·rw[c,if_neg (λ e=>by rw[e,h.src] at l;omega)];exact h.src
 ·rw[c,if_neg aa];exact h.nil
 ·rw[c];split
  ·exact .inr ⟨aa,aa⟩
  ·exact h.rng u
 ·rw[c] at hu;split at hu
  ·omega
  ·exact h.zero u hu
 ·rw[c];split
  ·rename_i e;subst e
   constructor
   ·intro e;omega
   ·intro e;have:=(h.old _).2 e;omega
  ·exact h.old u
 ·rw[c,Np,Ni];split
  ·rename_i e;exact⟨λ _=>.inr e.symm,λ _=>rfl⟩
  ·rename_i e;rw[h.new u];exact⟨.inl,λ D=>D.resolve_right λ d=>e d.symm⟩
 ·rw[c] at f b ⊢
  have key:gR N r≠eN N q:=by
   intro e;rw[if_pos e] at b
   rcases b with b|b|⟨b,_⟩
   ·omega
   ·have:=(h.old _).2 (Oi b);rw[<- e] at this;omega
   ·rw[p] at b;simp only[Nc] at b;exact o (e.trans b.symm)
  rw[if_neg key] at f b;have z:dL (lv.set (gR N r) (k:Int)) (eN N q)=dL lv (eN N q):=by rw[c,if_neg key]
  rw[z]
  have hle:dL lv (eN N q)<=k/\(∀ (_:eN N q=v),dL lv (eN N q)=k-1):=by
   constructor
   ·rcases h.rng (eN N q) with e|e<;>omega
   ·intro e;rw[e];exact n
  by_cases e:gR N r=gR N q
  ·rw[if_pos e];refine⟨aa,?_⟩
   rcases b with b|b|⟨b,_⟩
   ·have:=h.done q s w f (.inl b);rw[<- e,l] at this;omega
   ·have:=(h.old _).2 (Oi b);omega
   ·rw[p] at b;simp only[Nc] at b;have:=hle.2 b.symm;omega
  ·rw[if_neg e]
   rcases b with b|b|⟨b,a,G,A⟩
   ·exact h.done q s w f (.inl b)
   ·exact h.done q s w f (.inr (.inl b))
   ·by_cases E:a=j
    ·subst E;rw[p] at b;simp only[Nc] at b;rw[<- b,y] at A
     have d:r=q:=by
      have H:(r:Int)=q:=by simpa using A
      omega
     exact absurd (by rw[d]) e
    ·exact h.done q s w f (.inr (.inr ⟨b,a,aa,A⟩))
 ·rw[c] at hu;by_cases e:gR N r=u
  ·refine⟨r,x,hl,e,?_⟩;rw[c,c,if_pos e,if_neg (λ d=>o (d.trans m)),m,n]
  ·rw[if_neg e] at hu;obtain⟨q,g1,g2,g3,g4⟩:=h.back u hu;refine⟨q,g1,g2,g3,?_⟩;rw[c,c,if_neg e,if_neg,g4];intro d;rw[<- d,l] at g4;omega
 ·have:=h.cnt;have I:=jv lv (gR N r) (k:Int) (by rw[qw B.2,l]) aa;rw[Nj,NU];omega
theorem LH.lev(c:N.Right)(h:LH N rm least k [] lv):fw N rm least lv:=by
 have l:=h.k1;have d:=c.nodes
 have m:1<=lv.count (-1):=by
  have f:(-1:Int)∈lv:=by
   have:=qw (lv:=lv) (v:=0) (by rw[h.len];omega);rw[h.nil] at this;exact Nb this
  exact List.one_le_count_iff.2 f
 have a:=h.cnt;have b:∀ v,dL lv v≠(k:Int)-1:=λ v e=>by have:=(h.front v).1 e;simp at this
 refine⟨h.len,h.src,h.nil,λ v=>?_,h.zero,λ r g i j=>?_,h.back⟩
 ·have:=b v;simp only[NC] at a
  rcases h.rng v with e|e<;>omega
 ·refine h.done r g i j ?_;have:=b (eN N r)
  rcases h.rng (eN N r) with e|e<;>omega
end
def di(N:aV)(rm:LI_)(least:Int)(lv:LI_)(k:Nat):LN_:=(List.range k).filter λ r=>decide (least<=rm.getD r 0/\dL lv (eN N r)≠-1/\dL lv (gR N r)=dL lv (eN N r)+1)
def fF(N:aV)(ls:LN_)(v:Nat):LN_:=ls.filter λ r=>decide (eN N r=v)
theorem fI{N:aV}{rm:LI_}{least:Int}{lv:LI_}{k r:Nat}:r∈di N rm least lv k↔r<k/\least<=rm.getD r 0/\dL lv (eN N r)≠-1/\dL lv (gR N r)=dL lv (eN N r)+1:=by
 unfold di;rw[Pd,N8,NX]
theorem iU{N:aV}{ls:LN_}{v r:Nat}:r∈fF N ls v↔r∈ls/\eN N r=v:=by
 unfold fF;rw[Pd,NX]
theorem j3{N:aV}{rm:LI_}{least:Int}{lv:LI_}(h:fw N rm least lv):gp N (fF N (di N rm least lv (2*N.arcs.length))) (dL lv):=by
 refine⟨λ v r b=>?_,h.rng⟩;obtain⟨c,a⟩:=iU.1 b;obtain⟨d,_,_,e⟩:=fI.1 c;exact⟨d,a,by rw[e,a]⟩
theorem FK{N:aV}{rm:LI_}{least:Int}{lv:LI_}(h:fw N rm least lv):∀ (k v:Nat),dL lv v=k->LP N (fF N (di N rm least lv (2*N.arcs.length))) least rm v
 |0,v,a=>by rw[h.zero v (by simpa using a)];exact .src
 |k+1,v,a=>by
  obtain⟨r,d,b,c,f⟩:=h.back v aa;have e:=FK h k (eN N r) aa;rw[<- c];exact .step e (iU.2 ⟨fI.2 ⟨d,b,aa,by rw[c];omega⟩,rfl⟩) b
theorem I7{N:aV}{rm:LI_}{least:Int}{lv:LI_}(h:fw N rm least lv)(hl:rm.length=2*N.arcs.length):∀ {v:Int},tf N rm least v->0<=dL lv v.toNat:=by
 intro v a
 induction a with
 |src=>rw[h.src];omega
 |step u r _ e b c d=>
  have:=h.step r aa c (by unfold eN;rw[b];exact d);exact this.1
end Go.Proofs.YtmcnpaelaieniaaGreatDoor
