import Derived.Test.YtmcnpaelaieniaaGreatDoorQC
/- A part of the proof. -/
set_option linter.unusedVariables false
set_option linter.unusedSimpArgs false
namespace Go.Proofs.YtmcnpaelaieniaaGreatDoor
open Go.RowKit
def cp(l:LB_)(is:Bool)(k:Nat):LI_:=((List.range k).filter λ (v:Nat)=>decide (0<v/\l[v]?=some is)).map λ (v:Nat)=>(v:Int)
theorem oi(l:LB_)(is:Bool)(k:Nat):cp l is (k+1)=cp l is k++(if 0<k/\l[k]?=some is then [(k:Int)] else []):=by
 unfold cp;refine wY ?_
 congr 1
 by_cases h:0<k/\l[k]?=some is<;>simp[h]
theorem lE(l:LB_)(is:Bool)(k:Nat):(cp l is k).length<=k:=by
 unfold cp;exact CE
theorem jk{l:LB_}{is:Bool}{k:Nat}{x:Int}:x∈cp l is k↔∃ v:Nat,v<k/\0<v/\l[v]?=some is/\x=v:=by
 unfold cp;refine xY ?_
 constructor
 ·rintro⟨v,⟨a,b,c⟩,rfl⟩;exact⟨v,a,b,c,rfl⟩
 ·rintro⟨v,a,b,c,rfl⟩;exact⟨v,⟨a,b,c⟩,rfl⟩
theorem Gp(A:OA_)(c b o:Nat)(l:LB_)(g:l≠[]->A=some ⟨b,o,none⟩)(hl:l.length<=100000)(is:Bool):
 Fn 47 [.slice A l.length c,.bool is] [] [.seg b o (dK l)] λ v H'=>∃ i j,v=.slice i (cp l is l.length).length j/\H'=[.own v 3 1 (cp l is l.length).length (aj (cp l is l.length))]:=by
 refine aT Tryz.func47 λ w0=>?_;refine i6 ?_;refine jX ?_;refine b6 3 1 ?_
 refine bS (σ:=Nat×OA_×Nat) (λ s=>[(10,af s.1),(9,af l.length),(8,.slice A l.length c),(5,.slice s.2.1 (cp l is s.1).length s.2.2),(1,.bool is)])
  (λ s=>[.own (.slice s.2.1 (cp l is s.1).length s.2.2) 3 1 (cp l is s.1).length (aj (cp l is s.1)),.seg b o (dK l)]) (λ s=>s.1<=l.length) (λ s=>l.length-s.1)
  (0,none,0) [0,1] a8 ab rfl (Nk _) ?_
 rintro⟨k,A1,d⟩ q;simp only at q ⊢;have r:=lE l is k;refine ao ?_;refine am (ak rfl (λ hlt=>ag ?_) (λ t=>aO ?_))
 ·have hlt:k<l.length:=by omega
  obtain rfl:=g (by rintro rfl;simp at hlt);obtain⟨m,hm⟩:∃ m,l[k]?=some m:=⟨l[k],an hlt⟩;have a:=oi l is k;refine am (au ?_);refine jc ?_;refine aG (a7 1 rfl rfl (show (dK l)[k]?=some (.bool m) from iC hm)) ?_;refine aN ?_;by_cases hgo:0<k/\m=is
  ·rw[if_pos ⟨hgo.1,by rw[hm,hgo.2]⟩] at a;refine G8 ?_;refine aC (fS [] rfl ?_);refine dp λ g2=>?_;refine bp (n:=(cp l is k).length) (m:=1) (off:=0) (news:=aj [(k:Int)]) 1 0 rfl rfl rfl rfl rfl rfl ab rfl rfl (aQ g2 _ _ (0,0)) aE rfl rfl aa aa (λ _ _=>rfl) λ u c2=>?_;rw[show (cp l is k).length+1=(cp l is (k+1)).length by rw[a];simp,show aj (cp l is k)++aj [(k:Int)]=aj (cp l is (k+1)) by rw[a];simp[aj]];refine cS ?_;refine⟨(k+1,u,c2),[1,2],⟨?_,rfl,rfl,rfl,rfl,be⟩,ab,rfl,by simp only;omega,by simp only;omega⟩;refine fJ ?_;rw[cv aa];rfl
  ·rw[if_neg (fun h=>hgo ⟨h.1,by rw[hm] at h;simpa using h.2⟩),List.append_nil] at a
   refine gj [(21,.bool false),(10,af k),(9,af l.length),(8,ax b o l.length c),(5,.slice A1 (cp l is k).length d),(1,.bool is)]
    [.own (.slice A1 (cp l is k).length d) 3 1 (cp l is k).length (aj (cp l is k)),.seg b o (dK l)] ?_ ?_
   ·refine aI ?_;by_cases h0:0<k
    ·exact Hy
    ·refine dD 17 rfl aa<|cX [2] ?_;exact pY
   ·refine bu rfl (ag ?_);refine ao ?_;refine⟨(k+1,A1,d),[0,1],⟨?_,rfl,rfl,by simp only[a];rfl,rfl,be⟩,ab,by simp only[a];rfl,by simp only;omega,by simp only;omega⟩;refine fJ ?_;rw[cv aa];rfl
 ·have f:k=l.length:=by omega
  subst f;refine ao ?_;refine aL [0] ⟨_,rfl,A1,d,rfl,rfl⟩
def Ls(N:aR)(f:LI_)(n:Nat)(v:Value)(H':Heap):Prop:=
 (aD N f/\¬ tf N (a9 (N.arcs.zip f)) 1 N.snk/\∃ (l:LB_) (A':OA_) (c':Nat),l.length=n+1/\(∀ v:Nat,l[v]?=some true↔v<=n/\tf N (a9 (N.arcs.zip f)) 1 v)/\v=.tuple #[.slice A' (cp l true (n+1)).length c',.int .i64 0]/\
  H'=[.own (.slice A' (cp l true (n+1)).length c') 3 1 (cp l true (n+1)).length (aj (cp l true (n+1)))])\/
 (¬ aD N f/\v=.tuple #[.slice none 0 0,.int .i64 (eQ N f)]/\H'=[])\/(aD N f/\tf N (a9 (N.arcs.zip f)) 1 N.snk/\v=.tuple #[.slice none 0 0,.int .i64 8]/\H'=[])
theorem IG(N:aR)(u:N.Fits)(k:N.Right)(A:OA_)(c b o:Nat)(w:N.arcs≠[]->A=some ⟨b,o,none⟩)(f:LI_)(F:OA_)(cf m of:Nat)(y:f≠[]->F=some ⟨m,of,none⟩)(z:∀ x∈f,b9 x)(q:f.length*8<=140737488351232)
 (n:Nat) (B:N.nodes=n):Fn 24 [cd N A c,.slice F f.length cf] [] [.seg b o (arcs N.arcs),.seg m of (aj f)] (Ls N f n):=by
 have C:=k.nodes;have D:=k.snk;obtain⟨s,r⟩:∃ s:Nat,N.snk=s:=⟨N.snk.toNat,aa⟩;refine aT Tryz.func24 λ w0=>?_;refine bA ?_;refine dh (cs:=bY N A c) λ p=>?_;refine ip ?_;refine dB (IK N u k A c b o w f F cf m of y z q 1 ab n B) rfl ⟨bx 1 rfl,bx 2 rfl,be⟩ ?_;rintro v H' (⟨d,_,l,g,hl,e,rfl,rfl⟩|⟨d,rfl,rfl⟩|⟨_,E,_,_⟩)
 ·refine se ?_;refine ak rfl (λ h=>absurd rfl h) (λ _=>?_);obtain⟨j,a⟩:∃ j,l[s]?=some j:=⟨l[s]'aa,an aa⟩;have i:=e s;refine aI ?_;refine bh 1 ?_;refine aB 21 (v':=af (s:Int)) rfl (M8 (Value.int .i64) r)<|io ?_;refine aG (aA 0 rfl rfl rfl (show (dK l)[s]?=some (.bool j) from iC a)) ?_;refine aN ?_
  cases j with
  |true=>
   refine eP ?_;refine aL [] ⟨_,rfl,.inr (.inr ⟨d,by rw[r];exact (i.1 a).2,rfl,rfl⟩)⟩
  |false=>
   refine bu rfl (ag ?_)
   have t:¬ tf N (a9 (N.arcs.zip f)) 1 N.snk:=λ H=>by
    have:=i.2 ⟨aa,r▸H⟩;rw[a] at this;simp at this
   refine aI ?_;have T:=Gp (aJ g 0) (n+1) g 0 l aE aa true;rw[hl] at T;refine fh T rfl ⟨gC 0 rfl b8 (.inr rfl),be⟩ ?_;rintro v H' ⟨I,K,rfl,rfl⟩;refine aN ?_;refine aL [0] ⟨_,rfl,.inl ⟨d,t,l,I,K,hl,e,rfl,rfl⟩⟩
 ·refine se ?_;refine ak rfl (λ h=>?_) (λ h=>absurd (de.1 (Nn.1 h)) d);refine ao ?_;refine aL [] ⟨_,rfl,.inr (.inl ⟨d,rfl,rfl⟩)⟩
 ·exact absurd E ab
structure fQ (N:aR) (s:LI_):Prop where
 rise:s.Pairwise (·<·)
 rng:∀ x∈s,1<=x/\x<=N.nodes
 src:N.src∈s
 snk:N.snk∉s
theorem rt{s:LI_}{v:Int}(h:s.Pairwise (·<·))(hl:∀ x∈s,x<v):(s++[v]).Pairwise (·<·):=by
 rw[Oc];exact⟨h,OQ _ _,λ a c b d=>by rw[Nh.1 d];exact hl a c⟩
def eA(N:aR)(s:LI_)(k:Nat):LI_:=((List.range k).filter λ (i:Nat)=>match N.arcs[i]? with
 |some a=>decide (a.fr∈s/\a.to∉s)
 |none=>false).map λ (i:Nat)=>(i:Int)
theorem sM{N:aR}{s:LI_}{k:Nat}{a:eq}(h:N.arcs[k]?=some a):eA N s (k+1)=eA N s k++(if a.fr∈s/\a.to∉s then [(k:Int)] else []):=by
 unfold eA;refine wY ?_
 congr 1
 by_cases b:a.fr∈s/\a.to∉s<;>simp[h,b]
theorem pC(N:aR)(s:LI_)(k:Nat):(eA N s k).length<=k:=by
 unfold eA;exact CE
def l9(s:LI_):List (Int×Value):=s.map λ v=>(v,.bool true)
theorem dn(s:LI_)(n:Int):(na (l9 s) n).getD (.bool false)=.bool (dU (n∈s)):=by
 induction s with
 |nil=>rw[aZ ai];rfl
 |cons v s a=>
  show (na ((v,.bool true)::l9 s) n).getD _=_;unfold na;by_cases h:v=n
  ·rw[if_pos h,aV (by simp[h])];rfl
  ·rw[if_neg h,a];have:(n∈v::s)↔n∈s:=by simp[Ne.symm h]
   rw[eB this]
theorem AN(N:aR)(hN:N.Fits)(hR:N.Right)(A:OA_)(c b o:Nat)(hA:N.arcs≠[]->A=some ⟨b,o,none⟩)(s:LI_)(u:fQ N s)(M:s.length<=100000)(S:OA_)(cs B os:Nat)(O:s≠[]->S=some ⟨B,os,none⟩):
 Fn 97 [cd N A c,.slice S s.length cs] [] [.seg b o (arcs N.arcs),.seg B os (aj s)] λ v H'=>∃ I K,v=.tuple #[.slice I (eA N s N.arcs.length).length K,.int .i64 0]/\
  H'=[.own (.slice I (eA N s N.arcs.length).length K) 3 1 (eA N s N.arcs.length).length (aj (eA N s N.arcs.length))]:=by
 have P:=hR.len;have Q:=hR.nodes;refine aT Tryz.func97 λ w0=>?_;refine bA ?_;refine dh (cs:=bY N A c) λ p=>?_;refine Dj ?_;refine ak rfl (λ h=>absurd rfl h) (λ _=>ag ?_);refine bA ?_;refine qt rfl aE λ g=>cS ?_;refine jX ?_
 refine bS (σ:=Nat) (λ k=>[(22,af k),(21,af s.length),(20,.slice S s.length cs),(8,af ((s.take k).getLast?.getD 0)),(7,.map (some g)),(2,ap p 0)])
  (λ k=>[.obj g (jR (l9 (s.take k))),blk p 33 (bY N A c),.seg b o (arcs N.arcs),.seg B os (aj s)]) (λ k=>k<=s.length) (λ k=>s.length-k)
  0 [0,1,2,3] a8 ab rfl (Nk _) ?_
 intro k L;refine ao ?_;refine am (ak rfl (λ hlt=>ag ?_) (λ C=>aO ?_))
 ·have hlt:k<s.length:=by omega
  obtain rfl:=O (by rintro rfl;simp at hlt);obtain⟨x,hx⟩:∃ x,s[k]?=some x:=⟨s[k],an hlt⟩;have R:=u.rng x (M9 hx)
  have d:∀ y∈s.take k,y<x:=by
   intro y D;obtain⟨j,U,i⟩:=NT.1 D;have E:j<k:=by simp at U;omega
   have l:=N6.1 u.rise j k aa hlt E;rw[PD] at i;obtain⟨_,F⟩:=Nb.1 hx;rw[<- i,<- F];exact l
  have H:(s.take k).getLast?.getD 0<x:=by
   cases h:(s.take k).getLast? with
   |none=>show (0:Int)<x;omega
   |some y=>exact d y (Oz h)
  have r:s.take (k+1)=s.take k++[x]:=by rw[Nv,hx];rfl
  refine am (au ?_);refine BT ?_;refine dD 29 rfl aa<|dY ?_;refine ae [3] (ad 1 rfl) rfl<|cX [3] ?_;refine ak rfl (λ h=>absurd h aa) (λ _=>ag ?_);refine aI ?_;refine pP 0 Tryz.underlying205 Tryz.underlying3 rfl rfl rfl rfl rfl (λ q w=>?_) [] rfl ?_
  ·obtain⟨y,D,rfl⟩:=NB.1 w;have:=d y D;show y≠x;omega
  refine cS ?_;refine⟨k+1,[0,1,2,3],⟨?_,rfl,rfl,?_,rfl,rfl,be⟩,ab,?_,aa,aa⟩
  ·refine fJ ?_;rw[cv aa];rfl
  ·rw[r,N0];rfl
  ·rw[r];unfold l9;rw[NJ];rfl
 ·have f:k=s.length:=by omega
  subst f;rw[NH];refine aI ?_;refine bh 1 ?_;refine aG (fZ 0 Tryz.underlying205 Tryz.underlying3 rfl rfl rfl rfl rfl) ?_;refine aB 42 (v':=.bool true) rfl (by rw[dn,aV u.src])<|Gf ?_;refine aB 48 (v':=.bool false) rfl (by rw[dn,aZ u.snk])<|cX [5] ?_;refine bu rfl (ag ?_);refine cW ?_;refine bh 1 ?_;refine jb ?_;refine b6 3 1 ?_
  refine bS (σ:=Nat×OA_×Nat) (λ t=>[(53,af t.1),(52,af N.arcs.length),(51,.slice A N.arcs.length c),(11,.slice t.2.1 (eA N s t.1).length t.2.2),(7,.map (some g)),(2,ap p 0)])
   (λ t=>[.own (.slice t.2.1 (eA N s t.1).length t.2.2) 3 1 (eA N s t.1).length (aj (eA N s t.1)),.obj g (jR (l9 s)),blk p 33 (bY N A c),.seg b o (arcs N.arcs)]) (λ t=>t.1<=N.arcs.length) (λ t=>N.arcs.length-t.1)
   (0,none,0) [0,1,2,3] a8 ab rfl (Nk _) ?_
  rintro⟨k,A1,z⟩ L;simp only at L ⊢;have V:=pC N s k;refine ao ?_;refine am (ak rfl (λ hlt=>ag ?_) (λ C=>aO ?_))
  ·have hlt:k<N.arcs.length:=by omega
   obtain rfl:=hA (by intro X;rw[X] at hlt;simp at hlt);obtain⟨x,hx⟩:∃ x,N.arcs[k]?=some x:=⟨N.arcs[k],an hlt⟩;have a:=sM (s:=s) hx;have w:IntKind.i64.wrap ((k:Int)+1)=((k+1:Nat):Int):=cv aa;refine am (au ?_);refine tY ?_;refine aG (a7 3 rfl rfl (jm hx)) ?_;refine dM λ q=>?_;refine mU ?_;by_cases e:x.fr∈s/\x.to∉s
   ·rw[if_pos e] at a;refine jh ?_;refine aG (fZ 2 Tryz.underlying205 Tryz.underlying3 rfl rfl rfl rfl rfl) ?_;refine az ?_;refine aB 62 (v':=.bool true) rfl (by rw[dn,aV e.1])<|FR ?_;refine aB 66 (v':=.bool false) rfl (by rw[dn,aZ e.2])<|cX [4] ?_;refine dy ?_;refine aC (fS [] rfl ?_);refine dp λ g2=>?_;refine bp (n:=(eA N s k).length) (m:=1) (off:=0) (news:=aj [(k:Int)]) 2 0 rfl rfl rfl rfl rfl rfl ab rfl rfl (aQ g2 _ _ (0,0)) aE rfl rfl aa aa (λ _ _=>rfl) λ Y c2=>?_;rw[show (eA N s k).length+1=(eA N s (k+1)).length by rw[a];simp,show aj (eA N s k)++aj [(k:Int)]=aj (eA N s (k+1)) by rw[a];simp[aj]];refine cS ?_;exact⟨(k+1,Y,c2),[2,3,4,5],⟨M8 some (M8 (Value.int .i64) w),rfl,rfl,rfl,rfl,rfl,be⟩,ab,rfl,by simp only;omega,by simp only;omega⟩
   ·rw[if_neg e,NL] at a
    refine gj [(68,.bool false),(53,af k),(52,af N.arcs.length),(51,ax b o N.arcs.length c),(11,.slice A1 (eA N s k).length z),(7,.map (some g)),(2,ap p 0)]
     [.own (.slice A1 (eA N s k).length z) 3 1 (eA N s k).length (aj (eA N s k)),.obj g (jR (l9 s)),blk p 33 (bY N (aJ b o) c),.seg b o (arcs N.arcs)] ?_ ?_
    ·refine jh ?_;refine aG (fZ 2 Tryz.underlying205 Tryz.underlying3 rfl rfl rfl rfl rfl) ?_;refine az ?_;by_cases l:x.fr∈s
     ·have F:x.to∈s:=Nn.1 λ h=>e ⟨l,h⟩;refine aB 62 (v':=.bool true) rfl (by rw[dn,aV l])<|FR ?_;refine aB 66 (v':=.bool true) rfl (by rw[dn,aV F])<|cX [4] ?_;exact⟨[1,2,3,4],a8,ab,rfl⟩
     ·refine aB 62 (v':=.bool false) rfl (by rw[dn,aZ l])<|cX [4] ?_;exact⟨[1,2,3,4],a8,ab,rfl⟩
    ·refine bu rfl (ag ?_);refine ao ?_;exact⟨(k+1,A1,z),[0,1,2,3],⟨M8 some (M8 (Value.int .i64) w),rfl,rfl,by simp only[a];rfl,rfl,rfl,be⟩,ab,by simp only[a];rfl,by simp only;omega,by simp only;omega⟩
  ·have f:k=N.arcs.length:=by omega
   subst f;refine ao ?_;exact aL [0] ⟨_,rfl,A1,z,rfl,rfl⟩
def jI(N:aR)(i:Int):Int:=match N.arcs[i.toNat]? with
 |some a=>a.cap
 |none=>0
open Classical in
noncomputable def jq(s:LI_)(l:List eq):Int:=(l.map λ a=>if a.fr∈s/\a.to∉s then a.cap else 0).sum
theorem vZ(N:aR)(s:LI_):∀ k,k<=N.arcs.length->((eA N s k).map (jI N)).sum=jq s (N.arcs.take k)
 |0,_=>by simp[eA,jq]
 |k+1,h=>by
  obtain⟨a,b⟩:∃ a,N.arcs[k]?=some a:=⟨N.arcs[k],an aa⟩;have d:=vZ N s k aa;rw[sM b,Nv,b,NJ,Pg,d];unfold jq;rw[NJ,Pg]
  congr 1
  by_cases c:a.fr∈s/\a.to∉s
  ·simp only[if_pos c,Ns,Oi,NC,List.sum_nil,P0];show jI N (k:Int)+0=a.cap+0;unfold jI;rw[Nz,b]
  ·simp only[if_neg c,Ns,Oi,NC,List.sum_nil,P0];rfl
theorem ju:∀ (l:LI_),(∀ x∈l,0<=x)->0<=l.sum
 |[],_=>by simp
 |x::l,h=>by
  have:=ju l λ y a=>h y (by simp[a]);have:=h x ai;simp only[NC];omega
theorem w4{N:aR}(b:N.Right)(s:LI_):0<=jq s N.arcs/\jq s N.arcs<=4611686018427387903:=by
 have c:∀ (l:List eq),(∀ a∈l,0<=a.cap)->0<=jq s l/\jq s l<=(l.map (·.cap)).sum:=by
  intro l
  induction l with
  |nil=>intro _;simp[jq]
  |cons a l d=>
   intro h;have e:=d λ x f=>h x (by simp[f]);have i:=h a ai;unfold jq at e ⊢;refine tU ?_;split<;>omega
 have:=c N.arcs λ a g=>(b.arc a g).2.2;have:=b.sum;omega
theorem sL(N:aR)(L:N.Fits)(w:N.Right)(A:OA_)(c b o:Nat)(I:N.arcs≠[]->A=some ⟨b,o,none⟩)(s:LI_)(M:fQ N s)(z:s.length<=100000)(S:OA_)(cs B os:Nat)(O:s≠[]->S=some ⟨B,os,none⟩):
 Fn 59 [cd N A c,.slice S s.length cs] [] [.seg b o (arcs N.arcs),.seg B os (aj s)] λ v H'=>v=td (jq s N.arcs,0)/\H'=[]:=by
 have P:=w.len;obtain⟨l,hl⟩:∃ l,l=eA N s N.arcs.length:=⟨_,rfl⟩;have C:=pC N s N.arcs.length;have f:(l.map (jI N)).sum=jq s N.arcs:=by rw[hl,vZ N s _ (Np _),NH]
 have g:∀ x∈l,∃ (i:Nat) (a:eq),x=i/\N.arcs[i]?=some a/\jI N x=a.cap/\0<=a.cap:=by
  intro x d;rw[hl] at d;unfold eA at d;obtain⟨i,hi,rfl⟩:=NB.1 d;have r:=(Pc.1 hi).2
  cases m:N.arcs[i]? with
  |none=>rw[m] at r;simp at r
  |some a=>exact⟨i,a,rfl,m,by unfold jI;rw[Nz,m],(w.arc a (M9 m)).2.2⟩
 have j:∀ x∈l.map (jI N),0<=x:=by
  intro x d;obtain⟨y,Q,rfl⟩:=NB.1 d;obtain⟨_,a,_,_,R,U⟩:=g y Q;rw[R];exact U
 have V:=w4 w s
 have n:∀ k,0<=((l.take k).map (jI N)).sum/\((l.take k).map (jI N)).sum<=4611686018427387903:=by
  intro k;have e:((l.take k).map (jI N)).sum+((l.drop k).map (jI N)).sum=jq s N.arcs:=by rw[<- Pg,<- NJ,Oh,f]
  have h1:=ju ((l.take k).map (jI N)) λ x d=>j x (by rw[List.map_take] at d;exact Od d);have h2:=ju ((l.drop k).map (jI N)) λ x d=>j x (by rw[List.map_drop] at d;exact PM d);omega
 refine aT Tryz.func59 λ w0=>?_;refine bA ?_;refine dh (cs:=bY N A c) λ p=>?_;refine ip ?_;refine fh (AN N L w A c b o I s M z S cs B os O) rfl ⟨bx 1 rfl,bx 2 rfl,be⟩ ?_;rintro v H' ⟨A1,K,rfl,rfl⟩;rw[<- hl] at C ⊢;refine cS ?_;refine ao ?_;refine aP (aH 0 rfl) λ ⟨_,_,D,_⟩=>au<|?_
 refine bS (σ:=Nat) (λ k=>[(19,af k),(18,af l.length),(17,.slice A1 l.length K),(8,af ((l.take k).map (jI N)).sum),(7,af 0),(2,ap p 0)])
  (λ k=>[.own (.slice A1 l.length K) 3 1 l.length (aj l),blk p 33 (bY N A c),.seg b o (arcs N.arcs)]) (λ k=>k<=l.length) (λ k=>l.length-k)
  0 [0,1,2] a8 ab rfl (Nk _) ?_
 intro k hk;refine ao ?_;refine am (ak rfl (λ hlt=>ag ?_) (λ X=>aO ?_))
 ·have hlt:k<l.length:=by omega
  obtain⟨g1,rfl⟩:=D aa;obtain⟨x,d⟩:∃ x,l[k]?=some x:=⟨l[k],an hlt⟩;obtain⟨i,a,rfl,m,t,Y⟩:=g x (M9 d);have q:i<N.arcs.length:=(Nb.1 m).1;obtain rfl:=I (by intro Z;rw[Z] at q;simp at q);obtain⟨_,_,E⟩:=gA m;have u:((l.take (k+1)).map (jI N)).sum=((l.take k).map (jI N)).sum+a.cap:=by rw[Nv,d,NJ,Pg];simp[t]
  have F:=n (k+1);rw[u] at F;refine am (au ?_);refine vf ?_;refine aG (aA 0 rfl rfl rfl (bq d)) ?_;refine ew ?_;refine bh 1 ?_;refine az ?_;refine aG (j9 rfl q) ?_;refine az ?_;refine aG (a7 2 rfl rfl E) ?_;refine cS ?_;refine⟨k+1,[0,1,2],⟨?_,rfl,rfl,?_,rfl,rfl,be⟩,ab,rfl,aa,aa⟩
  ·refine fJ ?_;rw[cv aa];rfl
  ·show some (af (IntKind.i64.wrap (((l.take k).map (jI N)).sum+a.cap)))=_;rw[u,cv aa]
 ·have H:k=l.length:=by omega
  subst H;refine ao ?_;refine aL [] ⟨_,rfl,?_,rfl⟩;rw[NH,f];rfl
theorem xA:∀ (c:List eq) (f:LI_) (i:Nat) (a:eq) (x m v:Int),c[i]?=some a->f[i]?=some x->
 dJ (c.zip (f.set i (x+m))) v=dJ (c.zip f) v+((if a.to=v then m else 0)-(if a.fr=v then m else 0))
 |[],_,_,_,_,_,_,h,_=>by simp at h
 |_::_,[],_,_,_,_,_,_,h=>by simp at h
 |b::c,y::f,0,a,x,m,v,d,e=>by
  simp only[Oe,Na] at d e;subst d e;simp only[OT,Pt,dJ,Ns,NC];split<;>split<;>omega
 |b::c,y::f,i+1,a,x,m,v,d,e=>by
  have:=xA c f i a x m v (by simpa using d) (by simpa using e);simp only[dJ] at this;simp only[List.set_cons_succ,Pt,dJ,Ns,NC];omega
def kH(N:aR):Int->LN_->Int->Prop
 |a,[],z=>a=z
 |a,i::W,z=>∃ r:eq,N.arcs[i]?=some r/\r.fr=a/\kH N r.to W z
theorem pU{N:aR}{i:Nat}{r:eq}(h:N.arcs[i]?=some r):∀ {W:LN_} {a:Int},kH N a W r.fr->kH N a (W++[i]) r.to
 |[],_,hw=>⟨r,h,hw.symm,rfl⟩
 |_::_,_,⟨q,b,c,d⟩=>⟨q,b,c,pU h d⟩
theorem xD(t x:Int):∀ (s:LI_),s.Nodup->(s.map λ v=>if t=v then x else 0).sum=if t∈s then x else 0
 |[],_=>by simp
 |v::s,h=>by
  have b:=NG.1 h;simp only[Ns,NC,xD t x s b.2];by_cases e:t=v
  ·subst e;rw[if_pos rfl,if_neg b.1,if_pos ai];omega
  ·rw[if_neg e];by_cases a:t∈s
   ·rw[if_pos a,if_pos (by simp[a])];omega
   ·rw[if_neg a,if_neg (by simp[e,a])];omega
def nF(s:LI_)(ps:List (eq×Int)):Int:=(ps.map λ p=>(if p.1.fr∈s then p.2 else 0)-(if p.1.to∈s then p.2 else 0)).sum
theorem CN(f g:Int->Int):∀ s:LI_,(s.map λ v=>f v-g v).sum=(s.map f).sum-(s.map g).sum
 |[]=>by simp
 |v::s=>by simp only[Ns,NC,CN f g s];omega
theorem Db(f g:Int->Int):∀ s:LI_,(s.map λ v=>f v+g v).sum=(s.map f).sum+(s.map g).sum
 |[]=>by simp
 |v::s=>by simp only[Ns,NC,Db f g s];omega
theorem BW{s:LI_}(a:s.Nodup):∀ ps:List (eq×Int),(s.map (dJ ps)).sum=-nF s ps
 |[]=>by
  have:∀ s:LI_,(s.map (dJ [])).sum=0:=by
   intro s
   induction s with
   |nil=>rfl
   |cons v s b=>simp only[Ns,NC,b];simp[dJ]
  rw[this];simp[nF]
 |p::ps=>by
  have b:=BW a ps
  have e:(s.map (dJ (p::ps)))=s.map λ v=>((if p.1.to=v then p.2 else 0)-(if p.1.fr=v then p.2 else 0))+dJ ps v:=by
   refine Oq λ v _=>?_;simp only[dJ,Ns,NC]
  rw[e,Db,CN,xD _ _ s a,xD _ _ s a,b];simp only[nF,Ns,NC];omega
theorem yw(g:Int->Int):∀ s:LI_,(∀ v∈s,g v=0)->(s.map g).sum=0
 |[],_=>by simp
 |v::s,h=>by simp only[Ns,NC,yw g s λ w hw=>h w (by simp[hw]),h v ai];omega
theorem pK(g:Int->Int)(a:Int):∀ s:LI_,s.Nodup->a∈s->(∀ v∈s,v≠a->g v=0)->(s.map g).sum=g a
 |[],_,h,_=>by simp at h
 |v::s,d,f,h=>by
  have c:=NG.1 d;refine tU ?_;by_cases e:v=a
  ·subst e;rw[yw g s λ w hw=>h w (by simp[hw]) (λ e=>c.1 (e▸hw))];omega
  ·have b:a∈s:=(Nl.1 f).resolve_left (λ h=>e h.symm);rw[pK g a s c.2 b λ w hw=>h w (by simp[hw]),h v ai e];omega
theorem uL{s:LI_}(h:s.Pairwise (·<·)):s.Nodup:=h.imp λ h=>by omega
theorem C1{N:aR}{f:LI_}(d:aD N f){s:LI_}(a:fQ N s):dJ (N.arcs.zip f) N.src=-nF s (N.arcs.zip f):=by
 rw[<- BW (uL a.rise),pK _ N.src s (uL a.rise) a.src λ v c b=>d.kept v (a.rng v c) b λ e=>a.snk (e▸c)]
def tM(n:Nat)(z:Int):LI_:=((List.range (n+1)).map λ (v:Nat)=>(v:Int)).filter λ v=>decide (1<=v/\v≠z)
theorem qs{n:Nat}{z x:Int}:x∈tM n z↔1<=x/\x<=n/\x≠z:=by
 unfold tM;simp only[Pc,NB,N4,NW]
 constructor
 ·rintro⟨⟨v,d,rfl⟩,a,b⟩;exact⟨a,aa,b⟩
 ·rintro⟨a,b,c⟩;exact⟨⟨x.toNat,aa,aa⟩,a,c⟩
theorem CJ{N:aR}(b:N.Right)(n:Nat)(d:N.nodes=n)(s:LI_)(a:∀ x:Int,x∈s↔1<=x/\x<=n/\x≠N.snk):∀ ps:List (eq×Int),(∀ p∈ps,p.1∈N.arcs)->nF s ps=dJ ps N.snk
 |[],_=>by simp[nF,dJ]
 |p::ps,h=>by
  have c:=CJ b n d s a ps λ q e=>h q (by simp[e]);have k:=b.arc p.1 (h p ai);have f:p.1.fr∈s↔p.1.fr≠N.snk:=by rw[a];omega
  have g:p.1.to∈s↔p.1.to≠N.snk:=by rw[a];omega
  have i:N.snk∉s:=by rw[a];omega
  simp only[nF,dJ,Ns,NC] at c ⊢;rw[c];by_cases j:p.1.fr=N.snk<;>by_cases a2:p.1.to=N.snk<;>simp[f,g,i,j,a2]<;>omega
theorem qI(n:Nat)(z:Int):(tM n z).Nodup:=by
 unfold tM
 have h:((List.range (n+1)).map λ (v:Nat)=>(v:Int)).Nodup:=by
  rw[List.nodup_iff_pairwise_ne,List.pairwise_map];exact List.nodup_range.imp λ h e=>h aa
 exact List.Pairwise.filter _ h
theorem oT{N:aR}(a:N.Right){f:LI_}(c:aD N f){s:LI_}(d:fQ N s):dJ (N.arcs.zip f) N.snk=nF s (N.arcs.zip f):=by
 have e:=a.nodes;have g:=a.src;have h:=a.diff;obtain⟨n,i⟩:∃ n:Nat,N.nodes=n:=⟨N.nodes.toNat,aa⟩;have j:=CJ a n i (tM n N.snk) (λ x=>qs) (N.arcs.zip f) λ p hp=>(List.of_mem_zip hp).1;have k:=BW (qI n N.snk) (N.arcs.zip f)
 rw[pK _ N.src _ (qI n N.snk) (qs.2 ⟨aa,aa,h⟩) λ v l b=>by
  have:=qs.1 l;exact c.kept v aa b this.2.2,C1 c d,j] at k
 omega
def jD(m:Int):LN_->LI_->LI_
 |[],f=>f
 |i::W,f=>jD m W (f.set i (f.getD i 0+m))
theorem kV(m:Int):∀ (W:LN_) (f:LI_),(jD m W f).length=f.length
 |[],_=>rfl
 |i::W,f=>by rw[jD,kV m W];simp
theorem rk{N:aR}{z m v:Int}:∀ (W:LN_) (a:Int) (f:LI_),f.length=N.arcs.length->kH N a W z->dJ (N.arcs.zip (jD m W f)) v=dJ (N.arcs.zip f) v+((if z=v then m else 0)-(if a=v then m else 0))
 |[],a,f,_,h=>by
  have c:a=z:=h;rw[jD,c];omega
 |i::W,a,f,hl,⟨r,b,d,e⟩=>by
  have hi:i<N.arcs.length:=(Nb.1 b).1;have g:f[i]?=some (f.getD i 0):=by rw[Nc,an aa];rfl
  rw[jD,rk W r.to _ (by simp[hl]) e,xA N.arcs f i r _ m v b g,d];omega
theorem zA(m:Int):∀ (W:LN_) (f:LI_) (j:Nat),W.Nodup->(∀ i∈W,i<f.length)->(jD m W f)[j]?=if j∈W then some (f.getD j 0+m) else f[j]?
 |[],f,j,_,_=>by simp[jD]
 |i::W,f,j,c,hi=>by
  have b:=NG.1 c;rw[jD,zA m W _ j b.2 (λ k d=>by simp;exact hi k (by simp[d]))];by_cases e:j=i
  ·subst e;rw[if_neg b.1,if_pos ai,No (hi j ai)]
  ·by_cases a:j∈W
   ·rw[if_pos a,if_pos (by simp[a])];simp only[Nc];rw[Nq (λ h=>e h.symm)]
   ·rw[if_neg a,if_neg (by simp[e,a]),Nq (λ h=>e h.symm)]
theorem mJ:∀ {l:LI_},(∀ x∈l,0<=x)->∀ {x},x∈l->x<=l.sum
 |[],_,_,h=>by cases h
 |y::l,h,x,a=>by
  have d:0<=l.sum:=by
   clear a
   have b:∀ x∈l,0<=x:=λ x a=>h x (by simp[a])
   clear h
   induction l with
   |nil=>simp
   |cons z l c=>
    have:=b z ai;have:=c (λ x a=>b x (by simp[a]));rw[NC];omega
  rw[NC]
  rcases Nl.1 a with rfl|a
  ·omega
  ·have:=h y ai;have:=mJ (λ x a=>h x (by simp[a])) a;omega
theorem aR.Right.cap{N:aR}(h:N.Right){a:eq}(c:a∈N.arcs):a.cap<=4611686018427387903:=
 PW (mJ (l:=N.arcs.map (·.cap)) (λ x d=>by obtain⟨b,e,rfl⟩:=NB.1 d;exact (h.arc b e).2.2) (NB.2 ⟨a,c,rfl⟩)) h.sum
theorem aD.inB{N:aR}(c:N.Right){f:LI_}(a:Ranged N f):∀ x∈f,b9 x:=by
 intro x d;obtain⟨j,e,rfl⟩:=NT.1 d;have hl:=a.len;have b:N.arcs[j]?=some (N.arcs[j]'aa):=an aa;have g:=a.all (N.arcs[j]'aa,f[j]) (M9 (NZ.2 ⟨b,an e⟩));have h:=c.cap (M9 b);simp only at g;unfold Go.Proofs.YtmcnpaelaieniaaGreatDoor.b9;omega
theorem iS(N:aR)(c:N.Right):aD N (List.replicate N.arcs.length 0):=by
 have d:∀ (l:List eq) (v:Int),dJ (l.zip (List.replicate l.length 0)) v=0:=by
  intro l v
  induction l with
  |nil=>simp[dJ]
  |cons a l b=>
   simp only[dJ] at b;simp only[dJ,Nf,Ol,Pt,Ns,NC,b];split<;>split<;>rfl
 refine⟨⟨ai,λ p hp=>?_⟩,λ v _ _ _=>d _ _⟩;obtain⟨e,f⟩:=List.of_mem_zip hp;have:=(c.arc p.1 e).2.2;have:=List.eq_of_mem_replicate f;omega
def eL(N:aR)(r:Nat):Nat:=(dg N r).1.toNat
def gQ(N:aR)(r:Nat):Nat:=(dg N r).2.toNat
theorem nA{N:aR}(a:N.Right){r:Nat}(b:r<2*N.arcs.length):(dg N r).1=(eL N r:Int)/\1<=eL N r/\(eL N r:Int)<=N.nodes:=by
 have:=jG a b;unfold eL;omega
theorem j1{N:aR}(a:N.Right){r:Nat}(b:r<2*N.arcs.length):(dg N r).2=(gQ N r:Int)/\1<=gQ N r/\(gQ N r:Int)<=N.nodes:=by
 have:=jG a b;unfold gQ;omega
def cF(r:Nat):Nat:=if r%2=1 then r-1 else r+1
theorem mW(r:Nat):cF (cF r)=r:=by unfold cF;split<;>split<;>omega
theorem yM(r:Nat):cF r≠r:=by unfold cF;split<;>omega
theorem zm{r m:Nat}(h:r<2*m):cF r<2*m:=by unfold cF;split<;>omega
theorem BR(r:Nat):cF r/2=r/2:=by unfold cF;split<;>omega
theorem iK(N:aR)(r:Nat):eL N (cF r)=gQ N r:=by
 unfold eL gQ dg;rw[BR]
 cases N.arcs[r/2]? with
 |none=>rfl
 |some a=>
  show (d6 a (cF r)).1.toNat=(d6 a r).2.toNat;unfold d6 cF;split<;>split<;>first|rfl|omega
theorem kP(N:aR)(r:Nat):gQ N (cF r)=eL N r:=by
 have:=iK N (cF r);rw[mW] at this;exact this.symm
def Tr(N:aR):Nat->LN_->Nat->Prop
 |a,[],z=>a=z
 |a,r::W,z=>eL N r=a/\Tr N (gQ N r) W z
theorem IE{N:aR}{r:Nat}:∀ {W:LN_} {a:Nat},Tr N a W (eL N r)->Tr N a (W++[r]) (gQ N r)
 |[],_,h=>⟨h.symm,rfl⟩
 |_::_,_,⟨b,c⟩=>⟨b,IE c⟩
theorem qA{N:aR}{r z:Nat}:∀ {W:LN_} {a:Nat},Tr N a (W++[r]) z->Tr N a W (eL N r)/\z=gQ N r
 |[],_,⟨c,b⟩=>⟨c.symm,b.symm⟩
 |_::_,_,⟨c,b⟩=>⟨⟨c,(qA b).1⟩,(qA b).2⟩
theorem wZ{N:aR}:∀ {W:LN_} {a z:Nat} (k:Nat),Tr N a W z->∃ y,Tr N a (W.take k) y
 |[],a,_,k,_=>⟨a,by rw[List.take_nil];exact rfl⟩
 |r::W,a,z,0,_=>⟨a,rfl⟩
 |r::W,a,z,k+1,⟨b,c⟩=>by obtain⟨y,d⟩:=wZ k c;exact⟨y,b,d⟩
def dQ(N:aR)(W:LN_):Nat:=match W.getLast? with
 |none=>N.src.toNat
 |some r=>gQ N r
theorem qY(N:aR)(W:LN_)(r:Nat):dQ N (W++[r])=gQ N r:=by unfold dQ;rw[N0];rfl
theorem BY{N:aR}{W:LN_}{z:Nat}(h:Tr N N.src.toNat W z):z=dQ N W:=by
 rcases N9 W with rfl|⟨a,r,rfl⟩
 ·exact h.symm
 ·rw[Oa] at h ⊢;rw[(qA h).2,qY]
structure gh (N:aR) (L:Nat->LN_) (lv:Nat->Int):Prop where
 ok:∀ v r,r∈L v->r<2*N.arcs.length/\eL N r=v/\lv (gQ N r)=lv v+1
 hi:∀ v,-1<=lv v/\lv v<N.nodes
theorem qP{N:aR}{L:Nat->LN_}{lv:Nat->Int}(c:gh N L lv):∀ {W:LN_} {a z:Nat},Tr N a W z->(∀ r∈W,r∈L (eL N r))->lv z=lv a+W.length/\∀ r∈W,lv a<=lv (eL N r)/\lv (eL N r)<lv z
 |[],a,z,h,_=>by rw[show a=z from h];simp
 |r::W,a,z,⟨d,g⟩,e=>by
  have f:=(c.ok _ _ (e r ai)).2.2;obtain⟨i,j⟩:=qP c g λ q b=>e q (by simp[b]);rw[d] at f;refine⟨by rw[i,f,Nf];omega,λ q b=>?_⟩
  rcases Nl.1 b with rfl|b
  ·rw[d];omega
  ·have:=j q b;omega
theorem uz{N:aR}{L:Nat->LN_}{lv:Nat->Int}(c:gh N L lv):∀ {W:LN_} {a z:Nat},Tr N a W z->(∀ r∈W,r∈L (eL N r))->W.Nodup/\∀ r∈W,∀ q∈W,cF r≠q
 |[],a,z,h,_=>⟨PG,λ _ h=>by cases h⟩
 |r::W,a,z,⟨n,i⟩,d=>by
  obtain⟨j,o⟩:=uz c i λ q b=>d q (by simp[b]);have p:=(c.ok _ _ (d r ai)).2.2;have k:=(qP c i λ q b=>d q (by simp[b])).2
  have l:∀ s∈r::W,∀ q∈r::W,cF s=q->False:=by
   intro s f q b e;have t:=(c.ok _ _ (d s f)).2.2;have m:=(c.ok _ _ (d q b)).2.2;rw[<- e,kP,iK] at m;omega
  refine⟨NG.2 ⟨λ g=>?_,j⟩,λ s f q b e=>l s f q b e⟩;have:=(k r g).1;omega
def qB(L:Nat->LN_)(pos:LN_)(u:Nat):Prop:=∀ p,pos[u]?=some p->(L u).length<=p
structure PI (N:aR) (L:Nat->LN_) (least:Int) (rm:LI_) (pos W:LN_):Prop where
 pl:pos.length=N.nodes.toNat+1
 tr:∃ z,Tr N N.src.toNat W z
 head:∀ r∈W,∃ p,pos[eL N r]?=some p/\(L (eL N r))[p]?=some r/\least<=rm.getD r 0
 pass:∀ v p,pos[v]?=some p->∀ j r,j<p->(L v)[j]?=some r->rm.getD r 0<least\/(gQ N r≠N.snk.toNat/\qB L pos (gQ N r))
theorem zM{pos:LN_}{v p u q:Nat}(h:pos[v]?=some p)(a:(pos.set v (p+1))[u]?=some q):∃ b,pos[u]?=some b/\b<=q/\(u≠v->b=q):=by
 by_cases e:v=u
 ·subst e;rw[No (Nb.1 h).1] at a;simp only[Na] at a;exact⟨p,h,aa,λ h=>absurd rfl h⟩
 ·rw[Nq e] at a;exact⟨q,a,Np _,λ _=>rfl⟩
theorem qB.more{L:Nat->LN_}{pos:LN_}{v p u:Nat}(h:qB L pos u)(hp:pos[v]?=some p):qB L (pos.set v (p+1)) u:=by
 intro q a;obtain⟨b,c,d,_⟩:=zM hp a;exact Ot (h b c) d
section
variable {N:aR} {L:Nat->LN_} {lv:Nat->Int} {least:Int} {rm:LI_} {pos W:LN_}
theorem PI.on(h:PI N L least rm pos W):Tr N N.src.toNat W (dQ N W):=by
 obtain⟨z,a⟩:=h.tr;rw[<- BY a];exact a
theorem PI.mem(h:PI N L least rm pos W):∀ r∈W,r∈L (eL N r):=λ r a=>by
 obtain⟨p,_,b,_⟩:=h.head r a;exact M9 b
theorem PI.go(h:PI N L least rm pos W)(d:gh N L lv){p r:Nat}(hp:pos[dQ N W]?=some p)(b:(L (dQ N W))[p]?=some r)(hl:least<=rm.getD r 0):PI N L least rm pos (W++[r]):=by
 have c:=(d.ok _ _ (M9 b)).2.1;refine⟨h.pl,⟨_,IE (c.symm▸h.on)⟩,λ q a=>?_,h.pass⟩
 rcases Nm.1 a with a|a
 ·exact h.head q a
 ·rw[Nh.1 a,c];exact⟨p,hp,b,hl⟩
theorem PI.bump(h:PI N L least rm pos W){v p r:Nat}(g:∀ q∈W,eL N q≠v)(hp:pos[v]?=some p)(i:(L v)[p]?=some r)(hl:rm.getD r 0<least\/(gQ N r≠N.snk.toNat/\qB L pos (gQ N r))):PI N L least rm (pos.set v (p+1)) W:=by
 refine⟨by rw[NQ];exact h.pl,h.tr,λ q a=>?_,λ u q a j s l b=>?_⟩
 ·obtain⟨k,c,f,d⟩:=h.head q a;exact⟨k,by rw[Nq (g q a).symm];exact c,f,d⟩
 ·obtain⟨m,c,f,d⟩:=zM hp a
  have key:rm.getD s 0<least\/(gQ N s≠N.snk.toNat/\qB L pos (gQ N s)):=by
   by_cases e:u=v
   ·subst e;rw[hp] at c;simp only[Na] at c;rw[No (Nb.1 hp).1] at a;simp only[Na] at a;by_cases n:j=p
    ·subst n;rw[i] at b;simp only[Na] at b;rw[<- b];exact hl
    ·exact h.pass u p hp j s aa b
   ·have:=d e;subst this;exact h.pass u m c j s l b
  rcases key with k|⟨k1,o⟩
  ·exact .inl k
  ·exact .inr ⟨k1,o.more hp⟩
theorem PI.skip(h:PI N L least rm pos W)(a:gh N L lv){p r:Nat}(hp:pos[dQ N W]?=some p)(b:(L (dQ N W))[p]?=some r)(hl:rm.getD r 0<least):PI N L least rm (pos.set (dQ N W) (p+1)) W:=
 h.bump (λ q c e=>by have:=((qP a h.on h.mem).2 q c).2;rw[e] at this;omega) hp b (.inl hl)
theorem PI.drop{r:Nat}(h:PI N L least rm pos (W++[r])):PI N L least rm pos W:=by
 obtain⟨z,a⟩:=h.tr;exact⟨h.pl,⟨_,(qA a).1⟩,λ q b=>h.head q (by simp[b]),h.pass⟩
theorem PI.back_at{r:Nat}(h:PI N L least rm pos (W++[r])):∃ q,pos[dQ N W]?=some q/\(L (dQ N W))[q]?=some r/\eL N r=dQ N W:=by
 obtain⟨z,c⟩:=h.tr;have e:=BY (qA c).1;obtain⟨p,a,b,_⟩:=h.head r ai;rw[e] at a b;exact⟨p,a,b,e⟩
theorem PI.back{r p q:Nat}(h:PI N L least rm pos (W++[r]))(g:gh N L lv)(d:dQ N (W++[r])≠N.snk.toNat)(hp:pos[dQ N (W++[r])]?=some p)(hl:(L (dQ N (W++[r]))).length<=p)(f:pos[dQ N W]?=some q):
 PI N L least rm (pos.set (dQ N W) (q+1)) W:=by
 obtain⟨j,b,i,k⟩:=h.back_at;rw[f] at b;simp only[Na] at b;subst b;rw[qY] at d hp hl;refine h.drop.bump (λ s c e=>?_) f i (.inr ⟨d,λ l a=>?_⟩)
 ·have:=((qP g h.drop.on h.drop.mem).2 s c).2;rw[e] at this;omega
 ·rw[hp] at a;simp only[Na] at a;rw[<- a];exact hl
end
inductive Nx (N:aR) (L:Nat->LN_) (least:Int) (rm:LI_):LN_->LN_->Bool->LN_->LN_->Prop
 |hit {pos W:LN_}:dQ N W=N.snk.toNat->Nx N L least rm pos W true pos W
 |go {pos W pos' W':LN_} {r p:Nat} {b:Bool}:dQ N W≠N.snk.toNat->pos[dQ N W]?=some p->(L (dQ N W))[p]?=some r->least<=rm.getD r 0->Nx N L least rm pos (W++[r]) b pos' W'->Nx N L least rm pos W b pos' W'
 |skip {pos W pos' W':LN_} {r p:Nat} {b:Bool}:dQ N W≠N.snk.toNat->pos[dQ N W]?=some p->(L (dQ N W))[p]?=some r->rm.getD r 0<least->Nx N L least rm (pos.set (dQ N W) (p+1)) W b pos' W'->Nx N L least rm pos W b pos' W'
 |back {pos W pos' W':LN_} {r p q:Nat} {b:Bool}:dQ N (W++[r])≠N.snk.toNat->pos[dQ N (W++[r])]?=some p->(L (dQ N (W++[r]))).length<=p->pos[dQ N W]?=some q->Nx N L least rm (pos.set (dQ N W) (q+1)) W b pos' W'->Nx N L least rm pos (W++[r]) b pos' W'
 |stop {pos:LN_} {p:Nat}:N.src.toNat≠N.snk.toNat->pos[N.src.toNat]?=some p->(L N.src.toNat).length<=p->Nx N L least rm pos [] false pos []
theorem Nx.keeps{N:aR}{L:Nat->LN_}{lv:Nat->Int}{least:Int}{rm:LI_}(i:gh N L lv){pos W pos' g:LN_}{b:Bool}(h:Nx N L least rm pos W b pos' g):
 PI N L least rm pos W->PI N L least rm pos' g/\(b=true->dQ N g=N.snk.toNat)/\(b=false->g=[]/\qB L pos' N.src.toNat):=by
 induction h with
 |hit h=>exact λ a=>⟨a,λ _=>h,λ h=>(by cases h)⟩
 |go _ c d e _ f=>exact λ a=>f (a.go i c d e)
 |skip _ c d e _ f=>exact λ a=>f (a.skip i c d e)
 |back j c d e _ f=>exact λ a=>f (a.back i j c d e)
 |stop _ c d=>exact λ a=>⟨a,λ h=>(by cases h),λ _=>⟨rfl,λ p hp=>by rw[c] at hp;simp only[Na] at hp;rw[<- hp];exact d⟩⟩
inductive LP (N:aR) (L:Nat->LN_) (least:Int) (rm:LI_):Nat->Prop
 |src:LP N L least rm N.src.toNat
 |step {r:Nat}:LP N L least rm (eL N r)->r∈L (eL N r)->least<=rm.getD r 0->LP N L least rm (gQ N r)
theorem CW{N:aR}(e:N.Right){L:Nat->LN_}{lv:Nat->Int}{least:Int}{rm:LI_}(f:gh N L lv){pos:LN_}(c:PI N L least rm pos [])(g:qB L pos N.src.toNat)(i:N.src.toNat≠N.snk.toNat):
 ∀ {u},LP N L least rm u->u≠N.snk.toNat/\qB L pos u:=by
 intro u h
 induction h with
 |src=>exact⟨i,g⟩
 |@step r _ d hl l=>
  obtain⟨j,m,a⟩:=NT.1 d;have b:=(f.ok _ _ d).1;have n:=nA e b;have hlen:eL N r<pos.length:=by rw[c.pl];omega
  obtain⟨p,hp⟩:∃ p,pos[eL N r]?=some p:=⟨pos[eL N r],an hlen⟩;have:=l.2 p hp
  rcases c.pass _ p hp j r aa (by rw[an m,a]) with k|k
  ·omega
  ·exact k
def q8(a:Int)(r:Nat)(rm:LI_):LI_:=(rm.set r (rm.getD r 0-a)).set (cF r) (rm.getD (cF r) 0+a)
def df(a:Int):LN_->LI_->LI_
 |[],rm=>rm
 |r::W,rm=>df a W (q8 a r rm)
theorem mK(a:Int)(r:Nat)(rm:LI_):(q8 a r rm).length=rm.length:=by simp[q8]
theorem iX(a:Int):∀ (W:LN_) (rm:LI_),(df a W rm).length=rm.length
 |[],_=>rfl
 |r::W,rm=>by rw[df,iX a W,mK]
theorem wc(a:Int)(r:Nat):∀ (W:LN_) (rm:LI_),df a (W++[r]) rm=q8 a r (df a W rm)
 |[],_=>rfl
 |q::W,rm=>by simp only[Ob,df];exact wc a r W _
theorem kQ{l:LI_}{i j:Nat}{x d:Int}(hi:i<l.length):(l.set i x).getD j d=if i=j then x else l.getD j d:=by
 simp only[Nc];by_cases e:i=j
 ·subst e;rw[if_pos rfl,No hi];rfl
 ·rw[if_neg e,Nq e]
theorem wE{a:Int}{r m:Nat}{rm:LI_}(hl:rm.length=2*m)(e:r<2*m)(q:Nat):
 (q8 a r rm).getD q 0=rm.getD q 0+(if cF q=r then a else 0)-(if q=r then a else 0):=by
 have g:=zm e;unfold q8;rw[kQ (by rw[NQ];omega),kQ aa];have b:=yM r;by_cases c:cF r=q
 ·subst c;rw[if_pos rfl,mW,if_pos rfl,if_neg b];omega
 ·have f:cF q≠r:=fun h=>c (by rw[← h,mW]);rw[if_neg c,if_neg f];by_cases d:r=q
  ·subst d;rw[if_pos rfl,if_pos rfl];omega
  ·rw[if_neg d,if_neg (λ h=>d h.symm)];omega
open Classical in
theorem jp{a:Int}{m:Nat}:∀ {W:LN_} {rm:LI_},rm.length=2*m->(∀ r∈W,r<2*m)->W.Nodup->(∀ q:Nat,(df a W rm).getD q 0=rm.getD q 0+(if cF q∈W then a else 0)-(if q∈W then a else 0))
 |[],rm,_,_,_,q=>by simp[df]
 |r::W,rm,hl,d,f,q=>by
  have c:=NG.1 f;rw[df,jp (by rw[mK];exact hl) (λ x g=>d x (by simp[g])) c.2 q,wE hl (d r ai)]
  have h:(if cF q∈r::W then a else 0)=(if cF q=r then a else 0)+(if cF q∈W then a else 0):=by
   by_cases e:cF q=r
   ·rw[if_pos e,if_pos (by simp[e]),if_neg (by rw[e];exact c.1)];omega
   ·rw[if_neg e];by_cases b:cF q∈W
    ·rw[if_pos b,if_pos (by simp[b])];omega
    ·rw[if_neg b,if_neg (by simp[e,b])];omega
  have b:(if q∈r::W then a else 0)=(if q=r then a else 0)+(if q∈W then a else 0):=by
   by_cases e:q=r
   ·rw[if_pos e,if_pos (by simp[e]),if_neg (by rw[e];exact c.1)];omega
   ·rw[if_neg e];by_cases b:q∈W
    ·rw[if_pos b,if_pos (by simp[b])];omega
    ·rw[if_neg b,if_neg (by simp[e,b])];omega
  rw[h,b];omega
def dx(rm:LI_)(W:LN_):Int:=W.foldl (λ m q=>if rm.getD q 0<m then rm.getD q 0 else m) (rm.getD (W.headD 0) 0)
theorem ui(rm:LI_):∀ (W:LN_) (x:Int),(W.foldl (λ m q=>if rm.getD q 0<m then rm.getD q 0 else m) x<=x)/\(∀ r∈W,W.foldl (λ m q=>if rm.getD q 0<m then rm.getD q 0 else m) x<=rm.getD r 0)/\
 (W.foldl (λ m q=>if rm.getD q 0<m then rm.getD q 0 else m) x=x\/∃ r∈W,W.foldl (λ m q=>if rm.getD q 0<m then rm.getD q 0 else m) x=rm.getD r 0)
 |[],x=>⟨Ov _,λ _ h=>(by cases h),.inl rfl⟩
 |r::W,x=>by
  obtain⟨d,e,a⟩:=ui rm W (if rm.getD r 0<x then rm.getD r 0 else x);simp only[OF];refine⟨PW d (by split<;>omega),λ q c=>?_,?_⟩
  ·rcases Nl.1 c with rfl|c
   ·exact PW d (by split<;>omega)
   ·exact e q c
  ·rcases a with a|⟨q,c,a⟩
   ·split at a
    ·exact .inr ⟨r,ai,by rename_i b;rw[if_pos b];exact a⟩
    ·rename_i b;exact .inl (by rw[if_neg b];exact a)
   ·exact .inr ⟨q,by simp[c],a⟩
theorem qC{rm:LI_}{W:LN_}:∀ r∈W,dx rm W<=rm.getD r 0:=(ui rm W _).2.1
theorem nu{rm:LI_}{W:LN_}(h:W≠[]):∃ r∈W,dx rm W=rm.getD r 0:=by
 rcases (ui rm W (rm.getD (W.headD 0) 0)).2.2 with a|a
 ·cases W with
  |nil=>exact absurd rfl h
  |cons r W=>exact⟨r,ai,a⟩
 ·exact a
def rC(least:Int)(rm:LI_)(W:LN_):Nat:=W.findIdx λ r=>decide (rm.getD r 0<least)
inductive Bl (N:aR) (L:Nat->LN_) (least:Int):LI_->LN_->LN_->List (LN_×Int)->LI_->Prop
 |stop {rm:LI_} {pos W pos' W':LN_}:Nx N L least rm pos W false pos' W'->Bl N L least rm pos W [] rm
 |walk {rm rm':LI_} {pos W pos' W':LN_} {ws:List (LN_×Int)}:Nx N L least rm pos W true pos' W'->
  Bl N L least (df (dx rm W') W' rm) pos' (W'.take (rC least (df (dx rm W') W' rm) W')) ws rm'->Bl N L least rm pos W ((W',dx rm W')::ws) rm'
theorem f6{l:List eq}{f:LI_}{i:Nat}{a:eq}{x:Int}(h:l[i]?=some a)(k:f[i]?=some x):(l.zip f)[i]?=some (a,x):=NZ.2 ⟨h,k⟩
theorem eh:∀ {ps:List (eq×Int)} {i:Nat} {p:eq×Int},ps[i]?=some p->(a9 ps)[2*i]?=some (p.1.cap-p.2)/\(a9 ps)[2*i+1]?=some p.2
 |[],_,_,h=>by simp at h
 |q::ps,0,p,h=>by
  simp only[Oe,Na] at h;subst h;exact gY
 |q::ps,i+1,p,h=>by
  have a:=eh (ps:=ps) (i:=i) (by simpa using h);have e:a9 (q::ps)=[q.1.cap-q.2,q.2]++a9 ps:=by simp[a9]
  rw[e,Nu eS,Nu eS];exact⟨by rw[show 2*(i+1)-[q.1.cap-q.2,q.2].length=2*i by simp;omega];exact a.1,by rw[show 2*(i+1)+1-[q.1.cap-q.2,q.2].length=2*i+1 by simp;omega];exact a.2⟩
def iY(a:Int)(r:Nat)(f:LI_):LI_:=f.set (r/2) (f.getD (r/2) 0+if r%2=1 then-a else a)
def pD(a:Int):LN_->LI_->LI_
 |[],f=>f
 |r::W,f=>pD a W (iY a r f)
theorem ly(a:Int)(r:Nat)(f:LI_):(iY a r f).length=f.length:=by simp[iY]
theorem Bu{N:aR}{a:Int}{r:Nat}{f:LI_}(hl:f.length=N.arcs.length)(l:r<2*N.arcs.length):q8 a r (a9 (N.arcs.zip f))=a9 (N.arcs.zip (iY a r f)):=by
 have j:(N.arcs.zip f).length=N.arcs.length:=by simp;omega
 have g:(N.arcs.zip (iY a r f)).length=N.arcs.length:=by simp[ly];omega
 have c:=ee (N.arcs.zip f);have b:=ee (N.arcs.zip (iY a r f));rw[j] at c;rw[g] at b
 have h:∀ q:Nat,q<2*N.arcs.length->(q8 a r (a9 (N.arcs.zip f))).getD q 0=(a9 (N.arcs.zip (iY a r f))).getD q 0:=by
  intro q s;rw[wE c l];have k:q/2<N.arcs.length:=aa;obtain⟨ar,i⟩:∃ x,N.arcs[q/2]?=some x:=⟨N.arcs[q/2],an k⟩;have m:f[q/2]?=some (f.getD (q/2) 0):=by rw[Nc,an aa];rfl
  have n:(iY a r f)[q/2]?=some ((iY a r f).getD (q/2) 0):=by rw[Nc,an (by rw[ly];omega)];rfl
  obtain⟨g1,g2⟩:=eh (f6 i m);obtain⟨g3,g4⟩:=eh (f6 i n)
  have d:(iY a r f).getD (q/2) 0=f.getD (q/2) 0+if r/2=q/2 then (if r%2=1 then-a else a) else 0:=by
   unfold iY;rw[kQ aa];by_cases e:r/2=q/2
   ·rw[if_pos e,if_pos e,e]
   ·rw[if_neg e,if_neg e];omega
  simp only at g1 g2 g3 g4
  rcases Pj q with hm|hm
  ·have e:2*(q/2)=q:=by omega
   rw[e] at g1 g3;simp only[Nc] at d ⊢;rw[g1,g3];simp only[NK,Nc] at d ⊢;rw[d];unfold cF;rw[if_neg (by omega:¬ q%2=1)];split<;>split<;>split<;>(try split)<;>omega
  ·have e:2*(q/2)+1=q:=by omega
   rw[e] at g2 g4;simp only[Nc] at d ⊢;rw[g2,g4];simp only[NK,Nc] at d ⊢;rw[d];unfold cF;rw[if_pos hm];split<;>split<;>split<;>(try split)<;>omega
 refine Pl (by rw[mK,c,b]) λ q o p=>?_;have:=h q aa;simp only[Nc] at this;rw[an o,an p] at this;exact this
theorem DR{N:aR}{a v:Int}{r:Nat}{f:LI_}(hl:f.length=N.arcs.length)(d:r<2*N.arcs.length):
 dJ (N.arcs.zip (iY a r f)) v=dJ (N.arcs.zip f) v+((if (dg N r).2=v then a else 0)-(if (dg N r).1=v then a else 0)):=by
 obtain⟨ar,b⟩:∃ x,N.arcs[r/2]?=some x:=⟨N.arcs[r/2]'aa,an aa⟩;have c:f[r/2]?=some (f.getD (r/2) 0):=by rw[Nc,an aa];rfl
 have he:dg N r=d6 ar r:=by unfold dg;rw[b]
 unfold iY;rw[xA N.arcs f (r/2) ar _ _ v b c,he];unfold d6;by_cases hm:r%2=1
 ·rw[if_pos hm,if_pos hm];simp only;split<;>split<;>omega
 ·rw[if_neg hm,if_neg hm]
theorem v4{N:aR}(c:N.Right){a:Int}:∀ {W:LN_} {f:LI_} {x z:Nat},f.length=N.arcs.length->(∀ r∈W,r<2*N.arcs.length)->Tr N x W z->
 (pD a W f).length=N.arcs.length/\df a W (a9 (N.arcs.zip f))=a9 (N.arcs.zip (pD a W f))/\∀ v:Int,dJ (N.arcs.zip (pD a W f)) v=dJ (N.arcs.zip f) v+((if (z:Int)=v then a else 0)-(if (x:Int)=v then a else 0))
 |[],f,x,z,hl,_,h=>⟨hl,rfl,λ v=>by rw[show x=z from h];simp only[pD];omega⟩
 |r::W,f,x,z,hl,d,⟨e,g⟩=>by
  have b:=d r ai;obtain⟨k1,i,j⟩:=v4 c (a:=a) (f:=iY a r f) (by rw[ly];exact hl) (λ q k=>d q (by simp[k])) g;refine⟨k1,by rw[df,Bu hl b,i];rfl,λ v=>?_⟩;rw[pD,j,DR hl b,(j1 c b).1,(nA c b).1,e];omega
theorem mF{N:aR}{f:LI_}(hl:f.length=N.arcs.length):Ranged N f↔∀ q,q<2*N.arcs.length->0<=(a9 (N.arcs.zip f)).getD q 0:=by
 constructor
 ·intro h q l;obtain⟨ar,b⟩:∃ x,N.arcs[q/2]?=some x:=⟨N.arcs[q/2]'aa,List.getElem?_eq_getElem aa⟩;have e:f[q/2]?=some (f.getD (q/2) 0):=by rw[List.getD_eq_getElem?_getD,List.getElem?_eq_getElem aa];rfl
  have a:=f6 b e;obtain⟨g1,g2⟩:=eh a;have:=h.all _ (M9 a);simp only at g1 g2 this
  rcases Pj q with hm|hm
  ·rw[show 2*(q/2)=q by omega] at g1;rw[Nc,g1,NK];omega
  ·rw[show 2*(q/2)+1=q by omega] at g2;rw[Nc,g2,NK];omega
 ·intro h;refine⟨hl,fun p hp=>?_⟩;obtain⟨j,d,c⟩:=List.mem_iff_getElem.1 hp;have a:(N.arcs.zip f)[j]?=some p:=by rw[List.getElem?_eq_getElem d,c]
  have g:j<N.arcs.length:=by have:=d;simp at this;omega
  obtain⟨g1,g2⟩:=eh a;have i:=h (2*j) aa;have k:=h (2*j+1) aa;rw[Nc,g1,NK] at i;rw[Nc,g2,NK] at k;omega
theorem wI{N:aR}(g:N.Right){f:LI_}(b:aD N f){W:LN_}(j:∀ r∈W,r<2*N.arcs.length)(l:W.Nodup)(m:Tr N N.src.toNat W N.snk.toNat){a:Int}(y:0<=a)(hm:∀ r∈W,a<=(a9 (N.arcs.zip f)).getD r 0):
 aD N (pD a W f)/\df a W (a9 (N.arcs.zip f))=a9 (N.arcs.zip (pD a W f))/\dJ (N.arcs.zip (pD a W f)) N.snk=dJ (N.arcs.zip f) N.snk+a:=by
 obtain⟨n,k,h⟩:=v4 g (a:=a) b.len j m;have o:=g.src;have p:=g.snk;have s:=g.diff;have t:((N.src.toNat:Nat):Int)=N.src:=aa;have u:((N.snk.toNat:Nat):Int)=N.snk:=aa;rw[t,u] at h;have i:(N.arcs.zip f).length=N.arcs.length:=by have:=b.len;simp;omega
 refine⟨⟨(mF n).2 λ q w=>?_,λ v x c d=>?_⟩,k,?_⟩
 ·rw[← k,jp (by rw[ee,i]) j l];have z:=(mF b.len).1 b.toRanged q w;by_cases e:q∈W
  ·have:=hm q e;rw[if_pos e];split<;>omega
  ·rw[if_neg e];split<;>omega
 ·rw[h,b.kept v x c d,if_neg (λ e=>d e.symm),if_neg (λ e=>c e.symm)];rfl
 ·rw[h,if_pos rfl,if_neg s];omega
theorem Bl.keeps{N:aR}(n:N.Right){L:Nat->LN_}{lv:Nat->Int}{least:Int}(t:gh N L lv)(hle:1<=least){rm rm':LI_}{pos W:LN_}{ws:List (LN_×Int)}(h:Bl N L least rm pos W ws rm'):
 ∀ f,aD N f->rm=a9 (N.arcs.zip f)->PI N L least rm pos W->
   ∃ f',aD N f'/\rm'=a9 (N.arcs.zip f')/\dJ (N.arcs.zip f) N.snk+least*ws.length<=dJ (N.arcs.zip f') N.snk/\(∀ u,LP N L least rm' u->u≠N.snk.toNat)/\(∀ v r,r∈L v->rm'.getD r 0<=rm.getD r 0)/\
     (∀ q,q<2*N.arcs.length->rm.getD q 0<rm'.getD q 0->cF q∈L (eL N (cF q))):=by
 induction h with
 |@stop rm pos W pos' b F=>
  intro f E he G;obtain⟨d,_,Y⟩:=F.keeps t G;obtain⟨rfl,Z⟩:=Y rfl;have H:=n.src;have I:=n.snk;have K:=n.diff;exact⟨f,E,he,ai,λ u hu=>(CW n t d Z aa hu).1,λ _ _ _=>Ov _,λ q _ h=>by omega⟩
 |@walk rm rm' pos W pos' b ws F _ U=>
  intro f E he G;obtain⟨d,h2,_⟩:=F.keeps t G;have e:=h2 rfl;have l:=d.on;rw[e] at l;have x:=uz t l d.mem;have y:∀ r∈b,r<2*N.arcs.length:=λ r c=>(t.ok _ _ (d.mem r c)).1;have w:∀ r∈b,least<=rm.getD r 0:=λ r c=>by obtain⟨_,_,_,h⟩:=d.head r c;exact h
  have z:b≠[]:=by
   intro h0;have H:=n.src;have I:=n.snk;have K:=n.diff;rw[h0] at e;simp only[dQ,List.getLast?_nil] at e;omega
  obtain⟨r0,M,O⟩:=nu (rm:=rm) z;have A:=w r0 M;rw[<- O] at A;obtain⟨a,o⟩:∃ a,a=dx rm b:=⟨_,rfl⟩;rw[<- o] at A U ⊢;have B:∀ r∈b,a<=rm.getD r 0:=λ r c=>o▸qC r c;obtain⟨k1,V,k3⟩:=wI n E y x.1 l (by omega:0<=a) (he▸B);rw[<- he] at V;have P:rm.length=2*N.arcs.length:=by rw[he,ee];have:=E.len;simp;omega
  have s:=jp (a:=a) P y x.1
  have g:∀ v r,r∈L v->(df a b rm).getD r 0<=rm.getD r 0:=by
   intro v r c;rw[s]
   have:cF r∉b:=by
    intro m;have g1:=(t.ok _ _ c);have g2:=(t.ok _ _ (d.mem _ m)).2.2;have g3:=g1.2.2;rw[kP,iK] at g2;rw[<- g1.2.1] at g3;omega
   rw[if_neg this];split<;>omega
  have Q:PI N L least (df a b rm) pos' (b.take (rC least (df a b rm) b)):=by
   refine⟨d.pl,wZ _ l,λ r c=>?_,λ v p hp j r hj C=>?_⟩
   ·obtain⟨p,g1,g2,_⟩:=d.head r (List.mem_of_mem_take c);refine⟨p,g1,g2,?_⟩;obtain⟨i,hi,D⟩:=List.mem_iff_getElem.1 c;have R:i<rC least (df a b rm) b:=by rw[List.length_take] at hi;omega
    rw[PD] at D;have:=Py R;rw[D] at this
    simpa using this
   ·rcases d.pass v p hp j r hj C with k|k
    ·exact .inl (by have:=g v r (M9 C);omega)
    ·exact .inr k
  obtain⟨f',g1,g2,g3,g4,g5,g6⟩:=U (pD a b f) k1 V Q;refine⟨f',g1,g2,?_,g4,λ v r c=>PW (g5 v r c) (g v r c),λ q hq X=>?_⟩
  ·rw[k3] at g3;rw[List.length_cons];have:least*((ws.length+1:Nat):Int)=least*ws.length+least:=by grind
   omega
  ·by_cases S:rm.getD q 0<(df a b rm).getD q 0
   ·rw[s] at S;by_cases m:cF q∈b
    ·exact d.mem _ m
    ·rw[if_neg m] at S;split at S<;>omega
   ·exact g6 q hq aa
def dF(lv:LI_)(v:Nat):Int:=lv.getD v (-1)
theorem xZ{lv:LI_}{v:Nat}{x:Int}(h:lv[v]?=some x):dF lv v=x:=by unfold dF;rw[Nc,h];rfl
theorem qk{lv:LI_}{v:Nat}(h:v<lv.length):lv[v]?=some (dF lv v):=by unfold dF;rw[Nc,an h];rfl
theorem CP{lv:LI_}{t v:Nat}{x:Int}(h:t<lv.length):dF (lv.set t x) v=if t=v then x else dF lv v:=kQ h
theorem Ci{lv:LI_}{v:Nat}(h:lv.length<=v):dF lv v=-1:=by unfold dF;rw[Nc,NX h];rfl
structure fu (N:aR) (rm:LI_) (least:Int) (lv:LI_):Prop where
 len:lv.length=N.nodes.toNat+1
 src:dF lv N.src.toNat=0
 nil:dF lv 0=-1
 rng:∀ v,-1<=dF lv v/\dF lv v<N.nodes
 zero:∀ v,dF lv v=0->v=N.src.toNat
 step:∀ r,r<2*N.arcs.length->least<=rm.getD r 0->0<=dF lv (eL N r)->0<=dF lv (gQ N r)/\dF lv (gQ N r)<=dF lv (eL N r)+1
 back:∀ v,0<dF lv v->∃ r,r<2*N.arcs.length/\least<=rm.getD r 0/\gQ N r=v/\dF lv (eL N r)=dF lv v-1
structure LH (N:aR) (rm:LI_) (least:Int) (k:Nat) (fr:LN_) (lv:LI_):Prop where
 k1:1<=k
 len:lv.length=N.nodes.toNat+1
 src:dF lv N.src.toNat=0
 nil:dF lv 0=-1
 rng:∀ v,dF lv v=-1\/0<=dF lv v/\dF lv v<=(k:Int)-1
 zero:∀ v,dF lv v=0->v=N.src.toNat
 front:∀ v,dF lv v=(k:Int)-1↔v∈fr
 done:∀ r,r<2*N.arcs.length->least<=rm.getD r 0->0<=dF lv (eL N r)->dF lv (eL N r)<(k:Int)-1->0<=dF lv (gQ N r)/\dF lv (gQ N r)<=dF lv (eL N r)+1
 back:∀ v,0<dF lv v->∃ r,r<2*N.arcs.length/\least<=rm.getD r 0/\gQ N r=v/\dF lv (eL N r)=dF lv v-1
 cnt:k+fr.length+lv.count (-1)<=N.nodes.toNat+2
structure LV (N:aR) (rm:LI_) (least:Int) (k:Nat) (now:LN_) (i j:Nat) (nxt:LN_) (lv:LI_):Prop where
 k1:1<=k
 len:lv.length=N.nodes.toNat+1
 src:dF lv N.src.toNat=0
 nil:dF lv 0=-1
 rng:∀ v,dF lv v=-1\/0<=dF lv v/\dF lv v<=(k:Int)
 zero:∀ v,dF lv v=0->v=N.src.toNat
 old:∀ v,dF lv v=(k:Int)-1↔v∈now
 new:∀ v,dF lv v=(k:Int)↔v∈nxt
 done:∀ r,r<2*N.arcs.length->least<=rm.getD r 0->0<=dF lv (eL N r)->(dF lv (eL N r)<(k:Int)-1\/eL N r∈now.take i\/(now[i]?=some (eL N r)/\∃ a,a<j/\(tr N (2*N.arcs.length) (eL N r))[a]?=some (r:Int)))->
  0<=dF lv (gQ N r)/\dF lv (gQ N r)<=dF lv (eL N r)+1
 back:∀ v,0<dF lv v->∃ r,r<2*N.arcs.length/\least<=rm.getD r 0/\gQ N r=v/\dF lv (eL N r)=dF lv v-1
 cnt:k+nxt.length+lv.count (-1)<=N.nodes.toNat+1
section
variable {N:aR} {rm:LI_} {least:Int} {k:Nat} {lv:LI_}
theorem jB:∀ (l:LI_) (t:Nat) (x:Int),l[t]?=some (-1)->x≠-1->(l.set t x).count (-1)+1=l.count (-1)
 |[],_,_,h,_=>by simp at h
 |y::l,0,x,h,a=>by
  simp only[Oe,Na] at h;subst h;simp[a]
 |y::l,t+1,x,h,a=>by
  have:=jB l t x (by simpa using h) a;simp only[List.set_cons_succ,List.count_cons];omega
theorem LH.init(c:N.Right):LH N rm least 1 [N.src.toNat] ((List.replicate (N.nodes.toNat+1) (-1)).set N.src.toNat 0):=by
 have d:=c.src;have f:=c.nodes;have b:N.src.toNat<(List.replicate (N.nodes.toNat+1) (-1:Int)).length:=by rw[NN];omega
 have g:∀ v,dF (List.replicate (N.nodes.toNat+1) (-1)) v=-1:=by
  intro v;by_cases h:v<N.nodes.toNat+1
  ·exact xZ (by rw[Nt,if_pos h])
  ·exact Ci (by rw[NN];omega)
 have a:∀ v,dF ((List.replicate (N.nodes.toNat+1) (-1)).set N.src.toNat 0) v=if N.src.toNat=v then 0 else-1:=λ v=>by rw[CP b,g]
 refine⟨Np _,ai,by rw[a,if_pos rfl],by rw[a,if_neg aa],λ v=>?_,λ v h=>?_,λ v=>?_,λ r _ _ j i=>by omega,λ v h=>?_,?_⟩
 ·rw[a];split
  ·exact .inr ⟨aa,aa⟩
  ·exact .inl rfl
 ·rw[a] at h;split at h
  ·rename_i e;exact e.symm
  ·omega
 ·rw[a,Nh]
  constructor
  ·intro h;split at h
   ·rename_i e;exact e.symm
   ·omega
  ·rintro rfl;rw[if_pos rfl];omega
 ·rw[a] at h;split at h<;>omega
 ·have:=jB (List.replicate (N.nodes.toNat+1) (-1)) N.src.toNat 0 (by rw[Nt,if_pos aa]) ab;have i:(List.replicate (N.nodes.toNat+1) (-1:Int)).count (-1)=N.nodes.toNat+1:=ai;simp only[NF];omega
theorem LH.turn{fr:LN_}(h:LH N rm least k fr lv)(c:fr≠[]):LV N rm least k fr 0 0 [] lv:=by
 have j:=h.k1;have hlen:0<fr.length:=NP.2 c;refine⟨h.k1,h.len,h.src,h.nil,λ v=>?_,h.zero,h.front,λ v=>⟨λ e=>?_,λ e=>by cases e⟩,λ r d f g b=>?_,h.back,?_⟩
 ·rcases h.rng v with e|e
  ·exact .inl e
  ·exact .inr ⟨e.1,aa⟩
 ·rcases h.rng v with i|i<;>omega
 ·rcases b with b|b|⟨_,a,l,_⟩
  ·exact h.done r d f g b
  ·simp at b
  ·omega
 ·have:=h.cnt;simp only[NA];omega
theorem LV.row{now c:LN_}{i j:Nat}(h:LV N rm least k now i j c lv)(o:∀ v,now[i]?=some v->(tr N (2*N.arcs.length) v).length<=j):LV N rm least k now (i+1) 0 c lv:=by
 refine⟨h.k1,h.len,h.src,h.nil,h.rng,h.zero,h.old,h.new,λ r d l f b=>?_,h.back,h.cnt⟩
 rcases b with b|b|⟨_,a,m,_⟩
 ·exact h.done r d l f (.inl b)
 ·rw[Nv] at b
  rcases Nm.1 b with b|b
  ·exact h.done r d l f (.inr (.inl b))
  ·cases g:now[i]? with
   |none=>rw[g] at b;simp at b
   |some v=>
    rw[g] at b;have e:eL N r=v:=by simpa using b
    refine h.done r d l f (.inr (.inr ⟨by rw[g,e],?_⟩))
    have hm:(r:Int)∈tr N (2*N.arcs.length) (eL N r):=by
     refine xi.2 ⟨r,d,?_,rfl⟩;unfold eL
     have p:0<=(dg N r).1:=by
      by_cases q:0<=(dg N r).1
      ·exact q
      ·exfalso;have:eL N r=0:=by unfold eL;omega
       rw[this,h.nil] at f;omega
     omega
    obtain⟨a,m,n⟩:=NT.1 hm;exact⟨a,Pa m (e▸o v g),by rw[an m,n]⟩
 ·omega
theorem LV.final{now a:LN_}{i j:Nat}(h:LV N rm least k now i j a lv)(hi:now.length<=i):LH N rm least (k+1) a lv:=by
 have f:=h.k1;refine⟨aa,h.len,h.src,h.nil,λ v=>?_,h.zero,λ v=>?_,λ r b c d g=>?_,h.back,?_⟩
 ·rcases h.rng v with e|e
  ·exact .inl e
  ·exact .inr ⟨e.1,aa⟩
 ·have:=h.new v;rw[show (((k+1:Nat):Int)-1)=(k:Int) by omega];exact this
 ·refine h.done r b c d ?_;by_cases e:dF lv (eL N r)<(k:Int)-1
  ·exact .inl e
  ·refine .inr (.inl ?_);rw[Of hi];exact (h.old _).1 aa
 ·have:=h.cnt;omega
theorem LV.pass{now c:LN_}{i j r:Nat}(h:LV N rm least k now i j c lv)(t:∃ v,now[i]?=some v/\(tr N (2*N.arcs.length) v)[j]?=some (r:Int))(d:rm.getD r 0<least\/dF lv (gQ N r)≠-1):LV N rm least k now i (j+1) c lv:=by
 refine⟨h.k1,h.len,h.src,h.nil,h.rng,h.zero,h.old,h.new,λ q g l m b=>?_,h.back,h.cnt⟩
 rcases b with b|b|⟨b,a,w,n⟩
 ·exact h.done q g l m (.inl b)
 ·exact h.done q g l m (.inr (.inl b))
 ·by_cases e:a=j
  ·subst e;obtain⟨v,s,o⟩:=t;rw[s] at b;simp only[Na] at b;rw[<- b,o] at n
   have u:r=q:=by
    have f:(r:Int)=q:=by simpa using n
    omega
   subst u;have p:=(h.old v).2 (M9 s)
   rcases d with d|d
   ·omega
   ·rcases h.rng (gQ N r) with f|f
    ·exact absurd f d
    ·rw[b] at p;exact⟨f.1,aa⟩
  ·exact h.done q g l m (.inr (.inr ⟨b,a,aa,n⟩))
theorem LV.put{now g:LN_}{i j r:Nat}(h:LV N rm least k now i j g lv)(C:∃ v,now[i]?=some v/\eL N r=v/\(tr N (2*N.arcs.length) v)[j]?=some (r:Int))(x:r<2*N.arcs.length)(B:1<=gQ N r/\gQ N r<lv.length)(hl:least<=rm.getD r 0)(l:dF lv (gQ N r)=-1):
 LV N rm least k now i (j+1) (g++[gQ N r]) (lv.set (gQ N r) (k:Int)):=by
 obtain⟨v,p,m,y⟩:=C;obtain⟨t,rfl⟩:∃ t,t=gQ N r:=⟨_,rfl⟩;have F:=h.k1;have c:∀ u,dF (lv.set (gQ N r) (k:Int)) u=if gQ N r=u then (k:Int) else dF lv u:=λ u=>CP B.2
 have n:=(h.old v).2 (M9 p);have o:gQ N r≠v:=λ e=>by rw[e] at l;omega
 refine⟨h.k1,by rw[NQ];exact h.len,?_,?_,λ u=>?_,λ u hu=>?_,λ u=>?_,λ u=>?_,λ q s w f b=>?_,λ u hu=>?_,?_⟩
 ·rw[c,if_neg (λ e=>by rw[e,h.src] at l;omega)];exact h.src
 ·rw[c,if_neg aa];exact h.nil
 ·rw[c];split
  ·exact .inr ⟨aa,aa⟩
  ·exact h.rng u
 ·rw[c] at hu;split at hu
  ·omega
  ·exact h.zero u hu
 ·rw[c];split
  ·rename_i e;subst e
   constructor
   ·intro e;omega
   ·intro e;have:=(h.old _).2 e;omega
  ·exact h.old u
 ·rw[c,Nm,Nh];split
  ·rename_i e;exact⟨λ _=>.inr e.symm,λ _=>rfl⟩
  ·rename_i e;rw[h.new u];exact⟨.inl,λ D=>D.resolve_right λ d=>e d.symm⟩
 ·rw[c] at f b ⊢
  have key:gQ N r≠eL N q:=by
   intro e;rw[if_pos e] at b
   rcases b with b|b|⟨b,_⟩
   ·omega
   ·have:=(h.old _).2 (Od b);rw[<- e] at this;omega
   ·rw[p] at b;simp only[Na] at b;exact o (e.trans b.symm)
  rw[if_neg key] at f b;have z:dF (lv.set (gQ N r) (k:Int)) (eL N q)=dF lv (eL N q):=by rw[c,if_neg key]
  rw[z]
  have hle:dF lv (eL N q)<=k/\(∀ (_:eL N q=v),dF lv (eL N q)=k-1):=by
   constructor
   ·rcases h.rng (eL N q) with e|e<;>omega
   ·intro e;rw[e];exact n
  by_cases e:gQ N r=gQ N q
  ·rw[if_pos e];refine⟨aa,?_⟩
   rcases b with b|b|⟨b,_⟩
   ·have:=h.done q s w f (.inl b);rw[<- e,l] at this;omega
   ·have:=(h.old _).2 (Od b);omega
   ·rw[p] at b;simp only[Na] at b;have:=hle.2 b.symm;omega
  ·rw[if_neg e]
   rcases b with b|b|⟨b,a,G,A⟩
   ·exact h.done q s w f (.inl b)
   ·exact h.done q s w f (.inr (.inl b))
   ·by_cases E:a=j
    ·subst E;rw[p] at b;simp only[Na] at b;rw[<- b,y] at A
     have d:r=q:=by
      have H:(r:Int)=q:=by simpa using A
      omega
     exact absurd (by rw[d]) e
    ·exact h.done q s w f (.inr (.inr ⟨b,a,aa,A⟩))
 ·rw[c] at hu;by_cases e:gQ N r=u
  ·refine⟨r,x,hl,e,?_⟩;rw[c,c,if_pos e,if_neg (λ d=>o (d.trans m)),m,n]
  ·rw[if_neg e] at hu;obtain⟨q,g1,g2,g3,g4⟩:=h.back u hu;refine⟨q,g1,g2,g3,?_⟩;rw[c,c,if_neg e,if_neg,g4];intro d;rw[<- d,l] at g4;omega
 ·have:=h.cnt;have I:=jB lv (gQ N r) (k:Int) (by rw[qk B.2,l]) aa;rw[Ng,NF];omega
theorem LH.lev(c:N.Right)(h:LH N rm least k [] lv):fu N rm least lv:=by
 have l:=h.k1;have d:=c.nodes
 have m:1<=lv.count (-1):=by
  have f:(-1:Int)∈lv:=by
   have:=qk (lv:=lv) (v:=0) (by rw[h.len];omega);rw[h.nil] at this;exact M9 this
  exact List.one_le_count_iff.2 f
 have a:=h.cnt;have b:∀ v,dF lv v≠(k:Int)-1:=λ v e=>by have:=(h.front v).1 e;simp at this
 refine⟨h.len,h.src,h.nil,λ v=>?_,h.zero,λ r g i j=>?_,h.back⟩
 ·have:=b v;simp only[NA] at a
  rcases h.rng v with e|e<;>omega
 ·refine h.done r g i j ?_;have:=b (eL N r)
  rcases h.rng (eL N r) with e|e<;>omega
end
def dj(N:aR)(rm:LI_)(least:Int)(lv:LI_)(k:Nat):LN_:=(List.range k).filter λ r=>decide (least<=rm.getD r 0/\dF lv (eL N r)≠-1/\dF lv (gQ N r)=dF lv (eL N r)+1)
def fC(N:aR)(ls:LN_)(v:Nat):LN_:=ls.filter λ r=>decide (eL N r=v)
theorem fI{N:aR}{rm:LI_}{least:Int}{lv:LI_}{k r:Nat}:r∈dj N rm least lv k↔r<k/\least<=rm.getD r 0/\dF lv (eL N r)≠-1/\dF lv (gQ N r)=dF lv (eL N r)+1:=by
 unfold dj;rw[Pc,N4,NW]
theorem iM{N:aR}{ls:LN_}{v r:Nat}:r∈fC N ls v↔r∈ls/\eL N r=v:=by
 unfold fC;rw[Pc,NW]
theorem km{N:aR}{rm:LI_}{least:Int}{lv:LI_}(h:fu N rm least lv):gh N (fC N (dj N rm least lv (2*N.arcs.length))) (dF lv):=by
 refine⟨λ v r b=>?_,h.rng⟩;obtain⟨c,a⟩:=iM.1 b;obtain⟨d,_,_,e⟩:=fI.1 c;exact⟨d,a,by rw[e,a]⟩
theorem FY{N:aR}{rm:LI_}{least:Int}{lv:LI_}(h:fu N rm least lv):∀ (k v:Nat),dF lv v=k->LP N (fC N (dj N rm least lv (2*N.arcs.length))) least rm v
 |0,v,a=>by rw[h.zero v (by simpa using a)];exact .src
 |k+1,v,a=>by
  obtain⟨r,d,b,c,f⟩:=h.back v aa;have e:=FY h k (eL N r) aa;rw[<- c];exact .step e (iM.2 ⟨fI.2 ⟨d,b,aa,by rw[c];omega⟩,rfl⟩) b
theorem IZ{N:aR}{rm:LI_}{least:Int}{lv:LI_}(h:fu N rm least lv)(hl:rm.length=2*N.arcs.length):∀ {v:Int},tf N rm least v->0<=dF lv v.toNat:=by
 intro v a
 induction a with
 |src=>rw[h.src];omega
 |step u r _ e b c d=>
  have:=h.step r aa c (by unfold eL;rw[b];exact d);exact this.1
end Go.Proofs.YtmcnpaelaieniaaGreatDoor
