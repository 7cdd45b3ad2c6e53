import Derived.Test.YtmcnpaelaieniaaGreatDoorQX132
/- A part of the proof. -/
set_option linter.unusedVariables false
set_option linter.unusedSimpArgs false
set_option maxHeartbeats 8000000
namespace Go.Proofs.YtmcnpaelaieniaaGreatDoor
open Go.RowKit
theorem v7:∀ (l m:LI_),l.Nodup->(∀ x∈l,x∈m)->l.length<=m.length
 |[],_,_,_=>Nk _
 |x::l,m,i,b=>by
  have c:=NG.1 i;have d:=b x ai
  have j:=v7 l (m.erase x) c.2 λ y h=>by
   have a:y≠x:=λ e=>c.1 (by rw[<- e];exact h);rw[List.mem_erase_of_ne a];exact b y (by simp[h])
  rw[Pn d] at j;have:0<m.length:=Pz d;rw[Nf];omega
section
variable {g:Gr} {l sl sr:LI_}
theorem fe.nodup{m:Int}{s:LI_}(h:fe m s):s.Nodup:=h.rise.imp λ h=>by omega
end
theorem pH{N:aR}{f s:LI_}(d:aD N f)(e:pO N f s){j:Nat}{a:eq}(b:N.arcs[j]?=some a)(h:f.getD j 0+1<=a.cap)(c:a.fr∈s):a.to∈s:=by
 have k:=(Nb.1 b).1;have hl:=d.len;have i:f[j]?=some (f.getD j 0):=by rw[Nc,an aa];rfl
 obtain⟨g1,_⟩:=eh (f6 b i)
 have he:dg N (2*j)=(a.fr,a.to):=by
  unfold dg;rw[show 2*j/2=j by omega,b];simp only;unfold d6;rw[if_neg aa]
 have:=e (2*j) aa (by rw[Nc,g1,NK];simp only;omega) (by rw[he];exact c)
 rwa [he] at this
theorem zX{N:aR}{f s:LI_}(d:aD N f)(e:pO N f s){j:Nat}{a:eq}(b:N.arcs[j]?=some a)(h:1<=f.getD j 0)(c:a.to∈s):a.fr∈s:=by
 have k:=(Nb.1 b).1;have hl:=d.len;have i:f[j]?=some (f.getD j 0):=by rw[Nc,an aa];rfl
 obtain⟨_,g2⟩:=eh (f6 b i)
 have he:dg N (2*j+1)=(a.to,a.fr):=by
  unfold dg;rw[show (2*j+1)/2=j by omega,b];simp only;unfold d6;rw[if_pos aa]
 have:=e (2*j+1) aa (by rw[Nc,g2,NK];exact h) (by rw[he];exact c)
 rwa [he] at this
section
variable {g:Gr} {nl nr:Nat} {f:LI_}
theorem Ey(o:g.Right)(q:aD (dO g) f)(hl:g.left=nl)(t:g.right=nr){v:Nat}(E:1<=v)(F:v<=nl)(r:¬ vz g (·.l) (dV f nl g.edges.length) v):f.getD (v-1) 0=0:=by
 have w:=o.left;have y:=o.right;have z:=q.kept (2+v) (by show 1<=2+(v:Int)/\2+(v:Int)<=2+g.left+g.right;omega) (by show 2+(v:Int)≠1;omega) (by show 2+(v:Int)≠2;omega);rw[mb] at z;obtain⟨z3,H,_⟩:=ko q (ox (g:=g) hl (i:=v-1) aa)
 have A:(z5 (2+v) ((dO g).arcs.zip f)).sum=f.getD (v-1) 0:=by
  rw[uj _ (v-1)]
  ·unfold z5;refine xm ?_;exact if_pos (by show 3+((v-1:Nat):Int)=2+v;omega)
  ·intro j x d B;unfold z5 at d;rw[Ni] at d
   cases e:((dO g).arcs.zip f)[j]? with
   |none=>rw[e] at d;simp at d
   |some p=>
    rw[e] at d;simp only[Pd,Na] at d;rw[<- d];refine if_neg λ a=>?_
    rcases mg hl t (mj e).1 with ⟨m,c⟩|⟨s,n,m,c,k⟩|⟨C,m,c,k⟩
    ·rw[c] at a;simp only at a;omega
    ·rw[k] at a;simp only at a;have:=o.edge n (M9 c);omega
    ·rw[k] at a;simp only at a;omega
 have u:(pd (2+v) ((dO g).arcs.zip f)).sum=0:=by
  refine n8 _ λ x d=>?_;obtain⟨j,D,rfl⟩:=NT.1 d;have b:(pd (2+v) ((dO g).arcs.zip f))[j]?=some _:=an D;unfold pd at b;rw[Ni] at b
  cases e:((dO g).arcs.zip f)[j]? with
  |none=>rw[e] at b;simp at b
  |some p=>
   rw[e] at b;simp only[Pd,Na] at b;unfold pd;rw[<- b];by_cases a:p.1.fr=2+v
   ·rw[if_pos a];obtain⟨g1,g2⟩:=mj e
    rcases mg hl t g1 with ⟨m,c⟩|⟨s,n,m,c,k⟩|⟨C,m,c,k⟩
    ·rw[c] at a;simp only at a;omega
    ·rw[k] at a;simp only at a;have hp:=q.all p (M9 e);refine NE λ I=>r ⟨s,gN.2 ⟨s,(Nb.1 c).1,?_,rfl⟩,n,by rw[Nz];exact c,by show n.l=_;omega⟩;rw[<- m,g2];omega
    ·rw[k] at a;simp only at a;omega
   ·exact if_neg a
 omega
theorem By(o:g.Right)(q:aD (dO g) f)(hl:g.left=nl)(s:g.right=nr){w:Nat}(F:1<=w)(H:w<=nr)(t:¬ vz g (·.r) (dV f nl g.edges.length) w):f.getD (nl+g.edges.length+(w-1)) 0=0:=by
 have y:=o.left;have z:=o.right;have A:=q.kept (2+g.left+w) (by show 1<=2+g.left+(w:Int)/\2+g.left+(w:Int)<=2+g.left+g.right;omega) (by show 2+g.left+(w:Int)≠1;omega) (by show 2+g.left+(w:Int)≠2;omega);rw[mb] at A;obtain⟨z3,I,_⟩:=ko q (o7 (g:=g) hl s (i:=w-1) aa)
 have v:(pd (2+g.left+w) ((dO g).arcs.zip f)).sum=f.getD (nl+g.edges.length+(w-1)) 0:=by
  rw[uj _ (nl+g.edges.length+(w-1))]
  ·unfold pd;refine xm ?_;exact if_pos (by show 3+g.left+((w-1:Nat):Int)=2+g.left+w;omega)
  ·intro j x d B;unfold pd at d;rw[Ni] at d
   cases e:((dO g).arcs.zip f)[j]? with
   |none=>rw[e] at d;simp at d
   |some p=>
    rw[e] at d;simp only[Pd,Na] at d;rw[<- d];refine if_neg λ a=>?_
    rcases mg hl s (mj e).1 with ⟨m,c⟩|⟨u,n,m,c,k⟩|⟨C,m,c,k⟩
    ·rw[c] at a;simp only at a;omega
    ·rw[k] at a;simp only at a;have:=o.edge n (M9 c);omega
    ·rw[k] at a;simp only at a;omega
 have D:(z5 (2+g.left+w) ((dO g).arcs.zip f)).sum=0:=by
  refine n8 _ λ x d=>?_;obtain⟨j,E,rfl⟩:=NT.1 d;have b:(z5 (2+g.left+w) ((dO g).arcs.zip f))[j]?=some _:=an E;unfold z5 at b;rw[Ni] at b
  cases e:((dO g).arcs.zip f)[j]? with
  |none=>rw[e] at b;simp at b
  |some p=>
   rw[e] at b;simp only[Pd,Na] at b;unfold z5;rw[<- b];by_cases a:p.1.to=2+g.left+w
   ·rw[if_pos a];obtain⟨g1,g2⟩:=mj e
    rcases mg hl s g1 with ⟨m,c⟩|⟨u,n,m,c,k⟩|⟨C,m,c,k⟩
    ·rw[c] at a;simp only at a;omega
    ·rw[k] at a;simp only at a;have hp:=q.all p (M9 e);refine NE λ K=>t ⟨u,gN.2 ⟨u,(Nb.1 c).1,?_,rfl⟩,n,by rw[Nz];exact c,by show n.r=_;omega⟩;rw[<- m,g2];omega
    ·rw[k] at a;simp only at a;omega
   ·exact if_neg a
 omega
theorem xP(d:g.Right)(j:jA (dO g) f)(hl:g.left=nl)(C:g.right=nr):∀ w,rY g (dV f nl g.edges.length) w->vz g (·.r) (dV f nl g.edges.length) w:=by
 have P:=d.left;have Q:=d.right;have hM:=u6 d j.1 hl C;obtain⟨s,M,D⟩:=Dc (mp d) j;have p:(1:Int)∈s:=M.src;have q:(2:Int)∉s:=M.snk
 -- an edge out of a node that is come tz
 have edge:∀ e∈g.edges,2+e.l∈s->(∀ x∈dV f nl g.edges.length,∀ a,g.edges[x.toNat]?=some a->a.l=e.l->2+g.left+a.r∈s)->2+g.left+e.r∈s:=by
  intro e he F hp;obtain⟨k,G,rfl⟩:=NT.1 he;have t:g.edges[k]?=some g.edges[k]:=an G;by_cases H:0<f.getD (nl+k) 0
  ·exact hp k (gN.2 ⟨k,G,H,rfl⟩) g.edges[k] (by rw[Nz];exact t) rfl
  ·exact pH j.1 D (mc hl t) (by show f.getD (nl+k) 0+1<=1;omega) F
 have key:∀ v,sX g (dV f nl g.edges.length) v->(1<=v/\v<=nl)/\2+(v:Int)∈s/\∀ x∈dV f nl g.edges.length,∀ a,g.edges[x.toNat]?=some a->a.l=v->2+g.left+a.r∈s:=by
  intro v R
  induction R with
  |free v N Y h=>
   refine⟨⟨N,aa⟩,?_,λ x E a m n=>absurd ⟨x,E,a,m,n⟩ h⟩;have H:=Ey d j.1 hl C N aa h;have:=pH j.1 D (ox (g:=g) hl (i:=v-1) aa) (by show f.getD (v-1) 0+1<=1;omega) p
   rwa [show (3:Int)+((v-1:Nat):Int)=2+v by omega] at this
  |step e a x _ he E m u S=>
   have U:=d.edge e he;have V:=d.edge a (M9 m);obtain⟨_,I,K⟩:=S;have o:=edge e he (by rwa [show ((e.l.toNat:Nat):Int)=e.l by omega] at I) λ y z b c A=>K y z b c aa;obtain⟨k,G,O,rfl⟩:=gN.1 E;rw[Nz] at m;have B:=zX j.1 D (mc hl m) aa (by show 2+g.left+a.r∈s;rw[u];exact o);refine⟨aa,by rw[show ((a.l.toNat:Nat):Int)=a.l by omega];exact B,λ y z b c A=>?_⟩;have L:y=(k:Int):=vb hM z E c (by rw[Nz];exact m) (.inl aa);rw[L,Nz,m] at c;rw[<- NM c,u];exact o
 rintro w ⟨e,he,n,o⟩;have U:=d.edge e he;obtain⟨_,k1,X⟩:=key _ n;have hw:=edge e he (by rwa [show ((e.l.toNat:Nat):Int)=e.l by omega] at k1) λ y z b c A=>X y z b c aa;refine NE λ h=>q ?_;have H:=By d j.1 hl C (w:=w) aa aa h;exact pH j.1 D (o7 (g:=g) hl C (i:=w-1) aa) (by show f.getD (nl+g.edges.length+(w-1)) 0+1<=1;omega) (by show 3+g.left+((w-1:Nat):Int)∈s;rwa [show 3+g.left+((w-1:Nat):Int)=2+g.left+e.r by omega])
end
structure BD (g:Gr) (l sl sr:LI_):Prop where
 isl:fe g.left sl
 isr:fe g.right sr
 inl:∀ v:Nat,1<=v->(v:Int)<=g.left->((v:Int)∈sl↔¬ sX g l v)
 inr:∀ w:Nat,1<=w->(w:Int)<=g.right->((w:Int)∈sr↔rY g l w)
theorem CG{m:Int}{P:Nat->Prop}{s t:LI_}(b:fe m s)(c:fe m t)(d:∀ v:Nat,1<=v->(v:Int)<=m->((v:Int)∈s↔P v))(f:∀ v:Nat,1<=v->(v:Int)<=m->((v:Int)∈t↔P v)):s=t:=by
 refine CB b.rise c.rise λ x=>?_
 constructor
 ·intro a;have:=b.rng x a;have e:((x.toNat:Nat):Int)=x:=aa;have:=(d x.toNat aa aa).1 (by rw[e];exact a);have:=(f x.toNat aa aa).2 this
  rwa [e] at this
 ·intro a;have:=c.rng x a;have e:((x.toNat:Nat):Int)=x:=aa;have:=(f x.toNat aa aa).1 (by rw[e];exact a);have:=(d x.toNat aa aa).2 this
  rwa [e] at this
theorem BD.uniq{g:Gr}{l d e a b:LI_}(h:BD g l d e)(c:BD g l a b):d=a/\e=b:=
 ⟨CG h.isl c.isl h.inl c.inl,CG h.isr c.isr h.inr c.inr⟩
theorem yh{m:Int}{n:Nat}(hm:m=n){s:LI_}(h:fe m s):s.length<=n:=by
 have:=v7 s ((List.range n).map λ (i:Nat)=>((i:Int)+1)) h.nodup (λ x a=>by
  have:=h.rng x a;rw[NB];exact⟨(x-1).toNat,N4.2 aa,aa⟩)
 simpa using this
def Ma(g:Gr)(sg:Int)(v:Value)(H':Heap):Prop:=∃ (e:Int) (l sl sr:LI_) (A Al Ar:OA_) (c cl cr:Nat),nY g sg e l/\(e=0->ed g l/\(∀ w,rY g l w->vz g (·.r) l w)/\BD g l sl sr)/\(e≠0->sl=[]/\sr=[])/\sl.length<=200/\sr.length<=200/\l.length<=1500/\
 v=.tuple #[.slice A l.length c,FL sl sr Al Ar cl cr,.int .i64 e]/\H'=[.own (.slice A l.length c) 3 1 l.length (aj l),.own (.slice Al sl.length cl) 3 1 sl.length (aj sl),.own (.slice Ar sr.length cr) 3 1 sr.length (aj sr)]
theorem nY.good{g:Gr}(k:g.Fits){sg e:Int}{l:LI_}(h:nY g sg e l):l.length<=g.edges.length/\(e≠0->l=[])/\(e=0->g.Right/\ed g l/\∀ w,rY g l w->vz g (·.r) l w):=by
 rcases h with ⟨d,m,rfl,f,n,o,i,p,rfl⟩|⟨d,m,rfl,rfl⟩|⟨d,rfl,rfl⟩
 ·have c:=(iL k).1 d;have a:=c.left;have b:=c.right;have hl:g.left=(g.left.toNat:Nat):=aa;have j:g.right=(g.right.toNat:Nat):=aa;exact⟨pF _ _ _,λ h=>absurd rfl h,λ _=>⟨c,u6 c i.1 hl j,xP c i hl j⟩⟩
 ·exact⟨Nk _,λ _=>rfl,λ h=>absurd h ab⟩
 ·exact⟨Nk _,λ _=>rfl,λ h=>absurd h d⟩
theorem vu{g:Gr}(a:g.Fits){l:LI_}(hM:ed g l):∀ x∈l,b9 x:=λ x b=>by
 have:=hM.rng x b;have:=a.len;unfold b9;omega
theorem wx(sg:Int)(g:Gr)(q:g.Fits)(A:OA_)(c b o:Nat)(t:g.edges≠[]->A=some ⟨b,o,none⟩)(ps:Value):Fn 100 [ps,xj g A c,.int .u8 sg] [] [.seg b o (fL g.edges)] (Ma g sg):=by
 have C:=q.len;refine ie Tryz.func100 rfl rfl λ w0=>bA ?_;refine dh (cs:=rE g A c) λ F=>?_;refine iu ?_;refine dM λ p7=>?_;refine fR ?_;refine bh (v:=xj g A c) 1 ?_;refine az ?_;refine fh (Fp sg g q A c b o t) rfl ⟨bx 2 rfl,be⟩ ?_;rintro v H' ⟨e,l,i,j,hP,rfl,rfl⟩;obtain⟨D,k,d⟩:=hP.good q;refine cS ?_;refine ak rfl (λ f=>?_) (λ f=>ag ?_)
 ·obtain rfl:=k f;refine b6 3 1<|b6 3 1<|b6 3 1<|bA ?_;refine fv ?_;refine iu ?_;refine dz 4 ?_;refine lI ?_;refine⟨[_,_,_],[0,1,2],_,⟨rfl,⟨p7,4,_,_,rfl,rfl,rfl⟩,rfl,be⟩,ab,rfl,e,[],[],[],none,none,none,0,0,0,hP,λ h=>absurd h f,λ _=>gY,ai,ai,aa,rfl,rfl⟩
 have f:e=0:=Nn.1 f;subst f;obtain⟨r,hM,p⟩:=d rfl;refine aP (aH 0 rfl) λ ⟨_,_,a,s⟩=>?_;obtain⟨g1,a⟩:=bo a s;refine bA ?_;refine bh (v:=xj g A c) 2 ?_;refine az ?_;refine dB (LR g r A c b o t l aa (vu q hM) i j g1 0 (Gh a)) rfl ⟨bx 3 rfl,gy 0 rfl a,be⟩ ?_;rintro v H' (⟨_,_,u,x,y,Ar,z,cr,B,c2,c3,c4,rfl,rfl⟩|⟨_,⟨w,k1,E⟩,rfl,rfl⟩|⟨k1,rfl,rfl⟩)
 case inr.inl=>exact absurd (p w k1) E
 case inr.inr=>exact absurd hM k1
 refine rN ?_;refine dM λ p11=>?_;refine dz 0 ?_;refine iH ?_;refine bK 5 (dS [0,1,2]++[(3,false)]++dS [4]) [0] aW ab rfl<|a6 ?_;refine bc (v:=FL u x y Ar z cr) rfl (ad 0 rfl) ?_;refine jM ?_;refine dz 4 ?_;refine bZ [0]<|iA ?_;have H:=r.left;have I:=r.right;have K:=yh (m:=g.left) (n:=g.left.toNat) aa B;have L:=yh (m:=g.right) (n:=g.right.toNat) aa c2;refine bM<|⟨[_,_,_],[3,2,1],_,⟨rfl,⟨p7,4,_,_,rfl,rfl,rfl⟩,rfl,be⟩,ab,rfl,0,l,u,x,i,y,Ar,j,z,cr,hP,λ _=>⟨hM,p,⟨B,c2,c3,c4⟩⟩,λ h=>absurd rfl h,aa,aa,aa,rfl,rfl⟩
def j2(N:aR):Int:=2+(lT N.nodes:Nat)
def sJ(N:aR):Int:=20000*(N.nodes+N.arcs.length)*j2 N*j2 N
theorem wN{N:aR}(c:2<=N.nodes)(d:N.nodes<=500):3<=j2 N/\j2 N<=11:=by
 obtain⟨g1,g2,_⟩:=HO (n:=N.nodes) aa aa;unfold j2
 have a:lT N.nodes≠0:=by
  intro h;rw[h] at g1;simp at g1;omega
 have g3:=g2.resolve_left a
 have:lT N.nodes-1<9:=by
  refine Nat.lt_of_not_le λ b=>?_;have:2^9<=2^(lT N.nodes-1):=Nat.pow_le_pow_right ab b;omega
 omega
theorem ub{N:aR}(b:2<=N.nodes)(c:N.nodes<=500)(d:N.arcs.length<=2001):0<20000*(N.nodes+N.arcs.length)*j2 N/\20000*(N.nodes+N.arcs.length)*j2 N<=600000000/\0<sJ N/\sJ N<=6600000000:=by
 obtain⟨k1,a⟩:=wN b c;have m1:0<20000*(N.nodes+N.arcs.length)*j2 N:=Int.mul_pos aa aa;have m2:20000*(N.nodes+N.arcs.length)*j2 N<=50020000*11:=Int.mul_le_mul aa a aa aa;have m3:0<sJ N:=Int.mul_pos m1 aa;have m4:sJ N<=600000000*11:=Int.mul_le_mul aa a aa aa;omega
theorem JF(N:aR)(a:2<=N.nodes)(b:N.nodes<=500)(d:N.arcs.length<=2001)(A:OA_)(c:Nat):Fn 18 [cd N A c] [] [] λ v H'=>v=.int .i64 (sJ N)/\H'=[]:=by
 obtain⟨k1,e⟩:=wN a b;obtain⟨m1,m2,m3,m4⟩:=ub a b d;refine aT Tryz.func18 λ w0=>?_;refine bA ?_;refine dh (cs:=bY N A c) λ p=>?_;refine ew ?_;refine bh 0 ?_;refine cH (Lm N.nodes (by unfold b9;omega)) rfl be ?_;refine az ?_;refine aB 3 (v':=af (j2 N)) rfl (M8 (Value.int .i64) (cv (n:=2+(lT N.nodes:Nat)) (by unfold j2 at e;omega)))<|ah<|jh ?_;refine az ?_;refine bh 0 ?_;refine aN ?_;refine aL [] ⟨_,rfl,M8 (Value.int .i64) ?_,rfl⟩;rw[cv (n:=N.nodes+N.arcs.length) aa,cv (n:=20000*(N.nodes+N.arcs.length)) aa,cv (n:=20000*(N.nodes+N.arcs.length)*j2 N) aa,cv (by unfold sJ at m3 m4;omega)];rfl
theorem HS{a b:Int}(c:b9 a)(d:b9 b)(h:b9 (a*b)):Fn 37 [.int .i64 a,.int .i64 b] [] [] λ v H'=>v=.int .i64 (a*b)/\H'=[]:=by
 have T:=Lo c d;rw[zS h] at T;refine aT Tryz.func37 λ w0=>?_;refine cW ?_;refine cH (T) rfl be ?_;refine cS ?_;refine ak rfl (λ e=>absurd rfl e) (λ _=>ag ?_);refine ao ?_;exact j7
def lL(N:aR):Int:=(N.nodes-1)*sJ N
theorem rL{N:aR}(a:2<=N.nodes)(b:N.nodes<=500)(c:N.arcs.length<=2001):0<lL N/\lL N<=3300000000000:=by
 obtain⟨m1,m2,m3,m4⟩:=ub a b c;have d:0<lL N:=Int.mul_pos aa m3;have a2:lL N<=500*6600000000:=Int.mul_le_mul aa m4 aa aa;omega
theorem Gy(N:aR)(g:N.Fits)(A:OA_)(c b o:Nat)(i:N.arcs≠[]->A=some ⟨b,o,none⟩):Fn 15 [cd N A c] [] [.seg b o (arcs N.arcs)] λ v H'=>v=td (if dt N=0 then (lL N,0) else (0,dt N))/\H'=[]:=by
 refine aT Tryz.func15 λ w0=>?_;refine bA ?_;refine dh (cs:=bY N A c) λ p=>?_;refine fR ?_;refine bh (v:=cd N A c) 0 ?_;refine cH (nX N g A c b o i) rfl ⟨bx 1 rfl,be⟩ ?_;refine cS ?_;refine ak rfl (λ h=>?_) (λ h=>ag ?_)
 ·rw[if_neg h];exact jV
 have e:dt N=0:=Nn.1 h;have f:=lj e;have d:=f.nodes;have l:=f.len;rw[if_pos e];obtain⟨m1,m2,m3,m4⟩:=ub d.1 d.2 aa;obtain⟨j,k⟩:=rL d.1 d.2 aa;refine cA ?_;refine bK 8 (dS [0,1,2,3]++[(4,false),(5,false)]++dS [6,7]) [0] aW ab rfl<|i1 ?_;refine a6 ?_;refine dG 12 (v':=af (N.nodes-1)) rfl (M8 (Value.int .i64) (cv aa))<|bc (v:=cd N A c) rfl (ad 0 rfl) ?_;refine cz ?_;refine dB (JF N d.1 d.2 aa A c) rfl be ?_;refine jH ?_;refine⟨rfl,bZ [0] ?_⟩;refine cz ?_;refine dB (HS (a:=N.nodes-1) (b:=sJ N) (by unfold b9;omega) (by unfold b9;omega) (by unfold lL at j k;unfold b9;omega)) rfl be ?_;refine jH ?_;refine⟨rfl,bZ [0] ?_⟩;refine lh ?_;exact nE
def LK(v p k s b:Int):Value:=.agg #[.int .i64 v,.int .i64 p,.int .i64 k,.int .i64 s,.int .i64 b]
theorem I7(N:aR)(g:N.Fits)(d:N.Right)(A:OA_)(c b o:Nat)(i:N.arcs≠[]->A=some ⟨b,o,none⟩):Fn 14 [cd N A c] [] [.seg b o (arcs N.arcs)] λ v H'=>∃ (f:LI_) (p k s:Nat),Dn N 1 (List.replicate N.arcs.length 0) p k f/\(p:Int)+1<=N.nodes/\2*N.arcs.length*p<=s/\s<=i8 N.nodes.toNat N.arcs.length*p/\
 v=.tuple #[LK (dJ (N.arcs.zip f) N.snk) p k s (lL N),.int .i64 0]/\H'=[]:=by
 have w:=d.len;refine ie Tryz.func14 rfl rfl λ w0=>bA ?_;refine dh (cs:=bY N A c) λ z=>?_;refine dM λ x=>?_;refine fR ?_;refine bh (v:=cd N A c) 1 ?_;refine cH (Gy N g A c b o i) rfl ⟨bx 2 rfl,be⟩ ?_;rw[if_pos d.check];refine cS ?_;refine ak rfl (λ h=>absurd rfl h) (λ _=>ag ?_);refine bA ?_;refine bh (v:=cd N A c) 1 ?_;refine dB (xW N g d A c b o i 116 (.inr rfl)) rfl ⟨bx 2 rfl,be⟩ ?_;rintro v H' ⟨f,p,k,s,j,r,t,_,hp,_,l,m,rfl,rfl⟩;obtain⟨n,_⟩:=t.keeps d ab (iS N d);have y:=n.len;refine rN ?_;refine dM λ B=>?_;refine tT ?_;refine aP (aH 1 rfl) λ ⟨_,_,a,q⟩=>?_;obtain⟨u,a⟩:=bo a q;have e:f≠[]->j=aJ u 0:=λ h=>a (by simpa [aj] using h);refine bA ?_;refine sy ?_;refine bh (v:=.slice j f.length r) 0 ?_;refine dB (f8 N g d A c b o i f j r u 0 e (aD.inB d n.toRanged) aa) rfl ⟨bx 4 rfl,gy 1 rfl a,be⟩ ?_;rintro v H' ⟨⟨rfl,_⟩|⟨_,h⟩,rfl⟩
 case inr=>exact absurd n h
 refine ef ?_;refine aI ?_;refine bh (v:=af p) 0 ?_;refine az ?_;refine bh (v:=af k) 0 ?_;refine az ?_;refine bh (v:=af s) 0 ?_;refine az ?_;refine fv ?_;refine dz 2 ?_;refine lI ?_;exact⟨[_,_],[],_,⟨⟨x,2,_,_,rfl,rfl,rfl⟩,rfl,be⟩,ab,rfl,f,p,k,s,t,hp,l rfl,m,rfl,rfl⟩
open Lib
def sS(ws:Ws):Bool:=decide ((aS ws).2=0)
theorem gR{ws:Ws}(h:sS ws=true):(aS ws).2=0:=of_decide_eq_true h
theorem vc{ws:Ws}(h:sS ws=false):(aS ws).2≠0:=PV h
open Lib
abbrev bP:=LU_
structure c9 where
 N:aR
 f:LI_
 s:LI_
 a:Bool
 b:Bool
 d:Bool
def cO.sta(m:cO):c9:=⟨m.N,m.f,m.s,m.a,m.b,m.d⟩
def H7:c9:=⟨⟨0,0,0,[]⟩,[],[],false,false,false⟩
def c9.lack(q:c9)(l:LB_):Int:=if q.a=false then 9 else if ∀ c∈l,(bif c then q.d else q.b)=true then 0 else 8
structure c9.OK (q:c9):Prop where
 net:q.a=true->q.N.Right
 fin:∀ x∈q.f,b9 x
 sin:∀ x∈q.s,b9 x
 flen:q.f.length<=100000
 slen:q.s.length<=100000
theorem xv:H7.OK:=⟨λ h=>Bool.noConfusion h,λ _ h=>absurd h Nr,λ _ h=>absurd h Nr,ab,ab⟩
theorem c9.OK.ses{m:cO}(h:m.sta.OK):m.OK:=⟨h.net,h.fin,h.flen,h.slen⟩
theorem gZ{q:c9}{l:LB_}(h:q.lack l=0):q.a=true:=by
 cases b:q.a with
 |true=>rfl
 |false=>unfold c9.lack at h;rw[if_pos b] at h;exact absurd h ab
def nn:List bP:=[[111,107]]
def eH:List bP:=[[119,114,111,110,103]]
def xc:bP:=[101,114,114,111,114]
def jK:bP:=[118,97,108,117,101]
def j0(e:Int):List bP:=[gG xc [e]]
def cL(e:Int)(l:List bP):List bP:=if e≠0 then j0 e else l
open Classical in
noncomputable def c9.valZ(q:c9):Int×Int:=if q.lack [false]≠0 then (0,q.lack [false]) else if aD q.N q.f then (dJ (q.N.arcs.zip q.f) q.N.snk,0) else (0,eQ q.N q.f)
noncomputable def c9.checkZ(q:c9):Int:=if q.lack [false,true]≠0 then q.lack [false,true] else sT q.N q.f q.s
open Classical in
noncomputable def c9.repZ(q:c9):bP×Int:=if q.lack [false,true]≠0 then ([],q.lack [false,true]) else
 if aD q.N q.f then (if fQ q.N q.s then (s7 q.f q.s (dJ (q.N.arcs.zip q.f) q.N.snk) (jq q.s q.N.arcs),0) else ([],rr q.N q.s)) else ([],eQ q.N q.f)
def c9.printZ(q:c9):bP×Int:=if q.lack []≠0 then ([],q.lack []) else (jf q.N,0)
open Classical in
noncomputable def c9.itemsZ(q:c9):List It×Int:=if q.lack [false]≠0 then ([],q.lack [false]) else if aD q.N q.f then (r5 q.N q.f,0) else ([],eQ q.N q.f)
noncomputable def c9.itemsT(q:c9):List bP:=if q.itemsZ.2≠0 then j0 q.itemsZ.2 else cL (qS q.N q.itemsZ.1) (aK (Proofs.YtmcnpaelaieniaaGreatDoor.d8 q.N q.itemsZ.1))
def ut(N:aR)(v p k:Int):List bP:=[join [gG jK [v],gG [112,104,97,115,101,115] [p],gG [119,97,108,107,115] [k],gG [98,111,117,110,100] [lL N]] [32]]
def c9.countR(q:c9)(o:List bP):Prop:=(q.lack []≠0/\o=j0 (q.lack []))\/(q.lack []=0/\∃ (f:LI_) (p k:Nat),Dn q.N 1 (List.replicate q.N.arcs.length 0) p k f/\o=ut q.N (dJ (q.N.arcs.zip f) q.N.snk) p k)
def dZ:LI_->List np
 |a::b::l=>⟨a,b⟩::dZ l
 |_=>[]
def fX(l:LI_):Gr:=⟨l.getD 0 0,l.getD 1 0,dZ (l.drop 2)⟩
def ia(ws:Ws)(o:List bP):Prop:=
 if ws.length<3\/(ws.getD 0 []).length≠1\/(aS (ws.drop 1)).2≠0\/(aS (ws.drop 1)).1.length%2≠0 then o=eH else
 ∃ (e:Int) (l sl sr:LI_),nY (fX (aS (ws.drop 1)).1) (((ws.getD 0 []).getD 0 0).toNat:Int) e l/\(e=0->BD (fX (aS (ws.drop 1)).1) l sl sr)/\(e≠0->sl=[]/\sr=[])/\sl.length<=200/\sr.length<=200/\l.length<=1500/\
   o=cL e [gG [112,97,105,114,115] l,gG [108,101,102,116] sl,gG [114,105,103,104,116] sr]
def eJ(q:c9)(t:bP)(w:bP)(o:List bP)(q':c9)(t':bP):Prop:=
 if w=[108,111,97,100] then t'=[]/\(((cR t).2.2≠0/\q'=q/\o=[gG [108,105,110,101] [((cR t).2.1:Int)]++[32]++gG xc [(cR t).2.2]])\/((cR t).2.2=0/\q'=⟨(cR t).1,[],[],true,false,false⟩/\o=nn))
 else q'=q/\t'=t/\(
  if w=[99,104,101,99,107] then o=cL q.checkZ nn
  else if w=jK then o=cL q.valZ.2 [gG jK [q.valZ.1]]
  else if w=[105,116,101,109,115] then o=q.itemsT
  else if w=[114,101,112,111,114,116] then o=cL q.repZ.2 (aK q.repZ.1)
  else if w=[112,114,105,110,116] then o=cL q.printZ.2 (aK q.printZ.1)
  else if w=[99,111,117,110,116] then q.countR o
  else o=eH)
def ga(q:c9)(sg:Int)(o:List bP)(q':c9):Prop:=
 if q.lack []≠0 then q'=q/\o=j0 (q.lack []) else
 if sg=112\/sg=116\/sg=115 then ∃ f s:LI_,nG q.N sg f/\mq q.N f s/\q'=⟨q.N,f,s,q.a,true,true⟩/\o=[gG jK [dJ (q.N.arcs.zip f) q.N.snk]]
 else q'=q/\o=j0 1
def j8(q:c9)(l:LI_)(o:List bP)(q':c9):Prop:=
 if q.lack []≠0 then q'=q/\o=j0 (q.lack []) else if l.length≠q.N.arcs.length then q'=q/\o=j0 6 else q'=⟨q.N,l,q.s,q.a,true,q.d⟩/\o=nn
def kB(q:c9)(l:LI_)(o:List bP)(q':c9):Prop:=
 if q.lack []≠0 then q'=q/\o=j0 (q.lack []) else q'=⟨q.N,q.f,l,q.a,q.b,true⟩/\o=nn
def oo(line:bP):bP:=((line.dropWhile (·≠124)).drop 1).drop 1
def ql(q:c9)(t line:bP)(w:bP)(ws:Ws)(o:List bP)(q':c9)(t':bP):Prop:=
 if w=[124] then q'=q/\t'=t++(oo line++[10])/\o=[]
 else if w=[102,108,111,119] then t'=t/\(if (aS ws).2=0 then j8 q (aS ws).1 o q' else q'=q/\o=eH)
 else if w=[99,117,116] then t'=t/\(if (aS ws).2=0 then kB q (aS ws).1 o q' else q'=q/\o=eH)
 else if w=[115,111,108,118,101] then t'=t/\(if ws.length=1/\(ws.getD 0 []).length=1 then ga q (((ws.getD 0 []).getD 0 0).toNat:Int) o q' else q'=q/\o=eH)
 else if w=[112,97,105,114,115] then t'=t/\q'=q/\ia ws o
 else if ws=[] then eJ q t w o q' t' else q'=q/\t'=t/\o=eH
def dr(q:c9)(t line:bP)(o:List bP)(q':c9)(t':bP):Prop:=match bI line with
 |[]=>q'=q/\t'=t/\o=[]
 |w::ws=>if w.head?=some 35 then q'=q/\t'=t/\o=[] else ql q t line w ws o q' t'
def ka:c9->bP->List bP->List (List bP)->c9->bP->Prop
 |q,t,[],os,q',t'=>os=[]/\q'=q/\t'=t
 |q,t,l::ls,os,q',t'=>∃ o os1 q1 t1,dr q t l o q1 t1/\ka q1 t1 ls os1 q' t'/\os=o::os1
theorem r6:∀ {ls:List bP} {q:c9} {t:bP} {os:List (List bP)} {a:c9} {b:bP},ka q t ls os a b->os.length=ls.length
 |[],_,_,_,_,_,⟨rfl,_,_⟩=>rfl
 |l::ls,_,_,_,_,_,⟨o,c,d,t1,_,h,rfl⟩=>by rw[Nf,Nf,r6 h]
theorem wb:∀ {ls ms:List bP} {q:c9} {t:bP} {os:List (List bP)} {a:c9} {t1:bP} {ps:List (List bP)} {b:c9} {t2:bP},ka q t ls os a t1->ka a t1 ms ps b t2->ka q t (ls++ms) (os++ps) b t2
 |[],ms,_,_,_,_,_,_,_,_,⟨rfl,rfl,rfl⟩,h=>h
 |l::ls,ms,_,_,_,_,_,_,_,_,⟨o,c,a,t1,d,e,rfl⟩,h=>⟨o,_,a,t1,d,wb e h,rfl⟩
theorem uy{ls:List bP}{q:c9}{t:bP}{os:List (List bP)}{b:c9}{t1:bP}{l:bP}{o:List bP}{a:c9}{t2:bP}(h:ka q t ls os b t1)(c:dr b t1 l o a t2):ka q t (ls++[l]) (os++[o]) a t2:=
 wb h ⟨o,[],a,t2,c,⟨rfl,rfl,rfl⟩,rfl⟩
end Go.Proofs.YtmcnpaelaieniaaGreatDoor
