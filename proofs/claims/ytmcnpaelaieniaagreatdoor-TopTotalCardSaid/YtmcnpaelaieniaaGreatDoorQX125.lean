import Derived.Test.YtmcnpaelaieniaaGreatDoorQX133
/- A part of the proof. -/
set_option linter.unusedVariables false
set_option linter.unusedSimpArgs false
set_option maxHeartbeats 8000000
namespace Go.Proofs.YtmcnpaelaieniaaGreatDoor
open Go.RowKit
theorem wK:∀ (l m:LI_),l.Nodup->(∀ x∈l,x∈m)->l.length<=m.length
 |[],_,_,_=>Nl _
 |x::l,m,i,b=>by
  have c:=NJ.1 i;have d:=b x ai
  have j:=wK l (m.erase x) c.2 λ y h=>by
   have a:y≠x:=λ e=>c.1 (by rw[<- e];exact h);rw[List.mem_erase_of_ne a];exact b y (by simp[h])
  rw[Po d] at j;have:0<m.length:=Pz d;rw[Nh];omega
section
variable {g:Gr} {l sl sr:LI_}
theorem fH.nodup{m:Int}{s:LI_}(h:fH m s):s.Nodup:=h.rise.imp λ h=>by omega
end
theorem pV{N:aV}{f s:LI_}(d:aD N f)(e:qx N f s){j:Nat}{a:ej}(b:N.arcs[j]?=some a)(h:f.getD j 0+1<=a.cap)(c:a.fr∈s):a.to∈s:=by
 have k:=(Ng.1 b).1;have hl:=d.len;have i:f[j]?=some (f.getD j 0):=by rw[Nf,be aa];rfl
 obtain⟨g1,_⟩:=eh (f8 b i)
 have he:df N (2*j)=(a.fr,a.to):=by
  unfold df;rw[show 2*j/2=j by omega,b];simp only;unfold ed;rw[if_neg aa]
 have:=e (2*j) aa (by rw[Nf,g1,NL];simp only;omega) (by rw[he];exact c)
 rwa [he] at this
theorem xY{N:aV}{f s:LI_}(d:aD N f)(e:qx N f s){j:Nat}{a:ej}(b:N.arcs[j]?=some a)(h:1<=f.getD j 0)(c:a.to∈s):a.fr∈s:=by
 have k:=(Ng.1 b).1;have hl:=d.len;have i:f[j]?=some (f.getD j 0):=by rw[Nf,be aa];rfl
 obtain⟨_,g2⟩:=eh (f8 b i)
 have he:df N (2*j+1)=(a.to,a.fr):=by
  unfold df;rw[show (2*j+1)/2=j by omega,b];simp only;unfold ed;rw[if_pos aa]
 have:=e (2*j+1) aa (by rw[Nf,g2,NL];exact h) (by rw[he];exact c)
 rwa [he] at this
section
variable {g:Gr} {nl nr:Nat} {f:LI_}
theorem En(o:g.Right)(q:aD (dP g) f)(hl:g.left=nl)(t:g.right=nr){v:Nat}(E:1<=v)(F:v<=nl)(r:¬ vy g (·.l) (dV f nl g.edges.length) v):f.getD (v-1) 0=0:=by
 have w:=o.left;have y:=o.right;have z:=q.kept (2+v) (by show 1<=2+(v:Int)/\2+(v:Int)<=2+g.left+g.right;omega) (by show 2+(v:Int)≠1;omega) (by show 2+(v:Int)≠2;omega);rw[mg] at z;obtain⟨z3,H,_⟩:=km q (oA (g:=g) hl (i:=v-1) aa)
 have A:(zV (2+v) ((dP g).arcs.zip f)).sum=f.getD (v-1) 0:=by
  rw[uK _ (v-1)]
  ·unfold zV;refine xN ?_;exact if_pos (by show 3+((v-1:Nat):Int)=2+v;omega)
  ·intro j x d B;unfold zV at d;rw[Nk] at d
   cases e:((dP g).arcs.zip f)[j]? with
   |none=>rw[e] at d;simp at d
   |some p=>
    rw[e] at d;simp only[Pe,Nc] at d;rw[<- d];refine if_neg λ a=>?_
    rcases lV hl t (lS e).1 with ⟨m,c⟩|⟨s,n,m,c,k⟩|⟨C,m,c,k⟩
    ·rw[c] at a;simp only at a;omega
    ·rw[k] at a;simp only at a;have:=o.edge n (Nb c);omega
    ·rw[k] at a;simp only at a;omega
 have u:(pm (2+v) ((dP g).arcs.zip f)).sum=0:=by
  refine nz _ λ x d=>?_;obtain⟨j,D,rfl⟩:=NV.1 d;have b:(pm (2+v) ((dP g).arcs.zip f))[j]?=some _:=be D;unfold pm at b;rw[Nk] at b
  cases e:((dP g).arcs.zip f)[j]? with
  |none=>rw[e] at b;simp at b
  |some p=>
   rw[e] at b;simp only[Pe,Nc] at b;unfold pm;rw[<- b];by_cases a:p.1.fr=2+v
   ·rw[if_pos a];obtain⟨g1,g2⟩:=lS e
    rcases lV hl t g1 with ⟨m,c⟩|⟨s,n,m,c,k⟩|⟨C,m,c,k⟩
    ·rw[c] at a;simp only at a;omega
    ·rw[k] at a;simp only at a;have hp:=q.all p (Nb e);refine NG λ I=>r ⟨s,gQ.2 ⟨s,(Ng.1 c).1,?_,rfl⟩,n,by rw[NA];exact c,by show n.l=_;omega⟩;rw[<- m,g2];omega
    ·rw[k] at a;simp only at a;omega
   ·exact if_neg a
 omega
theorem AQ(o:g.Right)(q:aD (dP g) f)(hl:g.left=nl)(s:g.right=nr){w:Nat}(F:1<=w)(H:w<=nr)(t:¬ vy g (·.r) (dV f nl g.edges.length) w):f.getD (nl+g.edges.length+(w-1)) 0=0:=by
 have y:=o.left;have z:=o.right;have A:=q.kept (2+g.left+w) (by show 1<=2+g.left+(w:Int)/\2+g.left+(w:Int)<=2+g.left+g.right;omega) (by show 2+g.left+(w:Int)≠1;omega) (by show 2+g.left+(w:Int)≠2;omega);rw[mg] at A;obtain⟨z3,I,_⟩:=km q (o5 (g:=g) hl s (i:=w-1) aa)
 have v:(pm (2+g.left+w) ((dP g).arcs.zip f)).sum=f.getD (nl+g.edges.length+(w-1)) 0:=by
  rw[uK _ (nl+g.edges.length+(w-1))]
  ·unfold pm;refine xN ?_;exact if_pos (by show 3+g.left+((w-1:Nat):Int)=2+g.left+w;omega)
  ·intro j x d B;unfold pm at d;rw[Nk] at d
   cases e:((dP g).arcs.zip f)[j]? with
   |none=>rw[e] at d;simp at d
   |some p=>
    rw[e] at d;simp only[Pe,Nc] at d;rw[<- d];refine if_neg λ a=>?_
    rcases lV hl s (lS e).1 with ⟨m,c⟩|⟨u,n,m,c,k⟩|⟨C,m,c,k⟩
    ·rw[c] at a;simp only at a;omega
    ·rw[k] at a;simp only at a;have:=o.edge n (Nb c);omega
    ·rw[k] at a;simp only at a;omega
 have D:(zV (2+g.left+w) ((dP g).arcs.zip f)).sum=0:=by
  refine nz _ λ x d=>?_;obtain⟨j,E,rfl⟩:=NV.1 d;have b:(zV (2+g.left+w) ((dP g).arcs.zip f))[j]?=some _:=be E;unfold zV at b;rw[Nk] at b
  cases e:((dP g).arcs.zip f)[j]? with
  |none=>rw[e] at b;simp at b
  |some p=>
   rw[e] at b;simp only[Pe,Nc] at b;unfold zV;rw[<- b];by_cases a:p.1.to=2+g.left+w
   ·rw[if_pos a];obtain⟨g1,g2⟩:=lS e
    rcases lV hl s g1 with ⟨m,c⟩|⟨u,n,m,c,k⟩|⟨C,m,c,k⟩
    ·rw[c] at a;simp only at a;omega
    ·rw[k] at a;simp only at a;have hp:=q.all p (Nb e);refine NG λ K=>t ⟨u,gQ.2 ⟨u,(Ng.1 c).1,?_,rfl⟩,n,by rw[NA];exact c,by show n.r=_;omega⟩;rw[<- m,g2];omega
    ·rw[k] at a;simp only at a;omega
   ·exact if_neg a
 omega
theorem wY(d:g.Right)(j:jy (dP g) f)(hl:g.left=nl)(C:g.right=nr):∀ w,rT g (dV f nl g.edges.length) w->vy g (·.r) (dV f nl g.edges.length) w:=by
 have P:=d.left;have Q:=d.right;have hM:=vd d j.1 hl C;obtain⟨s,M,D⟩:=CC (qf d) j;have p:(1:Int)∈s:=M.src;have q:(2:Int)∉s:=M.snk
 -- an edge out of a node that is come tz
 have edge:∀ e∈g.edges,2+e.l∈s->(∀ x∈dV f nl g.edges.length,∀ a,g.edges[x.toNat]?=some a->a.l=e.l->2+g.left+a.r∈s)->2+g.left+e.r∈s:=by
  intro e he F hp;obtain⟨k,G,rfl⟩:=NV.1 he;have t:g.edges[k]?=some g.edges[k]:=be G;by_cases H:0<f.getD (nl+k) 0
  ·exact hp k (gQ.2 ⟨k,G,H,rfl⟩) g.edges[k] (by rw[NA];exact t) rfl
  ·exact pV j.1 D (mb hl t) (by show f.getD (nl+k) 0+1<=1;omega) F
 have key:∀ v,td g (dV f nl g.edges.length) v->(1<=v/\v<=nl)/\2+(v:Int)∈s/\∀ x∈dV f nl g.edges.length,∀ a,g.edges[x.toNat]?=some a->a.l=v->2+g.left+a.r∈s:=by
  intro v R
  induction R with
  |free v N Y h=>
   refine⟨⟨N,aa⟩,?_,λ x E a m n=>absurd ⟨x,E,a,m,n⟩ h⟩;have H:=En d j.1 hl C N aa h;have:=pV j.1 D (oA (g:=g) hl (i:=v-1) aa) (by show f.getD (v-1) 0+1<=1;omega) p
   rwa [show (3:Int)+((v-1:Nat):Int)=2+v by omega] at this
  |step e a x _ he E m u S=>
   have U:=d.edge e he;have V:=d.edge a (Nb m);obtain⟨_,I,K⟩:=S;have o:=edge e he (by rwa [show ((e.l.toNat:Nat):Int)=e.l by omega] at I) λ y z b c A=>K y z b c aa;obtain⟨k,G,O,rfl⟩:=gQ.1 E;rw[NA] at m;have B:=xY j.1 D (mb hl m) aa (by show 2+g.left+a.r∈s;rw[u];exact o);refine⟨aa,by rw[show ((a.l.toNat:Nat):Int)=a.l by omega];exact B,λ y z b c A=>?_⟩;have L:y=(k:Int):=uz hM z E c (by rw[NA];exact m) (.inl aa);rw[L,NA,m] at c;rw[<- NK c,u];exact o
 rintro w ⟨e,he,n,o⟩;have U:=d.edge e he;obtain⟨_,k1,X⟩:=key _ n;have hw:=edge e he (by rwa [show ((e.l.toNat:Nat):Int)=e.l by omega] at k1) λ y z b c A=>X y z b c aa;refine NG λ h=>q ?_;have H:=AQ d j.1 hl C (w:=w) aa aa h;exact pV j.1 D (o5 (g:=g) hl C (i:=w-1) aa) (by show f.getD (nl+g.edges.length+(w-1)) 0+1<=1;omega) (by show 3+g.left+((w-1:Nat):Int)∈s;rwa [show 3+g.left+((w-1:Nat):Int)=2+g.left+e.r by omega])
end
structure JB (g:Gr) (l sl sr:LI_):Prop where
 isl:fH g.left sl
 isr:fH g.right sr
 inl:∀ v:Nat,1<=v->(v:Int)<=g.left->((v:Int)∈sl↔¬ td g l v)
 inr:∀ w:Nat,1<=w->(w:Int)<=g.right->((w:Int)∈sr↔rT g l w)
theorem yJ{m:Int}{n:Nat}(hm:m=n){s:LI_}(h:fH m s):s.length<=n:=by
 have:=wK s ((List.range n).map λ (i:Nat)=>((i:Int)+1)) h.nodup (λ x a=>by
  have:=h.rng x a;rw[NF];exact⟨(x-1).toNat,N8.2 aa,aa⟩)
 simpa using this
def Mo(g:Gr)(sg:Int)(v:Value)(H':Heap):Prop:=∃ (e:Int) (l sl sr:LI_) (A Al Ar:OA_) (c cl cr:Nat),sR g sg e l/\(e=0->d9 g l/\(∀ w,rT g l w->vy g (·.r) l w)/\JB g l sl sr)/\(e≠0->sl=[]/\sr=[])/\sl.length<=200/\sr.length<=200/\l.length<=1500/\
 v=.tuple #[.slice A l.length c,GH sl sr Al Ar cl cr,.int .i64 e]/\H'=[.own (.slice A l.length c) 3 1 l.length (aj l),.own (.slice Al sl.length cl) 3 1 sl.length (aj sl),.own (.slice Ar sr.length cr) 3 1 sr.length (aj sr)]
theorem sR.good{g:Gr}(k:g.Fits){sg e:Int}{l:LI_}(h:sR g sg e l):l.length<=g.edges.length/\(e≠0->l=[])/\(e=0->g.Right/\d9 g l/\∀ w,rT g l w->vy g (·.r) l w):=by
 rcases h with ⟨d,m,rfl,f,n,o,i,p,rfl⟩|⟨d,m,rfl,rfl⟩|⟨d,rfl,rfl⟩
 ·have c:=(j9 k).1 d;have a:=c.left;have b:=c.right;have hl:g.left=(g.left.toNat:Nat):=aa;have j:g.right=(g.right.toNat:Nat):=aa;exact⟨pJ _ _ _,λ h=>absurd rfl h,λ _=>⟨c,vd c i.1 hl j,wY c i hl j⟩⟩
 ·exact⟨Nl _,λ _=>rfl,λ h=>absurd h ab⟩
 ·exact⟨Nl _,λ _=>rfl,λ h=>absurd h d⟩
theorem vc{g:Gr}(a:g.Fits){l:LI_}(hM:d9 g l):∀ x∈l,b7 x:=λ x b=>by
 have:=hM.rng x b;have:=a.len;unfold b7;omega
theorem vR(sg:Int)(g:Gr)(q:g.Fits)(A:OA_)(c b o:Nat)(t:g.edges≠[]->A=some ⟨b,o,none⟩)(ps:Value):Fn 100 [ps,xQ g A c,.int .u8 sg] [] [.seg b o (fO g.edges)] (Mo g sg):=by
 have C:=q.len;refine ia Tryz.func100 rfl rfl λ w0=>bu ?_;refine cY (cs:=rL g A c) λ F=>?_;refine io ?_;refine dD λ p7=>?_;refine fP ?_;refine bj (v:=xQ g A c) 1 ?_;refine az ?_;refine eW (D8 sg g q A c b o t) rfl ⟨bz 2 rfl,an⟩ ?_;rintro v H' ⟨e,l,i,j,hP,rfl,rfl⟩;obtain⟨D,k,d⟩:=hP.good q;refine cR ?_;refine ak rfl (λ f=>?_) (λ f=>ag ?_)
 ·obtain rfl:=k f;refine bX 3 1<|bX 3 1<|bX 3 1<|bu ?_;refine fv ?_;refine io ?_;refine dE 4 ?_;refine lz ?_;refine⟨[_,_,_],[0,1,2],_,⟨rfl,⟨p7,4,_,_,rfl,rfl,rfl⟩,rfl,an⟩,ab,rfl,e,[],[],[],none,none,none,0,0,0,hP,λ h=>absurd h f,λ _=>ji,ai,ai,aa,rfl,rfl⟩
 have f:e=0:=No.1 f;subst f;obtain⟨r,hM,p⟩:=d rfl;refine aR (aH 0 rfl) λ ⟨_,_,a,s⟩=>?_;obtain⟨g1,a⟩:=bg a s;refine bu ?_;refine bj (v:=xQ g A c) 2 ?_;refine az ?_;refine dG (LE g r A c b o t l aa (vc q hM) i j g1 0 (HL a)) rfl ⟨bz 3 rfl,ff 0 rfl a,an⟩ ?_;rintro v H' (⟨_,_,u,x,y,Ar,z,cr,B,c2,c3,c4,rfl,rfl⟩|⟨_,⟨w,k1,E⟩,rfl,rfl⟩|⟨k1,rfl,rfl⟩)
 case inr.inl=>exact absurd (p w k1) E
 case inr.inr=>exact absurd hM k1
 refine rM ?_;refine dD λ p11=>?_;refine dE 0 ?_;refine ii ?_;refine bM 5 (dT [0,1,2]++[(3,false)]++dT [4]) [0] aX ab rfl<|a9 ?_;refine bh (v:=GH u x y Ar z cr) rfl (ad 0 rfl) ?_;refine jI ?_;refine dE 4 ?_;refine b6 [0]<|ir ?_;have H:=r.left;have I:=r.right;have K:=yJ (m:=g.left) (n:=g.left.toNat) aa B;have L:=yJ (m:=g.right) (n:=g.right.toNat) aa c2;refine bN<|⟨[_,_,_],[3,2,1],_,⟨rfl,⟨p7,4,_,_,rfl,rfl,rfl⟩,rfl,an⟩,ab,rfl,0,l,u,x,i,y,Ar,j,z,cr,hP,λ _=>⟨hM,p,⟨B,c2,c3,c4⟩⟩,λ h=>absurd rfl h,aa,aa,aa,rfl,rfl⟩
def jV(N:aV):Int:=2+(l3 N.nodes:Nat)
def s5(N:aV):Int:=20000*(N.nodes+N.arcs.length)*jV N*jV N
theorem wh{N:aV}(c:2<=N.nodes)(d:N.nodes<=500):3<=jV N/\jV N<=11:=by
 obtain⟨g1,g2,_⟩:=Hq (n:=N.nodes) aa aa;unfold jV
 have a:l3 N.nodes≠0:=by
  intro h;rw[h] at g1;simp at g1;omega
 have g3:=g2.resolve_left a
 have:l3 N.nodes-1<9:=by
  refine Nat.lt_of_not_le λ b=>?_;have:2^9<=2^(l3 N.nodes-1):=Nat.pow_le_pow_right ab b;omega
 omega
theorem vu{N:aV}(b:2<=N.nodes)(c:N.nodes<=500)(d:N.arcs.length<=2001):0<20000*(N.nodes+N.arcs.length)*jV N/\20000*(N.nodes+N.arcs.length)*jV N<=600000000/\0<s5 N/\s5 N<=6600000000:=by
 obtain⟨k1,a⟩:=wh b c;have m1:0<20000*(N.nodes+N.arcs.length)*jV N:=Int.mul_pos aa aa;have m2:20000*(N.nodes+N.arcs.length)*jV N<=50020000*11:=Int.mul_le_mul aa a aa aa;have m3:0<s5 N:=Int.mul_pos m1 aa;have m4:s5 N<=600000000*11:=Int.mul_le_mul aa a aa aa;omega
theorem Ku(N:aV)(a:2<=N.nodes)(b:N.nodes<=500)(d:N.arcs.length<=2001)(A:OA_)(c:Nat):Fn 18 [bZ N A c] [] [] λ v H'=>v=.int .i64 (s5 N)/\H'=[]:=by
 obtain⟨k1,e⟩:=wh a b;obtain⟨m1,m2,m3,m4⟩:=vu a b d;refine aT Tryz.func18 λ w0=>?_;refine bu ?_;refine cY (cs:=bU N A c) λ p=>?_;refine dQ ?_;refine bj 0 ?_;refine cj (LN N.nodes (by unfold b7;omega)) rfl an ?_;refine az ?_;refine aA 3 (v':=af (jV N)) rfl (Na (Value.int .i64) (cp (n:=2+(l3 N.nodes:Nat)) (by unfold jV at e;omega)))<|ah<|jh ?_;refine az ?_;refine bj 0 ?_;refine aN ?_;refine aM [] ⟨_,rfl,Na (Value.int .i64) ?_,rfl⟩;rw[cp (n:=N.nodes+N.arcs.length) aa,cp (n:=20000*(N.nodes+N.arcs.length)) aa,cp (n:=20000*(N.nodes+N.arcs.length)*jV N) aa,cp (by unfold s5 at m3 m4;omega)];rfl
theorem Gy{a b:Int}(c:b7 a)(d:b7 b)(h:b7 (a*b)):Fn 37 [.int .i64 a,.int .i64 b] [] [] λ v H'=>v=.int .i64 (a*b)/\H'=[]:=by
 have T:=Lf c d;rw[yo h] at T;refine aT Tryz.func37 λ w0=>?_;refine c9 ?_;refine cj (T) rfl an ?_;refine cR ?_;refine ak rfl (λ e=>absurd rfl e) (λ _=>ag ?_);refine ao ?_;exact j0
def lq(N:aV):Int:=(N.nodes-1)*s5 N
theorem r3{N:aV}(a:2<=N.nodes)(b:N.nodes<=500)(c:N.arcs.length<=2001):0<lq N/\lq N<=3300000000000:=by
 obtain⟨m1,m2,m3,m4⟩:=vu a b c;have d:0<lq N:=Int.mul_pos aa m3;have a2:lq N<=500*6600000000:=Int.mul_le_mul aa m4 aa aa;omega
theorem Fx(N:aV)(g:N.Fits)(A:OA_)(c b o:Nat)(i:N.arcs≠[]->A=some ⟨b,o,none⟩):Fn 15 [bZ N A c] [] [.seg b o (arcs N.arcs)] λ v H'=>v=tg (if de N=0 then (lq N,0) else (0,de N))/\H'=[]:=by
 refine aT Tryz.func15 λ w0=>?_;refine bu ?_;refine cY (cs:=bU N A c) λ p=>?_;refine fP ?_;refine bj (v:=bZ N A c) 0 ?_;refine cj (ox N g A c b o i) rfl ⟨bz 1 rfl,an⟩ ?_;refine cR ?_;refine ak rfl (λ h=>?_) (λ h=>ag ?_)
 ·rw[if_neg h];exact jS
 have e:de N=0:=No.1 h;have f:=iB e;have d:=f.nodes;have l:=f.len;rw[if_pos e];obtain⟨m1,m2,m3,m4⟩:=vu d.1 d.2 aa;obtain⟨j,k⟩:=r3 d.1 d.2 aa;refine cq ?_;refine bM 8 (dT [0,1,2,3]++[(4,false),(5,false)]++dT [6,7]) [0] aX ab rfl<|iH ?_;refine a9 ?_;refine dK 12 (v':=af (N.nodes-1)) rfl (Na (Value.int .i64) (cp aa))<|bh (v:=bZ N A c) rfl (ad 0 rfl) ?_;refine cz ?_;refine dG (Ku N d.1 d.2 aa A c) rfl an ?_;refine j2 ?_;refine⟨rfl,b6 [0] ?_⟩;refine cz ?_;refine dG (Gy (a:=N.nodes-1) (b:=s5 N) (by unfold b7;omega) (by unfold b7;omega) (by unfold lq at j k;unfold b7;omega)) rfl an ?_;refine j2 ?_;refine⟨rfl,b6 [0] ?_⟩;refine lo ?_;exact nU
def K3(v p k s b:Int):Value:=.agg #[.int .i64 v,.int .i64 p,.int .i64 k,.int .i64 s,.int .i64 b]
theorem IW(N:aV)(g:N.Fits)(d:N.Right)(A:OA_)(c b o:Nat)(i:N.arcs≠[]->A=some ⟨b,o,none⟩):Fn 14 [bZ N A c] [] [.seg b o (arcs N.arcs)] λ v H'=>∃ (f:LI_) (p k s:Nat),Dn N 1 (List.replicate N.arcs.length 0) p k f/\(p:Int)+1<=N.nodes/\2*N.arcs.length*p<=s/\s<=jd N.nodes.toNat N.arcs.length*p/\
 v=.tuple #[K3 (dH (N.arcs.zip f) N.snk) p k s (lq N),.int .i64 0]/\H'=[]:=by
 have w:=d.len;refine ia Tryz.func14 rfl rfl λ w0=>bu ?_;refine cY (cs:=bU N A c) λ z=>?_;refine dD λ x=>?_;refine fP ?_;refine bj (v:=bZ N A c) 1 ?_;refine cj (Fx N g A c b o i) rfl ⟨bz 2 rfl,an⟩ ?_;rw[if_pos d.check];refine cR ?_;refine ak rfl (λ h=>absurd rfl h) (λ _=>ag ?_);refine bu ?_;refine bj (v:=bZ N A c) 1 ?_;refine dG (xF N g d A c b o i 116 (.inr rfl)) rfl ⟨bz 2 rfl,an⟩ ?_;rintro v H' ⟨f,p,k,s,j,r,t,_,hp,_,l,m,rfl,rfl⟩;obtain⟨n,_⟩:=t.keeps d ab (iV N d);have y:=n.len;refine rM ?_;refine dD λ B=>?_;refine nZ ?_;refine aR (aH 1 rfl) λ ⟨_,_,a,q⟩=>?_;obtain⟨u,a⟩:=bg a q;have e:f≠[]->j=aL u 0:=λ h=>a (by simpa [aj] using h);refine bu ?_;refine qa ?_;refine bj (v:=.slice j f.length r) 0 ?_;refine dG (f9 N g d A c b o i f j r u 0 e (aD.inB d n.toRanged) aa) rfl ⟨bz 4 rfl,ff 1 rfl a,an⟩ ?_;rintro v H' ⟨⟨rfl,_⟩|⟨_,h⟩,rfl⟩
 case inr=>exact absurd n h
 refine ec ?_;refine aI ?_;refine bj (v:=af p) 0 ?_;refine az ?_;refine bj (v:=af k) 0 ?_;refine az ?_;refine bj (v:=af s) 0 ?_;refine az ?_;refine fv ?_;refine dE 2 ?_;refine lz ?_;exact⟨[_,_],[],_,⟨⟨x,2,_,_,rfl,rfl,rfl⟩,rfl,an⟩,ab,rfl,f,p,k,s,t,hp,l rfl,m,rfl,rfl⟩
open Lib
def i7(ws:Ws):Bool:=decide ((aJ ws).2=0)
theorem gV{ws:Ws}(h:i7 ws=true):(aJ ws).2=0:=of_decide_eq_true h
theorem uj{ws:Ws}(h:i7 ws=false):(aJ ws).2≠0:=PX h
theorem y4(V:LibV)(ws:List (LU_))(hw:∀ x∈ws,x.length<=10000000)(I:ws.length<=10000000)(B:OA_)(n r g i:Nat)(t:ws≠[]->B=some ⟨g,i,none⟩)(l:n=ws.length):
 Fn 58 [.slice B n r] [] ([.seg g i (cv ws)]++V.heap) λ v H'=>∃ (A:OA_) (c:Nat),v=.tuple #[.slice A (aJ ws).1.length c,.bool (i7 ws)]/\H'=[.own (.slice A (aJ ws).1.length c) 2 1 (aJ ws).1.length (aj (aJ ws).1)]:=by
 subst l;refine aT Tryz.func58 λ w0=>?_;refine ja ?_;refine ao ?_;refine bX 2 1<|gK ?_
 refine bP (σ:=Nat×OA_×Nat) (λ s=>[(11,af s.1),(10,af ws.length),(9,.slice B ws.length r),(4,.slice s.2.1 ((ws.take s.1).map λ w=>(dA w).1).length s.2.2)]) (λ s=>[.own (.slice s.2.1 ((ws.take s.1).map λ w=>(dA w).1).length s.2.2) 2 1 ((ws.take s.1).map λ w=>(dA w).1).length (aj ((ws.take s.1).map λ w=>(dA w).1)),.seg g i (cv ws)]++V.heap)
  (λ s=>s.1<=ws.length/\∀ j x,j<s.1->ws[j]?=some x->(dA x).2=0) (λ s=>ws.length-s.1) (0,none,0) [0,1,2,3,4] a7 ab rfl ⟨Nl _,λ j x h=>by omega⟩ ?_
 rintro⟨k,A,c⟩ ⟨u,a⟩;simp only at u a ⊢;have C:((ws.take k).map λ w=>(dA w).1).length=k:=by rw[Nm,NE];omega
 refine ao ?_;refine am (ak rfl (λ D=>ag ?_) (λ E=>aO ?_))
 ·have hlt':k<ws.length:=by omega
  obtain⟨x,hx⟩:∃ x,ws[k]?=some x:=⟨ws[k],be hlt'⟩;obtain rfl:=t (by rintro rfl;simp at hlt');have F:=hw x (Nb hx);refine am (aq ?_);refine GW ?_;refine ak rfl (λ he=>?_) (λ he=>ag ?_)
  ·have b:=oJ hx a he;refine ao ?_;refine bX 2 1<|aM [0] ⟨_,rfl,none,0,?_,?_⟩
   ·rw[b,show i7 ws=false from OB (by rw[b];exact he)];rfl
   ·rw[b];rfl
  ·have o:(dA x).2=0:=Classical.not_not.1 he;have e:(ws.take (k+1)).map (fun w=>(dA w).1)=(ws.take k).map (fun w=>(dA w).1)++[(dA x).1]:=by rw[List.take_add_one,hx];simp
   refine aI ?_;refine dp λ g2=>?_;refine bx (n:=((ws.take k).map λ w=>(dA w).1).length) (m:=1) (off:=0) (news:=aj [(dA x).1]) 1 0 rfl rfl rfl rfl rfl rfl ab rfl rfl (aS g2 _ _ (0,0)) aK rfl rfl aa aa (λ _ _=>rfl) λ H c3=>cR ?_;refine⟨(k+1,H,c3),[1,2,3,4,5],⟨?_,rfl,rfl,?_,an⟩,ab,?_,⟨by simp only;omega,λ j y f p=>?_⟩,by simp only;omega⟩
   ·exact Na (λ z=>some (af z)) (cp aa)
   ·simp only[e];rw[Nj];rfl
   ·simp only[e];rw[Nj,show aj ((ws.take k).map (λ w=>(dA w).1)++[(dA x).1])=aj ((ws.take k).map λ w=>(dA w).1)++aj [(dA x).1] by simp[aj]];rfl
   ·rcases Pb (Nat.le_of_lt_succ f) with h|rfl
    ·exact a j y h p
    ·rw[hx] at p;rw[<- NK p];exact o
 obtain rfl:k=ws.length:=aa;rw[NH] at*
 have d:=rr (ws:=ws) λ w q=>by
  obtain⟨j,f⟩:=On.1 q;exact a j w (Ng.1 f).1 f
 refine ao ?_;refine aM [0] ⟨_,rfl,A,c,?_,?_⟩
 ·rw[d,show i7 ws=true from OR (by rw[d])];rfl
 ·rw[d]
def lf(n:Nat)(q:LI_×LI_)(h:LU_)(t:Ws):LI_×LI_:=
 if h=[102]/\i7 t=true/\(aJ t).1.length=2/\1<=(aJ t).1.getD 0 0/\(aJ t).1.getD 0 0<=n then (q.1.set ((aJ t).1.getD 0 0-1).toNat ((aJ t).1.getD 1 0),q.2)
 else if h=[120]/\i7 t=true/\(aJ t).1.length=1 then (q.1,q.2++[(aJ t).1.getD 0 0]) else q
def nH(n:Nat)(q:LI_×LI_):List Ws->Option (LI_×LI_)
 |[]=>some q
 |[]::_=>none
 |(h::t)::r=>nH n (lf n q h t) r
theorem rS{n:Nat}:∀ (a b:List Ws) (q:LI_×LI_),nH n q (a++b)=match nH n q a with|some c=>nH n c b|none=>none
 |[],b,q=>rfl
 |[]::a,b,q=>rfl
 |(h::t)::a,b,q=>by
  show nH n (lf n q h t) (a++b)=_;rw[rS a b];rfl
theorem GZ{n:Nat}{q:LI_×LI_}{h:LU_}{t:Ws}(b:∀ x∈q.1,b7 x)(c:∀ x∈q.2,b7 x):(∀ x∈(lf n q h t).1,b7 x)/\(∀ x∈(lf n q h t).2,b7 x)/\(lf n q h t).1.length=q.1.length/\(lf n q h t).2.length<=q.2.length+1:=by
 have d:∀ i,b7 ((aJ t).1.getD i 0):=λ i=>by
  rw[Nf]
  cases a:(aJ t).1[i]? with
  |none=>unfold b7;show _<=(0:Int)/\(0:Int)<=_;omega
  |some x=>exact kZ x (Nb a)
 unfold lf;split
 ·refine⟨fun x a=>?_,c,by rw[List.length_set],Nat.le_succ _⟩
  rcases List.mem_or_eq_of_mem_set a with a|rfl
  ·exact b x a
  ·exact d 1
 ·split
  ·refine⟨b,λ x a=>?_,rfl,ai⟩
   rcases Np.1 a with a|a
   ·exact c x a
   ·rw[Ni.1 a];exact d 0
  ·exact⟨b,c,rfl,Nat.le_succ _⟩
def HJ(N:aV)(l:LU_)(f s:LI_):Prop:=nH N.arcs.length (List.replicate N.arcs.length 0,[]) ((aB l).map bB)=some (f,s)/\aD N f/\fm N s/\po f s (dH (N.arcs.zip f) N.snk) (iw s N.arcs)=l
def I8(N:aV)(l:LU_)(v:Value)(H':Heap):Prop:=
 (∃ (f s:LI_) (A B:OA_) (c d:Nat),HJ N l f s/\v=.tuple #[.slice A f.length c,.slice B s.length d,.int .i64 0]/\H'=[.own (.slice A f.length c) 2 1 f.length (aj f),.own (.slice B s.length d) 3 1 s.length (aj s)])\/
 ((¬ ∃ f s,HJ N l f s)/\v=.tuple #[.slice none 0 0,.slice none 0 0,.int .i64 2]/\H'=[])
open Lib
abbrev cP:=LU_
structure du where
 N:aV
 f:LI_
 s:LI_
 a:Bool
 b:Bool
 d:Bool
def cO.sta(m:cO):du:=⟨m.N,m.f,m.s,m.a,m.b,m.d⟩
def D5:du:=⟨⟨0,0,0,[]⟩,[],[],false,false,false⟩
def du.lack(q:du)(l:LB_):Int:=if q.a=false then 9 else if ∀ c∈l,(bif c then q.d else q.b)=true then 0 else 8
structure du.OK (q:du):Prop where
 net:q.a=true->q.N.Right
 fin:∀ x∈q.f,b7 x
 sin:∀ x∈q.s,b7 x
 flen:q.f.length<=100000
 slen:q.s.length<=100000
theorem Cy:D5.OK:=⟨λ h=>Bool.noConfusion h,λ _ h=>absurd h Nt,λ _ h=>absurd h Nt,ab,ab⟩
theorem du.OK.ses{m:cO}(h:m.sta.OK):m.OK:=⟨h.net,h.fin,h.flen,h.slen⟩
theorem iT{q:du}{l:LB_}(h:q.lack l=0):q.a=true:=by
 cases b:q.a with
 |true=>rfl
 |false=>unfold du.lack at h;rw[if_pos b] at h;exact absurd h ab
def nj:List cP:=[[111,107]]
def eL:List cP:=[[119,114,111,110,103]]
def xc:cP:=[101,114,114,111,114]
def kz:cP:=[118,97,108,117,101]
def jX(e:Int):List cP:=[gD xc [e]]
def cG(e:Int)(l:List cP):List cP:=if e≠0 then jX e else l
open Classical in
noncomputable def du.valZ(q:du):Int×Int:=if q.lack [false]≠0 then (0,q.lack [false]) else if aD q.N q.f then (dH (q.N.arcs.zip q.f) q.N.snk,0) else (0,eP q.N q.f)
noncomputable def du.checkZ(q:du):Int:=if q.lack [false,true]≠0 then q.lack [false,true] else sU q.N q.f q.s
open Classical in
noncomputable def du.repZ(q:du):cP×Int:=if q.lack [false,true]≠0 then ([],q.lack [false,true]) else
 if aD q.N q.f then (if fm q.N q.s then (po q.f q.s (dH (q.N.arcs.zip q.f) q.N.snk) (iw q.s q.N.arcs),0) else ([],qV q.N q.s)) else ([],eP q.N q.f)
def du.printZ(q:du):cP×Int:=if q.lack []≠0 then ([],q.lack []) else (iu q.N,0)
open Classical in
noncomputable def du.itemsZ(q:du):List It×Int:=if q.lack [false]≠0 then ([],q.lack [false]) else if aD q.N q.f then (pP q.N q.f,0) else ([],eP q.N q.f)
noncomputable def du.itemsT(q:du):List cP:=if q.itemsZ.2≠0 then jX q.itemsZ.2 else cG (qp q.N q.itemsZ.1) (aB (Proofs.YtmcnpaelaieniaaGreatDoor.dU q.N q.itemsZ.1))
def uM(N:aV)(v p k:Int):List cP:=[join [gD kz [v],gD [112,104,97,115,101,115] [p],gD [119,97,108,107,115] [k],gD [98,111,117,110,100] [lq N]] [32]]
def du.countR(q:du)(o:List cP):Prop:=(q.lack []≠0/\o=jX (q.lack []))\/(q.lack []=0/\∃ (f:LI_) (p k:Nat),Dn q.N 1 (List.replicate q.N.arcs.length 0) p k f/\o=uM q.N (dH (q.N.arcs.zip f) q.N.snk) p k)
def d6:LI_->List ni
 |a::b::l=>⟨a,b⟩::d6 l
 |_=>[]
def gh(l:LI_):Gr:=⟨l.getD 0 0,l.getD 1 0,d6 (l.drop 2)⟩
def kK(ws:Ws)(o:List cP):Prop:=
 if ws.length<3\/(ws.getD 0 []).length≠1\/(aJ (ws.drop 1)).2≠0\/(aJ (ws.drop 1)).1.length%2≠0 then o=eL else
 ∃ (e:Int) (l sl sr:LI_),sR (gh (aJ (ws.drop 1)).1) (((ws.getD 0 []).getD 0 0).toNat:Int) e l/\(e=0->JB (gh (aJ (ws.drop 1)).1) l sl sr)/\(e≠0->sl=[]/\sr=[])/\sl.length<=200/\sr.length<=200/\l.length<=1500/\
   o=cG e [gD [112,97,105,114,115] l,gD [108,101,102,116] sl,gD [114,105,103,104,116] sr]
def fU(q:du)(t:cP)(w:cP)(o:List cP)(q':du)(t':cP):Prop:=
 if w=[108,111,97,100] then t'=[]/\(((cN t).2.2≠0/\q'=q/\o=[gD [108,105,110,101] [((cN t).2.1:Int)]++[32]++gD xc [(cN t).2.2]])\/((cN t).2.2=0/\q'=⟨(cN t).1,[],[],true,false,false⟩/\o=nj))
 else q'=q/\t'=t/\(
  if w=[99,104,101,99,107] then o=cG q.checkZ nj
  else if w=kz then o=cG q.valZ.2 [gD kz [q.valZ.1]]
  else if w=[105,116,101,109,115] then o=q.itemsT
  else if w=[114,101,112,111,114,116] then o=cG q.repZ.2 (aB q.repZ.1)
  else if w=[112,114,105,110,116] then o=cG q.printZ.2 (aB q.printZ.1)
  else if w=[99,111,117,110,116] then q.countR o
  else o=eL)
def jl(q:du)(sg:Int)(o:List cP)(q':du):Prop:=
 if q.lack []≠0 then q'=q/\o=jX (q.lack []) else
 if sg=112\/sg=116\/sg=115 then ∃ f s:LI_,ue q.N sg f/\sx q.N f s/\q'=⟨q.N,f,s,q.a,true,true⟩/\o=[gD kz [dH (q.N.arcs.zip f) q.N.snk]]
 else q'=q/\o=jX 1
def nC(q:du)(l:LI_)(o:List cP)(q':du):Prop:=
 if q.lack []≠0 then q'=q/\o=jX (q.lack []) else if l.length≠q.N.arcs.length then q'=q/\o=jX 6 else q'=⟨q.N,l,q.s,q.a,true,q.d⟩/\o=nj
def pL(q:du)(l:LI_)(o:List cP)(q':du):Prop:=
 if q.lack []≠0 then q'=q/\o=jX (q.lack []) else q'=⟨q.N,q.f,l,q.a,q.b,true⟩/\o=nj
def nX(line:cP):cP:=((line.dropWhile (·≠124)).drop 1).drop 1
def th(q:du)(t line:cP)(w:cP)(ws:Ws)(o:List cP)(q':du)(t':cP):Prop:=
 if w=[124] then q'=q/\t'=t++(nX line++[10])/\o=[]
 else if w=[102,108,111,119] then t'=t/\(if (aJ ws).2=0 then nC q (aJ ws).1 o q' else q'=q/\o=eL)
 else if w=[99,117,116] then t'=t/\(if (aJ ws).2=0 then pL q (aJ ws).1 o q' else q'=q/\o=eL)
 else if w=[115,111,108,118,101] then t'=t/\(if ws.length=1/\(ws.getD 0 []).length=1 then jl q (((ws.getD 0 []).getD 0 0).toNat:Int) o q' else q'=q/\o=eL)
 else if w=[112,97,105,114,115] then t'=t/\q'=q/\kK ws o
 else if ws=[] then fU q t w o q' t' else q'=q/\t'=t/\o=eL
def ez(q:du)(t line:cP)(o:List cP)(q':du)(t':cP):Prop:=match bB line with
 |[]=>q'=q/\t'=t/\o=[]
 |w::ws=>if w.head?=some 35 then q'=q/\t'=t/\o=[] else th q t line w ws o q' t'
def jY:du->cP->List cP->List (List cP)->du->cP->Prop
 |q,t,[],os,q',t'=>os=[]/\q'=q/\t'=t
 |q,t,l::ls,os,q',t'=>∃ o os1 q1 t1,ez q t l o q1 t1/\jY q1 t1 ls os1 q' t'/\os=o::os1
theorem wE:∀ {ls:List cP} {q:du} {t:cP} {os:List (List cP)} {a:du} {b:cP},jY q t ls os a b->os.length=ls.length
 |[],_,_,_,_,_,⟨rfl,_,_⟩=>rfl
 |l::ls,_,_,_,_,_,⟨o,c,d,t1,_,h,rfl⟩=>by rw[Nh,Nh,wE h]
theorem vX:∀ {ls ms:List cP} {q:du} {t:cP} {os:List (List cP)} {a:du} {t1:cP} {ps:List (List cP)} {b:du} {t2:cP},jY q t ls os a t1->jY a t1 ms ps b t2->jY q t (ls++ms) (os++ps) b t2
 |[],ms,_,_,_,_,_,_,_,_,⟨rfl,rfl,rfl⟩,h=>h
 |l::ls,ms,_,_,_,_,_,_,_,_,⟨o,c,a,t1,d,e,rfl⟩,h=>⟨o,_,a,t1,d,vX e h,rfl⟩
theorem ul{ls:List cP}{q:du}{t:cP}{os:List (List cP)}{b:du}{t1:cP}{l:cP}{o:List cP}{a:du}{t2:cP}(h:jY q t ls os b t1)(c:ez b t1 l o a t2):jY q t (ls++[l]) (os++[o]) a t2:=
 vX h ⟨o,[],a,t2,c,⟨rfl,rfl,rfl⟩,rfl⟩
end Go.Proofs.YtmcnpaelaieniaaGreatDoor
