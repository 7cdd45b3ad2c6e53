import Derived.Test.YtmcnpaelaieniaaGreatDoorQF
/- A part of the proof. -/
set_option linter.unusedVariables false
set_option linter.unusedSimpArgs false
namespace Go.Proofs.YtmcnpaelaieniaaGreatDoor
open Go.RowKit
theorem ku{N:aR}{f:LI_}(a:f.length=N.arcs.length):(a9 (N.arcs.zip f)).length=2*N.arcs.length:=by
 rw[ee,O0,a,Pm]
theorem gJ{N:aR}(e:N.Right){f:LI_}(b:Ranged N f)(q:Nat):0<=(a9 (N.arcs.zip f)).getD q 0/\(a9 (N.arcs.zip f)).getD q 0<=4611686018427387903:=by
 by_cases g:q<2*N.arcs.length
 ·have c:=(mF b.len).1 b;obtain⟨ar,a⟩:∃ x,N.arcs[q/2]?=some x:=⟨N.arcs[q/2]'aa,List.getElem?_eq_getElem aa⟩;have h:f[q/2]?=some (f.getD (q/2) 0):=by rw[List.getD_eq_getElem?_getD,List.getElem?_eq_getElem (by have:=b.len;omega)];rfl
  obtain⟨g1,g2⟩:=eh (f6 a h);have j:=e.cap (M9 a);have k1:=c (2*(q/2)) aa;have d:=c (2*(q/2)+1) aa;have i:=c q g;rw[Nc,g1,NK] at k1;rw[Nc,g2,NK] at d;refine⟨i,?_⟩;simp only at k1 d
  rcases Pj q with hm|hm
  ·rw[show 2*(q/2)=q by omega] at g1;rw[Nc,g1,NK];simp only;omega
  ·rw[show 2*(q/2)+1=q by omega] at g2;rw[Nc,g2,NK];simp only;omega
 ·rw[Nc,NX (by rw[ku b.len];omega)];exact⟨Ov _,ab⟩
theorem kx{N:aR}(E:N.Right){L:Nat->LN_}{lv:Nat->Int}{least:Int}(u:gh N L lv)(hle:1<=least){rm:LI_}{pos W:LN_}{f:LI_}(H:aD N f)(he:rm=a9 (N.arcs.zip f))(m:PI N L least rm pos W)(b:dQ N W=N.snk.toNat):
 W≠[]/\(∀ r∈W,r<2*N.arcs.length)/\W.Nodup/\(∀ r∈W,∀ q∈W,cF r≠q)/\W.length<=N.nodes.toNat/\least<=dx rm W/\
 (∃ f',aD N f'/\df (dx rm W) W rm=a9 (N.arcs.zip f'))/\PI N L least (df (dx rm W) W rm) pos (W.take (rC least (df (dx rm W) W rm) W))/\
 (∀ v r,r∈L v->(df (dx rm W) W rm).getD r 0<=rm.getD r 0)/\∃ r v,r∈L v/\least<=rm.getD r 0/\(df (dx rm W) W rm).getD r 0<least:=by
 have c:=m.on;have I:=(qP u c m.mem).1;have M:=u.hi (dQ N W);have O:=u.hi N.src.toNat;rw[b] at c;have d:=uz u c m.mem;have w:∀ r∈W,r<2*N.arcs.length:=λ r n=>(u.ok _ _ (m.mem r n)).1;have e:∀ r∈W,least<=rm.getD r 0:=λ r n=>by obtain⟨_,_,_,h⟩:=m.head r n;exact h
 have o:W≠[]:=by
  intro P;have Q:=E.src;have R:=E.snk;have S:=E.diff;rw[P] at b;simp only[dQ,List.getLast?_nil] at b;omega
 obtain⟨z,g,A⟩:=nu (rm:=rm) o;have x:=e z g;rw[<- A] at x;obtain⟨a,s⟩:∃ a,a=dx rm W:=⟨_,rfl⟩;rw[<- s] at x A ⊢;have B:∀ r∈W,a<=rm.getD r 0:=λ r n=>s▸qC r n;obtain⟨k1,K,V⟩:=wI E H w d.1 c (by omega:0<=a) (he▸B);rw[<- he] at K;have F:rm.length=2*N.arcs.length:=by rw[he];exact ku H.len
 have t:=jp (a:=a) F w d.1
 have l:∀ v r,r∈L v->(df a W rm).getD r 0<=rm.getD r 0:=by
  intro v r n;rw[t]
  have:cF r∉W:=by
   intro y;have g1:=(u.ok _ _ n);have g2:=(u.ok _ _ (m.mem _ y)).2.2;have g3:=g1.2.2;rw[kP,iK] at g2;rw[<- g1.2.1] at g3;omega
  rw[if_neg this];split<;>omega
 refine⟨o,w,d.1,d.2,aa,x,⟨_,k1,K⟩,?_,l,z,_,m.mem z g,e z g,?_⟩
 ·refine⟨m.pl,wZ _ c,λ r n=>?_,λ v p hp j r U C=>?_⟩
  ·obtain⟨p,g1,g2,_⟩:=m.head r (List.mem_of_mem_take n);refine⟨p,g1,g2,?_⟩;obtain⟨i,hi,D⟩:=List.mem_iff_getElem.1 n;have G:i<rC least (df a W rm) W:=by rw[List.length_take] at hi;omega
   rw[PD] at D;have:=Py G;rw[D] at this
   simpa using this
  ·rcases m.pass v p hp j r U C with k|k
   ·exact .inl (by have:=l v r (M9 C);omega)
   ·exact .inr k
 ·rw[t,if_neg (λ y=>d.2 z g _ y rfl),if_pos g];omega
theorem PI.start{N:aR}{L:Nat->LN_}{least:Int}{rm:LI_}:PI N L least rm (List.replicate (N.nodes.toNat+1) 0) []:=by
 refine⟨ai,⟨_,rfl⟩,λ r a=>(by cases a),λ v p hp j r b=>?_⟩;rw[Nt] at hp;split at hp
 ·simp only[Na] at hp;omega
 ·cases hp
def qU(ls:LN_)(least:Int)(rm:LI_):Nat:=(ls.filter λ r=>decide (least<=rm.getD r 0)).length
theorem CX{least:Int}{rm rm':LI_}:∀ {ls:LN_},(∀ r∈ls,rm'.getD r 0<=rm.getD r 0)->qU ls least rm'<=qU ls least rm
 |[],_=>Np _
 |r::ls,h=>by
  have a:=CX (ls:=ls) (least:=least) λ q b=>h q (by simp[b]);have c:=h r ai;unfold qU at*;simp only[OJ,NW];split
  ·rw[if_pos aa];simp only[Nf];omega
  ·split
   ·simp only[Nf];omega
   ·exact a
theorem xf{least:Int}{rm rm':LI_}:∀ {ls:LN_},(∀ r∈ls,rm'.getD r 0<=rm.getD r 0)->∀ r∈ls,least<=rm.getD r 0->rm'.getD r 0<least->qU ls least rm'<qU ls least rm
 |[],_,_,h,_,_=>by cases h
 |q::ls,h,r,b,c,e=>by
  have hle:=CX (ls:=ls) (least:=least) λ q a=>h q (by simp[a]);have a:=h q ai;unfold qU at*;simp only[OJ,NW]
  rcases Nl.1 b with rfl|b
  ·rw[if_neg aa,if_pos c];simp only[Nf];omega
  ·have d:=xf (ls:=ls) (fun q a=>h q (by simp[a])) r b c e;unfold qU at d;split
   ·rw[if_pos aa];simp only[Nf];omega
   ·split
    ·simp only[Nf];omega
    ·exact d
def nf(N:aR)(least:Int)(f:LI_)(ws:List (LN_×Int))(f':LI_):Prop:=
 ∃ lv,fu N (a9 (N.arcs.zip f)) least lv/\aD N f'/\
   Bl N (fC N (dj N (a9 (N.arcs.zip f)) least lv (2*N.arcs.length))) least (a9 (N.arcs.zip f)) (List.replicate (N.nodes.toNat+1) 0) [] ws (a9 (N.arcs.zip f'))
theorem zk:∀ (ps:List (eq×Int)) (v:Int),(∀ p∈ps,0<=p.2/\p.2<=p.1.cap)→-((ps.map (·.1.cap)).sum)<=dJ ps v/\dJ ps v<=(ps.map (·.1.cap)).sum
 |[],_,_=>by simp[dJ]
 |p::ps,v,h=>by
  have a:=zk ps v λ q b=>h q (by simp[b]);have hp:=h p ai;simp only[dJ] at a;simp only[dJ,Ns,NC];split<;>split<;>omega
theorem GN{l:List eq}{f:LI_}(h:f.length=l.length):(l.zip f).map (·.1.cap)=l.map (·.cap):=by
 have a:(l.zip f).map (·.1)=l:=List.map_fst_zip aa;have e:(l.zip f).map (·.1.cap)=((l.zip f).map (·.1)).map (·.cap):=by rw[OD];rfl
 rw[e,a]
theorem dl{N:aR}(b:N.Right){f:LI_}(a:Ranged N f)(v:Int):-4611686018427387903<=dJ (N.arcs.zip f) v/\dJ (N.arcs.zip f) v<=4611686018427387903:=by
 have h:=zk (N.arcs.zip f) v a.all;rw[GN a.len] at h;have:=b.sum;omega
theorem xH{N:aR}{rm:LI_}{least:Int}{lv a:LI_}(h:fu N rm least lv)(b:fu N rm least a):∀ (k v:Nat),dF lv v=k->0<=dF a v/\dF a v<=k
 |0,v,c=>by rw[h.zero v (by simpa using c),b.src];simp
 |k+1,v,c=>by
  obtain⟨r,d,e,f,i⟩:=h.back v aa;have g:=xH h b k (eL N r) aa;have:=b.step r d e g.1;rw[f] at this;omega
theorem nL{N:aR}{rm:LI_}{least:Int}{lv a:LI_}(h:fu N rm least lv)(b:fu N rm least a)(v:Nat):dF lv v=dF a v:=by
 have d:=h.rng v;have f:=b.rng v;by_cases e:0<=dF lv v
 ·have k1:=xH h b (dF lv v).toNat v aa;have c:=xH b h (dF a v).toNat v aa;omega
 ·by_cases g:0<=dF a v
  ·have c:=xH b h (dF a v).toNat v aa;omega
  ·omega
theorem AZ{N:aR}{rm:LI_}{least:Int}{lv a:LI_}(h:fu N rm least lv)(b:fu N rm least a):lv=a:=by
 refine Pl (by rw[h.len,b.len]) λ i c d=>?_;have e:=xZ (an c);have f:=xZ (an d);rw[<- e,<- f];exact nL h b i
theorem K7{N:aR}{L:Nat->LN_}{least:Int}{rm rm':LI_}{pos W:LN_}(h:Bl N L least rm pos W [] rm'):rm'=rm:=by
 cases h;rfl
theorem zR{N:aR}{f g:LI_}(c:f.length=N.arcs.length)(d:g.length=N.arcs.length)(h:a9 (N.arcs.zip f)=a9 (N.arcs.zip g)):f=g:=by
 refine Pl aa λ i hi b=>?_;have a:N.arcs[i]?=some (N.arcs[i]'aa):=an _;have g1:=(eh (f6 a (an hi))).2;have g2:=(eh (f6 a (an b))).2;rw[h] at g1;rw[g1] at g2
 simpa using g2
theorem nf.keeps{N:aR}(j:N.Right){least:Int}(hle:1<=least){f f':LI_}{ws:List (LN_×Int)}(k:aD N f)(h:nf N least f ws f'){lv:LI_}(c:fu N (a9 (N.arcs.zip f)) least lv):
 aD N f'/\dJ (N.arcs.zip f) N.snk+least*ws.length<=dJ (N.arcs.zip f') N.snk/\(0<=dF lv N.snk.toNat->ws≠[]):=by
 obtain⟨d,a,b,g⟩:=h;obtain⟨f2,l,m,n,i,_⟩:=g.keeps j (km a) hle f k rfl PI.start;have o:f'=f2:=zR b.len l.len m;subst o;refine⟨b,n,λ p hw=>?_⟩;subst hw;have e:=K7 g;rw[e] at i;rw[nL c a] at p;exact i _ (FY a (dF d N.snk.toNat).toNat _ aa) rfl
inductive Dn (N:aR) (least:Int):LI_->Nat->Nat->LI_->Prop
 |stop {f lv:LI_}:fu N (a9 (N.arcs.zip f)) least lv->dF lv N.snk.toNat<0->Dn N least f 0 0 f
 |step {f f1 f' lv:LI_} {ws:List (LN_×Int)} {p k:Nat}:fu N (a9 (N.arcs.zip f)) least lv->0<=dF lv N.snk.toNat->nf N least f ws f1->Dn N least f1 p k f'->Dn N least f (p+1) (ws.length+k) f'
theorem Dn.keeps{N:aR}(d:N.Right){least:Int}(hle:1<=least){f f':LI_}{p k:Nat}(h:Dn N least f p k f'):aD N f->
 aD N f'/\dJ (N.arcs.zip f) N.snk+least*k<=dJ (N.arcs.zip f') N.snk/\p<=k/\∃ lv,fu N (a9 (N.arcs.zip f')) least lv/\dF lv N.snk.toNat<0:=by
 induction h with
 |stop a b=>exact λ c=>⟨c,ai,Np _,_,a,b⟩
 |@step f f1 f' lv ws p k a b e _ g=>
  intro c;obtain⟨k1,j,i⟩:=e.keeps d hle c a;obtain⟨g1,g2,g3,g4⟩:=g k1;have hw:=NP.2 (i b);refine⟨g1,?_,aa,g4⟩
  have:least*((ws.length+k:Nat):Int)=least*ws.length+least*k:=by
   rw[Pu,Int.mul_add]
  omega
theorem uQ{N:aR}{least:Int}{f lv:LI_}(a:Ranged N f)(h:fu N (a9 (N.arcs.zip f)) least lv)(c:dF lv N.snk.toNat<0):¬ tf N (a9 (N.arcs.zip f)) least N.snk:=λ b=>by
 have:=IZ h (by rw[ee,O0,a.len,Pm]) b;omega
def pO(N:aR)(f:LI_)(s:LI_):Prop:=∀ r,r<2*N.arcs.length->1<=(a9 (N.arcs.zip f)).getD r 0->(dg N r).1∈s->(dg N r).2∈s
open Classical in
noncomputable def nU(s:LI_)(ps:List (eq×Int)):LI_:=ps.map λ p=>(if p.1.fr∈s/\p.1.to∉s then p.1.cap-p.2 else 0)+(if p.1.fr∉s/\p.1.to∈s then p.2 else 0)
theorem oD(s:LI_):∀ ps:List (eq×Int),(nU s ps).sum=jq s (ps.map (·.1))-nF s ps
 |[]=>by simp[nU,jq,nF]
 |p::ps=>by
  have c:=oD s ps;unfold nU jq nF at*;refine tU ?_;by_cases a:p.1.fr∈s<;>by_cases b:p.1.to∈s<;>simp only[a,b,O8,PH,PJ,and_false,not_true,not_false_iff]<;>omega
theorem um:∀ (l:LI_),(∀ x∈l,0<=x)->(l.sum=0↔∀ x∈l,x=0)
 |[],_=>by simp
 |x::l,h=>by
  have b:=um l λ y a=>h y (by simp[a]);have c:=h x ai;have d:=ju l λ y a=>h y (by simp[a]);rw[NC]
  constructor
  ·intro e y a
   rcases Nl.1 a with rfl|a
   ·omega
   ·exact b.1 aa y a
  ·intro e;have g:=e x ai;have i:=b.2 λ y a=>e y (by simp[a]);omega
theorem xh{N:aR}{f s:LI_}(o:Ranged N f):pO N f s↔∀ x∈nU s (N.arcs.zip f),x=0:=by
 constructor
 ·intro h x q;obtain⟨p,hp,rfl⟩:=List.mem_map.1 q;obtain⟨i,hi,t⟩:=List.mem_iff_getElem.1 hp;have k:(N.arcs.zip f)[i]?=some p:=by rw[List.getElem?_eq_getElem hi,t]
  have g:=(NZ.1 k).1;have y:=(Nb.1 g).1;obtain⟨g1,g2⟩:=eh k;have z:=o.all p hp
  have A:dg N (2*i)=(p.1.fr,p.1.to):=by
   unfold dg;rw[show 2*i/2=i by omega,g];show d6 p.1 (2*i)=_;unfold d6;rw[if_neg aa]
  have B:dg N (2*i+1)=(p.1.to,p.1.fr):=by
   unfold dg;rw[show (2*i+1)/2=i by omega,g];show d6 p.1 (2*i+1)=_;unfold d6;rw[if_pos aa]
  have k1:=h (2*i) aa;have u:=h (2*i+1) aa;rw[A,Nc,g1,NK] at k1;rw[B,Nc,g2,NK] at u;simp only at k1 u
  have C:(if p.1.fr∈s/\p.1.to∉s then p.1.cap-p.2 else 0)=0:=by
   split
   ·rename_i d;have:¬ 1<=p.1.cap-p.2:=λ j=>d.2 (k1 j d.1);omega
   ·rfl
  have z2:(if p.1.fr∉s/\p.1.to∈s then p.2 else 0)=0:=by
   split
   ·rename_i d;have:¬ 1<=p.2:=λ j=>d.1 (u j d.2);omega
   ·rfl
  rw[C,z2];rfl
 ·intro h r z j b;obtain⟨a,g⟩:∃ a,N.arcs[r/2]?=some a:=⟨N.arcs[r/2]'aa,List.getElem?_eq_getElem aa⟩;have q:f[r/2]?=some (f.getD (r/2) 0):=by rw[List.getD_eq_getElem?_getD,List.getElem?_eq_getElem (by have:=o.len;omega)];rfl
  have k:=f6 g q;have m:=M9 k;obtain⟨g1,g2⟩:=eh k;have v:=o.all _ m;have w:=h _ (NB.2 ⟨_,m,rfl⟩);have he:dg N r=d6 a r:=by unfold dg;rw[g]
  rw[he] at b ⊢;simp only at g1 g2 v w;refine NE λ c=>?_;by_cases hm:r%2=1
  ·have e:d6 a r=(a.to,a.fr):=by unfold d6;rw[if_pos hm]
   rw[e] at b c;simp only at b c;rw[if_neg (λ d=>c d.1),if_pos ⟨c,b⟩] at w;rw[show 2*(r/2)+1=r by omega] at g2;rw[Nc,g2,NK] at j;omega
  ·have e:d6 a r=(a.fr,a.to):=by unfold d6;rw[if_neg hm]
   rw[e] at b c;simp only at b c;rw[if_pos ⟨b,c⟩,if_neg (λ d=>d.1 b)] at w;rw[show 2*(r/2)=r by omega] at g1;rw[Nc,g1,NK] at j;omega
theorem tH{N:aR}(b:N.Right){f:LI_}(a:aD N f){s:LI_}(c:fQ N s):jq s N.arcs=dJ (N.arcs.zip f) N.snk↔pO N f s:=by
 rw[xh a.toRanged,<- um,oD,oT b a c,show (N.arcs.zip f).map (·.1)=N.arcs from List.map_fst_zip (by have:=a.len;omega)]
 ·omega
 ·intro x d;obtain⟨p,hp,rfl⟩:=NB.1 d;have e:=a.all p hp;split<;>split<;>omega
theorem kI(l:LB_)(is:Bool):∀ k,(cp l is k).Pairwise (·<·)
 |0=>by simp[cp]
 |k+1=>by
  rw[oi];split
  ·refine rt (kI l is k) λ x a=>?_;obtain⟨v,b,_,_,rfl⟩:=jk.1 a;omega
  ·rw[NL];exact kI l is k
section
variable {N:aR} {f:LI_} {n:Nat} {l:LB_}
theorem lR(g:N.nodes=n)(a:∀ v:Nat,l[v]?=some true↔v<=n/\tf N (a9 (N.arcs.zip f)) 1 v){x:Int}:x∈cp l true (n+1)↔1<=x/\x<=N.nodes/\tf N (a9 (N.arcs.zip f)) 1 x:=by
 rw[jk]
 constructor
 ·rintro⟨v,c,d,b,rfl⟩;exact⟨aa,aa,((a v).1 b).2⟩
 ·rintro⟨c,d,b⟩;have e:((x.toNat:Nat):Int)=x:=aa;exact⟨x.toNat,aa,aa,(a _).2 ⟨aa,by rw[e];exact b⟩,e.symm⟩
theorem wA(g:N.Right)(k:aD N f)(b:N.nodes=n)(d:¬ tf N (a9 (N.arcs.zip f)) 1 N.snk)(a:∀ v:Nat,l[v]?=some true↔v<=n/\tf N (a9 (N.arcs.zip f)) 1 v):fQ N (cp l true (n+1))/\pO N f (cp l true (n+1)):=by
 have c:=g.src;refine⟨⟨kI _ _ _,λ x m=>?_,(lR b a).2 ⟨c.1,c.2,.src⟩,λ h=>d ((lR b a).1 h).2.2⟩,λ r i o e=>?_⟩
 ·have:=(lR b a).1 m;exact⟨this.1,this.2.1⟩
 ·have p:=(lR b a).1 e;have j:=jG g i;exact (lR b a).2 ⟨j.2.1,j.2.2,.step _ r p.2.2 (by rw[ee,O0,k.len,Pm];exact i) rfl o⟩
end
theorem CB:∀ {l m:LI_},l.Pairwise (·<·)->m.Pairwise (·<·)->(∀ x,x∈l↔x∈m)->l=m
 |[],[],_,_,_=>rfl
 |[],y::m,_,_,h=>by have:=(h y).2 ai;simp at this
 |x::l,[],_,_,h=>by have:=(h x).1 ai;simp at this
 |x::l,y::m,hl,hm,h=>by
  obtain⟨c,d⟩:=Ps.1 hl;obtain⟨m1,m2⟩:=Ps.1 hm
  have e:x=y:=by
   rcases Nl.1 ((h x).1 ai) with e|e
   ·exact e
   ·rcases Nl.1 ((h y).2 ai) with b|b
    ·exact b.symm
    ·have:=m1 x e;have:=c y b;omega
  subst e
  congr 1
  refine CB d m2 λ z=>⟨λ a=>?_,λ a=>?_⟩
  ·rcases List.mem_cons.1 ((h z).1 (by simp[a])) with e|e
   ·have:=c z a;omega
   ·exact e
  ·rcases List.mem_cons.1 ((h z).2 (by simp[a])) with e|e
   ·have:=m1 z a;omega
   ·exact e
theorem zf{N:aR}(b:N.Right){f s:LI_}(a:aD N f)(c:fQ N s):dJ (N.arcs.zip f) N.snk<=jq s N.arcs:=by
 have d:=oD s (N.arcs.zip f);rw[<- oT b a c,show (N.arcs.zip f).map (·.1)=N.arcs from List.map_fst_zip (by have:=a.len;omega)] at d
 have g:=ju (nU s (N.arcs.zip f)) λ x e=>by
  obtain⟨p,hp,rfl⟩:=NB.1 e;have h:=a.all p hp;split<;>split<;>omega
 omega
theorem aR.Right.fits'{N:aR}(h:N.Right):N.Fits:=by
 have c:=h.nodes;have d:=h.src;have e:=h.snk;have g:=h.len;refine⟨by unfold b9;omega,by unfold b9;omega,by unfold b9;omega,aa,λ a b=>?_⟩;have:=h.arc a b;have:=h.cap b;unfold b9;omega
end Go.Proofs.YtmcnpaelaieniaaGreatDoor
