import Derived.Test.YtmcnpaelaieniaaGreatDoorQF
/- A part of the proof. -/
set_option linter.unusedVariables false
set_option linter.unusedSimpArgs false
namespace Go.Proofs.YtmcnpaelaieniaaGreatDoor
open Go.RowKit
theorem kg{N:aV}{f:LI_}(a:f.length=N.arcs.length):(bc (N.arcs.zip f)).length=2*N.arcs.length:=by
 rw[d8,O0,a,Pn]
theorem gC{N:aV}(e:N.Right){f:LI_}(b:Ranged N f)(q:Nat):0<=(bc (N.arcs.zip f)).getD q 0/\(bc (N.arcs.zip f)).getD q 0<=4611686018427387903:=by
 by_cases g:q<2*N.arcs.length
 ·have c:=(mE b.len).1 b;obtain⟨ar,a⟩:∃ x,N.arcs[q/2]?=some x:=⟨N.arcs[q/2]'aa,List.getElem?_eq_getElem aa⟩;have h:f[q/2]?=some (f.getD (q/2) 0):=by rw[List.getD_eq_getElem?_getD,List.getElem?_eq_getElem (by have:=b.len;omega)];rfl
  obtain⟨g1,g2⟩:=eh (f8 a h);have j:=e.cap (Nb a);have k1:=c (2*(q/2)) aa;have d:=c (2*(q/2)+1) aa;have i:=c q g;rw[Nf,g1,NL] at k1;rw[Nf,g2,NL] at d;refine⟨i,?_⟩;simp only at k1 d
  rcases Pj q with hm|hm
  ·rw[show 2*(q/2)=q by omega] at g1;rw[Nf,g1,NL];simp only;omega
  ·rw[show 2*(q/2)+1=q by omega] at g2;rw[Nf,g2,NL];simp only;omega
 ·rw[Nf,N4 (by rw[kg b.len];omega)];exact⟨Ox _,ab⟩
theorem kH{N:aV}(E:N.Right){L:Nat->LN_}{lv:Nat->Int}{least:Int}(u:gp N L lv)(hle:1<=least){rm:LI_}{pos W:LN_}{f:LI_}(H:aD N f)(he:rm=bc (N.arcs.zip f))(m:PI N L least rm pos W)(b:dZ N W=N.snk.toNat):
 W≠[]/\(∀ r∈W,r<2*N.arcs.length)/\W.Nodup/\(∀ r∈W,∀ q∈W,cI r≠q)/\W.length<=N.nodes.toNat/\least<=dC rm W/\
 (∃ f',aD N f'/\dg (dC rm W) W rm=bc (N.arcs.zip f'))/\PI N L least (dg (dC rm W) W rm) pos (W.take (rI least (dg (dC rm W) W rm) W))/\
 (∀ v r,r∈L v->(dg (dC rm W) W rm).getD r 0<=rm.getD r 0)/\∃ r v,r∈L v/\least<=rm.getD r 0/\(dg (dC rm W) W rm).getD r 0<least:=by
 have c:=m.on;have I:=(q4 u c m.mem).1;have M:=u.hi (dZ N W);have O:=u.hi N.src.toNat;rw[b] at c;have d:=ud u c m.mem;have w:∀ r∈W,r<2*N.arcs.length:=λ r n=>(u.ok _ _ (m.mem r n)).1;have e:∀ r∈W,least<=rm.getD r 0:=λ r n=>by obtain⟨_,_,_,h⟩:=m.head r n;exact h
 have o:W≠[]:=by
  intro P;have Q:=E.src;have R:=E.snk;have S:=E.diff;rw[P] at b;simp only[dZ,List.getLast?_nil] at b;omega
 obtain⟨z,g,A⟩:=ny (rm:=rm) o;have x:=e z g;rw[<- A] at x;obtain⟨a,s⟩:∃ a,a=dC rm W:=⟨_,rfl⟩;rw[<- s] at x A ⊢;have B:∀ r∈W,a<=rm.getD r 0:=λ r n=>s▸qL r n;obtain⟨k1,K,V⟩:=wb E H w d.1 c (by omega:0<=a) (he▸B);rw[<- he] at K;have F:rm.length=2*N.arcs.length:=by rw[he];exact kg H.len
 have t:=jj (a:=a) F w d.1
 have l:∀ v r,r∈L v->(dg a W rm).getD r 0<=rm.getD r 0:=by
  intro v r n;rw[t]
  have:cI r∉W:=by
   intro y;have g1:=(u.ok _ _ n);have g2:=(u.ok _ _ (m.mem _ y)).2.2;have g3:=g1.2.2;rw[ky,iK] at g2;rw[<- g1.2.1] at g3;omega
  rw[if_neg this];split<;>omega
 refine⟨o,w,d.1,d.2,aa,x,⟨_,k1,K⟩,?_,l,z,_,m.mem z g,e z g,?_⟩
 ·refine⟨m.pl,xh _ c,λ r n=>?_,λ v p hp j r U C=>?_⟩
  ·obtain⟨p,g1,g2,_⟩:=m.head r (List.mem_of_mem_take n);refine⟨p,g1,g2,?_⟩;obtain⟨i,hi,D⟩:=List.mem_iff_getElem.1 n;have G:i<rI least (dg a W rm) W:=by rw[List.length_take] at hi;omega
   rw[PD] at D;have:=Py G;rw[D] at this
   simpa using this
  ·rcases m.pass v p hp j r U C with k|k
   ·exact .inl (by have:=l v r (Nb C);omega)
   ·exact .inr k
 ·rw[t,if_neg (λ y=>d.2 z g _ y rfl),if_pos g];omega
theorem PI.start{N:aV}{L:Nat->LN_}{least:Int}{rm:LI_}:PI N L least rm (List.replicate (N.nodes.toNat+1) 0) []:=by
 refine⟨ai,⟨_,rfl⟩,λ r a=>(by cases a),λ v p hp j r b=>?_⟩;rw[Nw] at hp;split at hp
 ·simp only[Nc] at hp;omega
 ·cases hp
def qM(ls:LN_)(least:Int)(rm:LI_):Nat:=(ls.filter λ r=>decide (least<=rm.getD r 0)).length
theorem C5{least:Int}{rm rm':LI_}:∀ {ls:LN_},(∀ r∈ls,rm'.getD r 0<=rm.getD r 0)->qM ls least rm'<=qM ls least rm
 |[],_=>Nr _
 |r::ls,h=>by
  have a:=C5 (ls:=ls) (least:=least) λ q b=>h q (by simp[b]);have c:=h r ai;unfold qM at*;simp only[OJ,NX];split
  ·rw[if_pos aa];simp only[Nh];omega
  ·split
   ·simp only[Nh];omega
   ·exact a
theorem xf{least:Int}{rm rm':LI_}:∀ {ls:LN_},(∀ r∈ls,rm'.getD r 0<=rm.getD r 0)->∀ r∈ls,least<=rm.getD r 0->rm'.getD r 0<least->qM ls least rm'<qM ls least rm
 |[],_,_,h,_,_=>by cases h
 |q::ls,h,r,b,c,e=>by
  have hle:=C5 (ls:=ls) (least:=least) λ q a=>h q (by simp[a]);have a:=h q ai;unfold qM at*;simp only[OJ,NX]
  rcases Nn.1 b with rfl|b
  ·rw[if_neg aa,if_pos c];simp only[Nh];omega
  ·have d:=xf (ls:=ls) (fun q a=>h q (by simp[a])) r b c e;unfold qM at d;split
   ·rw[if_pos aa];simp only[Nh];omega
   ·split
    ·simp only[Nh];omega
    ·exact d
def ry(N:aV)(least:Int)(f:LI_)(ws:List (LN_×Int))(f':LI_):Prop:=
 ∃ lv,fw N (bc (N.arcs.zip f)) least lv/\aD N f'/\
   Bl N (fF N (di N (bc (N.arcs.zip f)) least lv (2*N.arcs.length))) least (bc (N.arcs.zip f)) (List.replicate (N.nodes.toNat+1) 0) [] ws (bc (N.arcs.zip f'))
theorem x9:∀ (ps:List (ej×Int)) (v:Int),(∀ p∈ps,0<=p.2/\p.2<=p.1.cap)→-((ps.map (·.1.cap)).sum)<=dH ps v/\dH ps v<=(ps.map (·.1.cap)).sum
 |[],_,_=>by simp[dH]
 |p::ps,v,h=>by
  have a:=x9 ps v λ q b=>h q (by simp[b]);have hp:=h p ai;simp only[dH] at a;simp only[dH,Nv,ND];split<;>split<;>omega
theorem H9{l:List ej}{f:LI_}(h:f.length=l.length):(l.zip f).map (·.1.cap)=l.map (·.cap):=by
 have a:(l.zip f).map (·.1)=l:=List.map_fst_zip aa;have e:(l.zip f).map (·.1.cap)=((l.zip f).map (·.1)).map (·.cap):=by rw[OG];rfl
 rw[e,a]
theorem dm{N:aV}(b:N.Right){f:LI_}(a:Ranged N f)(v:Int):-4611686018427387903<=dH (N.arcs.zip f) v/\dH (N.arcs.zip f) v<=4611686018427387903:=by
 have h:=x9 (N.arcs.zip f) v a.all;rw[H9 a.len] at h;have:=b.sum;omega
theorem wU{N:aV}{rm:LI_}{least:Int}{lv a:LI_}(h:fw N rm least lv)(b:fw N rm least a):∀ (k v:Nat),dL lv v=k->0<=dL a v/\dL a v<=k
 |0,v,c=>by rw[h.zero v (by simpa using c),b.src];simp
 |k+1,v,c=>by
  obtain⟨r,d,e,f,i⟩:=h.back v aa;have g:=wU h b k (eN N r) aa;have:=b.step r d e g.1;rw[f] at this;omega
theorem qY{N:aV}{rm:LI_}{least:Int}{lv a:LI_}(h:fw N rm least lv)(b:fw N rm least a)(v:Nat):dL lv v=dL a v:=by
 have d:=h.rng v;have f:=b.rng v;by_cases e:0<=dL lv v
 ·have k1:=wU h b (dL lv v).toNat v aa;have c:=wU b h (dL a v).toNat v aa;omega
 ·by_cases g:0<=dL a v
  ·have c:=wU b h (dL a v).toNat v aa;omega
  ·omega
theorem Lx{N:aV}{rm:LI_}{least:Int}{lv a:LI_}(h:fw N rm least lv)(b:fw N rm least a):lv=a:=by
 refine PK (by rw[h.len,b.len]) λ i c d=>?_;have e:=wS (be c);have f:=wS (be d);rw[<- e,<- f];exact qY h b i
theorem LU{N:aV}{L:Nat->LN_}{least:Int}{rm rm':LI_}{pos W:LN_}(h:Bl N L least rm pos W [] rm'):rm'=rm:=by
 cases h;rfl
theorem FF{N:aV}{f g:LI_}(c:f.length=N.arcs.length)(d:g.length=N.arcs.length)(h:bc (N.arcs.zip f)=bc (N.arcs.zip g)):f=g:=by
 refine PK aa λ i hi b=>?_;have a:N.arcs[i]?=some (N.arcs[i]'aa):=be _;have g1:=(eh (f8 a (be hi))).2;have g2:=(eh (f8 a (be b))).2;rw[h] at g1;rw[g1] at g2
 simpa using g2
theorem ry.keeps{N:aV}(j:N.Right){least:Int}(hle:1<=least){f f':LI_}{ws:List (LN_×Int)}(k:aD N f)(h:ry N least f ws f'){lv:LI_}(c:fw N (bc (N.arcs.zip f)) least lv):
 aD N f'/\dH (N.arcs.zip f) N.snk+least*ws.length<=dH (N.arcs.zip f') N.snk/\(0<=dL lv N.snk.toNat->ws≠[]):=by
 obtain⟨d,a,b,g⟩:=h;obtain⟨f2,l,m,n,i,_⟩:=g.keeps j (j3 a) hle f k rfl PI.start;have o:f'=f2:=FF b.len l.len m;subst o;refine⟨b,n,λ p hw=>?_⟩;subst hw;have e:=LU g;rw[e] at i;rw[qY c a] at p;exact i _ (FK a (dL d N.snk.toNat).toNat _ aa) rfl
inductive Dn (N:aV) (least:Int):LI_->Nat->Nat->LI_->Prop
 |stop {f lv:LI_}:fw N (bc (N.arcs.zip f)) least lv->dL lv N.snk.toNat<0->Dn N least f 0 0 f
 |step {f f1 f' lv:LI_} {ws:List (LN_×Int)} {p k:Nat}:fw N (bc (N.arcs.zip f)) least lv->0<=dL lv N.snk.toNat->ry N least f ws f1->Dn N least f1 p k f'->Dn N least f (p+1) (ws.length+k) f'
theorem Dn.keeps{N:aV}(d:N.Right){least:Int}(hle:1<=least){f f':LI_}{p k:Nat}(h:Dn N least f p k f'):aD N f->
 aD N f'/\dH (N.arcs.zip f) N.snk+least*k<=dH (N.arcs.zip f') N.snk/\p<=k/\∃ lv,fw N (bc (N.arcs.zip f')) least lv/\dL lv N.snk.toNat<0:=by
 induction h with
 |stop a b=>exact λ c=>⟨c,ai,Nr _,_,a,b⟩
 |@step f f1 f' lv ws p k a b e _ g=>
  intro c;obtain⟨k1,j,i⟩:=e.keeps d hle c a;obtain⟨g1,g2,g3,g4⟩:=g k1;have hw:=NM.2 (i b);refine⟨g1,?_,aa,g4⟩
  have:least*((ws.length+k:Nat):Int)=least*ws.length+least*k:=by
   rw[Pu,Int.mul_add]
  omega
theorem uA{N:aV}{least:Int}{f lv:LI_}(a:Ranged N f)(h:fw N (bc (N.arcs.zip f)) least lv)(c:dL lv N.snk.toNat<0):¬ tf N (bc (N.arcs.zip f)) least N.snk:=λ b=>by
 have:=I7 h (by rw[d8,O0,a.len,Pn]) b;omega
def qx(N:aV)(f:LI_)(s:LI_):Prop:=∀ r,r<2*N.arcs.length->1<=(bc (N.arcs.zip f)).getD r 0->(df N r).1∈s->(df N r).2∈s
open Classical in
noncomputable def nT(s:LI_)(ps:List (ej×Int)):LI_:=ps.map λ p=>(if p.1.fr∈s/\p.1.to∉s then p.1.cap-p.2 else 0)+(if p.1.fr∉s/\p.1.to∈s then p.2 else 0)
theorem oF(s:LI_):∀ ps:List (ej×Int),(nT s ps).sum=iw s (ps.map (·.1))-n7 s ps
 |[]=>by simp[nT,iw,n7]
 |p::ps=>by
  have c:=oF s ps;unfold nT iw n7 at*;refine tM ?_;by_cases a:p.1.fr∈s<;>by_cases b:p.1.to∈s<;>simp only[a,b,O7,PJ,and_true,and_false,not_true,not_false_iff]<;>omega
theorem ug:∀ (l:LI_),(∀ x∈l,0<=x)->(l.sum=0↔∀ x∈l,x=0)
 |[],_=>by simp
 |x::l,h=>by
  have b:=ug l λ y a=>h y (by simp[a]);have c:=h x ai;have d:=jk l λ y a=>h y (by simp[a]);rw[ND]
  constructor
  ·intro e y a
   rcases Nn.1 a with rfl|a
   ·omega
   ·exact b.1 aa y a
  ·intro e;have g:=e x ai;have i:=b.2 λ y a=>e y (by simp[a]);omega
theorem xr{N:aV}{f s:LI_}(o:Ranged N f):qx N f s↔∀ x∈nT s (N.arcs.zip f),x=0:=by
 constructor
 ·intro h x q;obtain⟨p,hp,rfl⟩:=List.mem_map.1 q;obtain⟨i,hi,t⟩:=List.mem_iff_getElem.1 hp;have k:(N.arcs.zip f)[i]?=some p:=by rw[List.getElem?_eq_getElem hi,t]
  have g:=(N0.1 k).1;have y:=(Ng.1 g).1;obtain⟨g1,g2⟩:=eh k;have z:=o.all p hp
  have A:df N (2*i)=(p.1.fr,p.1.to):=by
   unfold df;rw[show 2*i/2=i by omega,g];show ed p.1 (2*i)=_;unfold ed;rw[if_neg aa]
  have B:df N (2*i+1)=(p.1.to,p.1.fr):=by
   unfold df;rw[show (2*i+1)/2=i by omega,g];show ed p.1 (2*i+1)=_;unfold ed;rw[if_pos aa]
  have k1:=h (2*i) aa;have u:=h (2*i+1) aa;rw[A,Nf,g1,NL] at k1;rw[B,Nf,g2,NL] at u;simp only at k1 u
  have C:(if p.1.fr∈s/\p.1.to∉s then p.1.cap-p.2 else 0)=0:=by
   split
   ·rename_i d;have:¬ 1<=p.1.cap-p.2:=λ j=>d.2 (k1 j d.1);omega
   ·rfl
  have z2:(if p.1.fr∉s/\p.1.to∈s then p.2 else 0)=0:=by
   split
   ·rename_i d;have:¬ 1<=p.2:=λ j=>d.1 (u j d.2);omega
   ·rfl
  rw[C,z2];rfl
 ·intro h r z j b;obtain⟨a,g⟩:∃ a,N.arcs[r/2]?=some a:=⟨N.arcs[r/2]'aa,List.getElem?_eq_getElem aa⟩;have q:f[r/2]?=some (f.getD (r/2) 0):=by rw[List.getD_eq_getElem?_getD,List.getElem?_eq_getElem (by have:=o.len;omega)];rfl
  have k:=f8 g q;have m:=Nb k;obtain⟨g1,g2⟩:=eh k;have v:=o.all _ m;have w:=h _ (NF.2 ⟨_,m,rfl⟩);have he:df N r=ed a r:=by unfold df;rw[g]
  rw[he] at b ⊢;simp only at g1 g2 v w;refine NG λ c=>?_;by_cases hm:r%2=1
  ·have e:ed a r=(a.to,a.fr):=by unfold ed;rw[if_pos hm]
   rw[e] at b c;simp only at b c;rw[if_neg (λ d=>c d.1),if_pos ⟨c,b⟩] at w;rw[show 2*(r/2)+1=r by omega] at g2;rw[Nf,g2,NL] at j;omega
  ·have e:ed a r=(a.fr,a.to):=by unfold ed;rw[if_neg hm]
   rw[e] at b c;simp only at b c;rw[if_pos ⟨b,c⟩,if_neg (λ d=>d.1 b)] at w;rw[show 2*(r/2)=r by omega] at g1;rw[Nf,g1,NL] at j;omega
theorem uH{N:aV}(b:N.Right){f:LI_}(a:aD N f){s:LI_}(c:fm N s):iw s N.arcs=dH (N.arcs.zip f) N.snk↔qx N f s:=by
 rw[xr a.toRanged,<- ug,oF,oT b a c,show (N.arcs.zip f).map (·.1)=N.arcs from List.map_fst_zip (by have:=a.len;omega)]
 ·omega
 ·intro x d;obtain⟨p,hp,rfl⟩:=NF.1 d;have e:=a.all p hp;split<;>split<;>omega
theorem kO(l:LB_)(is:Bool):∀ k,(b9 l is k).Pairwise (·<·)
 |0=>by simp[b9]
 |k+1=>by
  rw[nu];split
  ·refine rA (kO l is k) λ x a=>?_;obtain⟨v,b,_,_,rfl⟩:=je.1 a;omega
  ·rw[NN];exact kO l is k
section
variable {N:aV} {f:LI_} {n:Nat} {l:LB_}
theorem lP(g:N.nodes=n)(a:∀ v:Nat,l[v]?=some true↔v<=n/\tf N (bc (N.arcs.zip f)) 1 v){x:Int}:x∈b9 l true (n+1)↔1<=x/\x<=N.nodes/\tf N (bc (N.arcs.zip f)) 1 x:=by
 rw[je]
 constructor
 ·rintro⟨v,c,d,b,rfl⟩;exact⟨aa,aa,((a v).1 b).2⟩
 ·rintro⟨c,d,b⟩;have e:((x.toNat:Nat):Int)=x:=aa;exact⟨x.toNat,aa,aa,(a _).2 ⟨aa,by rw[e];exact b⟩,e.symm⟩
theorem wf(g:N.Right)(k:aD N f)(b:N.nodes=n)(d:¬ tf N (bc (N.arcs.zip f)) 1 N.snk)(a:∀ v:Nat,l[v]?=some true↔v<=n/\tf N (bc (N.arcs.zip f)) 1 v):fm N (b9 l true (n+1))/\qx N f (b9 l true (n+1)):=by
 have c:=g.src;refine⟨⟨kO _ _ _,λ x m=>?_,(lP b a).2 ⟨c.1,c.2,.src⟩,λ h=>d ((lP b a).1 h).2.2⟩,λ r i o e=>?_⟩
 ·have:=(lP b a).1 m;exact⟨this.1,this.2.1⟩
 ·have p:=(lP b a).1 e;have j:=jL g i;exact (lP b a).2 ⟨j.2.1,j.2.2,.step _ r p.2.2 (by rw[d8,O0,k.len,Pn];exact i) rfl o⟩
end
theorem yd{N:aV}(b:N.Right){f s:LI_}(a:aD N f)(c:fm N s):dH (N.arcs.zip f) N.snk<=iw s N.arcs:=by
 have d:=oF s (N.arcs.zip f);rw[<- oT b a c,show (N.arcs.zip f).map (·.1)=N.arcs from List.map_fst_zip (by have:=a.len;omega)] at d
 have g:=jk (nT s (N.arcs.zip f)) λ x e=>by
  obtain⟨p,hp,rfl⟩:=NF.1 e;have h:=a.all p hp;split<;>split<;>omega
 omega
theorem aV.Right.fits'{N:aV}(h:N.Right):N.Fits:=by
 have c:=h.nodes;have d:=h.src;have e:=h.snk;have g:=h.len;refine⟨by unfold b7;omega,by unfold b7;omega,by unfold b7;omega,aa,λ a b=>?_⟩;have:=h.arc a b;have:=h.cap b;unfold b7;omega
end Go.Proofs.YtmcnpaelaieniaaGreatDoor
