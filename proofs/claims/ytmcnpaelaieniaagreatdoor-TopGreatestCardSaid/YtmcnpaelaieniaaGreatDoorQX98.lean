import Derived.Test.YtmcnpaelaieniaaGreatDoorQF
import Derived.Test.YtmcnpaelaieniaaGreatDoorTurnN
/- A part of the proof; see NOTES.md. -/
set_option linter.unusedVariables false
set_option linter.unusedSimpArgs false
namespace Go.Proofs.YtmcnpaelaieniaaGreatDoor
open Go.RowKit
theorem iq{N:aU}{f:LI}(hf:f.length=N.arcs.length):(aP (N.arcs.zip f)).length=2*N.arcs.length:=by
 rw[cL,HS,hf,Ib]
theorem eQ{N:aU}(hR:N.Right){f:LI}(hf:Ranged N f)(q:Nat):0<=(aP (N.arcs.zip f)).getD q 0/\(aP (N.arcs.zip f)).getD q 0<=4611686018427387903:=by
 by_cases hq:q<2*N.arcs.length
 ·have h0:=(jX hf.len).1 hf;obtain⟨ar,har⟩:∃ x,N.arcs[q/2]?=some x:=⟨N.arcs[q/2]'(by omega),List.getElem?_eq_getElem (by omega)⟩;have hx:f[q/2]?=some (f.getD (q/2) 0):=by rw[List.getD_eq_getElem?_getD,List.getElem?_eq_getElem (by have:=hf.len;omega)];rfl
  obtain⟨g1,g2⟩:=dA (fi har hx);have hc:=hR.cap (Gu har);have k1:=h0 (2*(q/2)) (by omega);have k2:=h0 (2*(q/2)+1) (by omega);have k3:=h0 q hq;rw[Gw,g1,G1] at k1;rw[Gw,g2,G1] at k2;refine⟨k3,?_⟩;simp only at k1 k2
  rcases Iv q with hm|hm
  ·rw[show 2*(q/2)=q by omega] at g1;rw[Gw,g1,G1];simp only;omega
  ·rw[show 2*(q/2)+1=q by omega] at g2;rw[Gw,g2,G1];simp only;omega
 ·rw[Gw,G6 (by rw[iq hf.len];omega)];exact⟨HK _,by decide⟩
theorem iH{N:aU}(hR:N.Right){L:Nat->LN}{lv:Nat->Int}{least:Int}(hG:eF N L lv)(hle:1<=least){rm:LI}{pos W:LN}{f:LI}(hf:aK N f)(he:rm=aP (N.arcs.zip f))(hI:PI N L least rm pos W)(hend:cR N W=N.snk.toNat):
 W≠[]/\(∀ r∈W,r<2*N.arcs.length)/\W.Nodup/\(∀ r∈W,∀ q∈W,bP r≠q)/\W.length<=N.nodes.toNat/\least<=cH rm W/\
 (∃ f',aK N f'/\cj (cH rm W) W rm=aP (N.arcs.zip f'))/\PI N L least (cj (cH rm W) W rm) pos (W.take (mA least (cj (cH rm W) W rm) W))/\
 (∀ v r,r∈L v->(cj (cH rm W) W rm).getD r 0<=rm.getD r 0)/\∃ r v,r∈L v/\least<=rm.getD r 0/\(cj (cH rm W) W rm).getD r 0<least:=by
 have hon:=hI.on;have hlvl:=(na hG hon hI.mem).1;have hh1:=hG.hi (cR N W);have hh2:=hG.hi N.src.toNat;rw[hend] at hon;have hnd:=pA hG hon hI.mem;have hlt:∀ r∈W,r<2*N.arcs.length:=λ r hr=>(hG.ok _ _ (hI.mem r hr)).1;have hroom:∀ r∈W,least<=rm.getD r 0:=λ r hr=>by obtain⟨_,_,_,h⟩:=hI.head r hr;exact h
 have hWne:W≠[]:=by
  intro h0;have hsr:=hR.src;have hsk:=hR.snk;have hdf:=hR.diff;rw[h0] at hend;simp only[cR,List.getLast?_nil] at hend;omega
 obtain⟨r0,hr0,hmo⟩:=kN (rm:=rm) hWne;have hma:=hroom r0 hr0;rw[<- hmo] at hma;obtain⟨a,haeq⟩:∃ a,a=cH rm W:=⟨_,rfl⟩;rw[<- haeq] at hma hmo ⊢;have hmle:∀ r∈W,a<=rm.getD r 0:=λ r hr=>haeq▸mX r hr;obtain⟨k1,k2,k3⟩:=rI hR hf hlt hnd.1 hon (by omega:0<=a) (he▸hmle);rw[<- he] at k2;have hzl:rm.length=2*N.arcs.length:=by rw[he];exact iq hf.len
 have hget:=f7 (a:=a) hzl hlt hnd.1
 have hmono:∀ v r,r∈L v->(cj a W rm).getD r 0<=rm.getD r 0:=by
  intro v r hr;rw[hget]
  have:bP r∉W:=by
   intro hin;have g1:=(hG.ok _ _ hr);have g2:=(hG.ok _ _ (hI.mem _ hin)).2.2;have g3:=g1.2.2;rw[iF,fM] at g2;rw[<- g1.2.1] at g3;omega
  rw[if_neg this];split<;>omega
 refine⟨hWne,hlt,hnd.1,hnd.2,by omega,hma,⟨_,k1,k2⟩,?_,hmono,r0,_,hI.mem r0 hr0,hroom r0 hr0,?_⟩
 ·refine⟨hI.pl,sW _ hon,λ r hr=>?_,λ v p hp j r hj hjr=>?_⟩
  ·obtain⟨p,g1,g2,_⟩:=hI.head r (List.mem_of_mem_take hr);refine⟨p,g1,g2,?_⟩;obtain⟨i,hi,hir⟩:=List.mem_iff_getElem.1 hr;have hi':i<mA least (cj a W rm) W:=by rw[List.length_take] at hi;omega
   rw[Iz] at hir;have:=II hi';rw[hir] at this
   simpa using this
  ·rcases hI.pass v p hp j r hj hjr with k|k
   ·exact .inl (by have:=hmono v r (Gu hjr);omega)
   ·exact .inr k
 ·rw[hget,if_neg (λ hin=>hnd.2 r0 hr0 _ hin rfl),if_pos hr0];omega
theorem PI.start{N:aU}{L:Nat->LN}{least:Int}{rm:LI}:PI N L least rm (List.replicate (N.nodes.toNat+1) 0) []:=by
 refine⟨by simp,⟨_,rfl⟩,λ r hr=>(by cases hr),λ v p hp j r hj=>?_⟩;rw[GN] at hp;split at hp
 ·simp only[Gs] at hp;omega
 ·cases hp
def mP(ls:LN)(least:Int)(rm:LI):Nat:=(ls.filter λ r=>decide (least<=rm.getD r 0)).length
theorem wX{least:Int}{rm rm':LI}:∀ {ls:LN},(∀ r∈ls,rm'.getD r 0<=rm.getD r 0)->mP ls least rm'<=mP ls least rm
 |[],_=>GF _
 |r::ls,h=>by
  have ih:=wX (ls:=ls) (least:=least) λ q hq=>h q (by simp[hq]);have h1:=h r (by simp);unfold mP at*;simp only[H6,G3];split
  ·rw[if_pos (by omega)];simp only[Gz];omega
  ·split
   ·simp only[Gz];omega
   ·exact ih
theorem sj{least:Int}{rm rm':LI}:∀ {ls:LN},(∀ r∈ls,rm'.getD r 0<=rm.getD r 0)->∀ r∈ls,least<=rm.getD r 0->rm'.getD r 0<least->mP ls least rm'<mP ls least rm
 |[],_,_,h,_,_=>by cases h
 |q::ls,h,r,hr,h1,h2=>by
  have hle:=wX (ls:=ls) (least:=least) λ q hq=>h q (by simp[hq]);have hq:=h q (by simp);unfold mP at*;simp only[H6,G3]
  rcases GD.1 hr with rfl|hr
  ·rw[if_neg (by omega),if_pos h1];simp only[Gz];omega
  ·have ih:=sj (ls:=ls) (fun q hq=>h q (by simp[hq])) r hr h1 h2;unfold mP at ih;split
   ·rw[if_pos (by omega)];simp only[Gz];omega
   ·split
    ·simp only[Gz];omega
    ·exact ih
def kh(N:aU)(least:Int)(f:LI)(ws:List (LN×Int))(f':LI):Prop:=
 ∃ lv,ec N (aP (N.arcs.zip f)) least lv/\aK N f'/\
   Bl N (ek N (cm N (aP (N.arcs.zip f)) least lv (2*N.arcs.length))) least (aP (N.arcs.zip f)) (List.replicate (N.nodes.toNat+1) 0) [] ws (aP (N.arcs.zip f'))
theorem ub:∀ (ps:List (dI×Int)) (v:Int),(∀ p∈ps,0<=p.2/\p.2<=p.1.cap)→-((ps.map (·.1.cap)).sum)<=cS ps v/\cS ps v<=(ps.map (·.1.cap)).sum
 |[],_,_=>by simp[cS]
 |p::ps,v,h=>by
  have ih:=ub ps v λ q hq=>h q (by simp[hq]);have hp:=h p (by simp);simp only[cS] at ih;simp only[cS,GG,GT];split<;>split<;>omega
theorem z9{l:List dI}{f:LI}(h:f.length=l.length):(l.zip f).map (·.1.cap)=l.map (·.cap):=by
 have hzm:(l.zip f).map (·.1)=l:=List.map_fst_zip (by omega);have e:(l.zip f).map (·.1.cap)=((l.zip f).map (·.1)).map (·.cap):=by rw[HQ];rfl
 rw[e,hzm]
theorem dX{N:aU}(hR:N.Right){f:LI}(hf:Ranged N f)(v:Int):-4611686018427387903<=cS (N.arcs.zip f) v/\cS (N.arcs.zip f) v<=4611686018427387903:=by
 have h:=ub (N.arcs.zip f) v hf.all;rw[z9 hf.len] at h;have:=hR.sum;omega
theorem r7{N:aU}{rm:LI}{least:Int}{lv lv':LI}(h:ec N rm least lv)(h':ec N rm least lv'):∀ (k v:Nat),cM lv v=k->0<=cM lv' v/\cM lv' v<=k
 |0,v,hv=>by rw[h.zero v (by simpa using hv),h'.src];simp
 |k+1,v,hv=>by
  obtain⟨r,h1,h2,h3,h4⟩:=h.back v (by omega);have ih:=r7 h h' k (dC N r) (by omega);have:=h'.step r h1 h2 ih.1;rw[h3] at this;omega
theorem kO{N:aU}{rm:LI}{least:Int}{lv lv':LI}(h:ec N rm least lv)(h':ec N rm least lv')(v:Nat):cM lv v=cM lv' v:=by
 have r1:=h.rng v;have r2:=h'.rng v;by_cases e:0<=cM lv v
 ·have k1:=r7 h h' (cM lv v).toNat v (by omega);have k2:=r7 h' h (cM lv' v).toNat v (by omega);omega
 ·by_cases e2:0<=cM lv' v
  ·have k2:=r7 h' h (cM lv' v).toNat v (by omega);omega
  ·omega
theorem vZ{N:aU}{rm:LI}{least:Int}{lv lv':LI}(h:ec N rm least lv)(h':ec N rm least lv'):lv=lv':=by
 refine IS (by rw[h.len,h'.len]) λ i h1 h2=>?_;have e1:=sD (Gq h1);have e2:=sD (Gq h2);rw[<- e1,<- e2];exact kO h h' i
theorem Ew{N:aU}{L:Nat->LN}{least:Int}{rm rm':LI}{pos W:LN}(h:Bl N L least rm pos W [] rm'):rm'=rm:=by
 cases h;rfl
theorem uZ{N:aU}{f g:LI}(hf:f.length=N.arcs.length)(hg:g.length=N.arcs.length)(h:aP (N.arcs.zip f)=aP (N.arcs.zip g)):f=g:=by
 refine IS (by omega) λ i hi hi2=>?_;have har:N.arcs[i]?=some (N.arcs[i]'(by omega)):=Gq _;have g1:=(dA (fi har (Gq hi))).2;have g2:=(dA (fi har (Gq hi2))).2;rw[h] at g1;rw[g1] at g2
 simpa using g2
theorem kh.keeps{N:aU}(hR:N.Right){least:Int}(hle:1<=least){f f':LI}{ws:List (LN×Int)}(hf:aK N f)(h:kh N least f ws f'){lv:LI}(hlv:ec N (aP (N.arcs.zip f)) least lv):
 aK N f'/\cS (N.arcs.zip f) N.snk+least*ws.length<=cS (N.arcs.zip f') N.snk/\(0<=cM lv N.snk.toNat->ws≠[]):=by
 obtain⟨lv',hlv',hf',hb⟩:=h;obtain⟨f2,h1,h2,h3,h4,_⟩:=hb.keeps hR (ij hlv') hle f hf rfl PI.start;have hz:f'=f2:=uZ hf'.len h1.len h2;subst hz;refine⟨hf',h3,λ hd hw=>?_⟩;subst hw;have hrm:=Ew hb;rw[hrm] at h4;rw[kO hlv hlv'] at hd;exact h4 _ (BF hlv' (cM lv' N.snk.toNat).toNat _ (by omega)) rfl
inductive Dn (N:aU) (least:Int):LI->Nat->Nat->LI->Prop
 |stop {f lv:LI}:ec N (aP (N.arcs.zip f)) least lv->cM lv N.snk.toNat<0->Dn N least f 0 0 f
 |step {f f1 f' lv:LI} {ws:List (LN×Int)} {p k:Nat}:ec N (aP (N.arcs.zip f)) least lv->0<=cM lv N.snk.toNat->kh N least f ws f1->Dn N least f1 p k f'->Dn N least f (p+1) (ws.length+k) f'
theorem Dn.keeps{N:aU}(hR:N.Right){least:Int}(hle:1<=least){f f':LI}{p k:Nat}(h:Dn N least f p k f'):aK N f->
 aK N f'/\cS (N.arcs.zip f) N.snk+least*k<=cS (N.arcs.zip f') N.snk/\p<=k/\∃ lv,ec N (aP (N.arcs.zip f')) least lv/\cM lv N.snk.toNat<0:=by
 induction h with
 |stop h1 h2=>exact λ hf=>⟨hf,by simp,GF _,_,h1,h2⟩
 |@step f f1 f' lv ws p k h1 h2 h3 _ ih=>
  intro hf;obtain⟨k1,k2,k3⟩:=h3.keeps hR hle hf h1;obtain⟨g1,g2,g3,g4⟩:=ih k1;have hw:=Hc.2 (k3 h2);refine⟨g1,?_,by omega,g4⟩
  have:least*((ws.length+k:Nat):Int)=least*ws.length+least*k:=by
   rw[IG,Int.mul_add]
  omega
theorem tq{N:aU}{least:Int}{f lv:LI}(hf:Ranged N f)(h:ec N (aP (N.arcs.zip f)) least lv)(hs:cM lv N.snk.toNat<0):¬ kL N (aP (N.arcs.zip f)) least N.snk:=λ hr=>by
 have:=DK h (by rw[cL,HS,hf.len,Ib]) hr;omega
def n8(N:aU)(f:LI)(s:LI):Prop:=∀ r,r<2*N.arcs.length->1<=(aP (N.arcs.zip f)).getD r 0->(b8 N r).1∈s->(b8 N r).2∈s
open Classical in
noncomputable def kK(s:LI)(ps:List (dI×Int)):LI:=ps.map λ p=>(if p.1.fr∈s/\p.1.to∉s then p.1.cap-p.2 else 0)+(if p.1.fr∉s/\p.1.to∈s then p.2 else 0)
theorem lf(s:LI):∀ ps:List (dI×Int),(kK s ps).sum=eL s (ps.map (·.1))-kP s ps
 |[]=>by simp[kK,eL,kP]
 |p::ps=>by
  have ih:=lf s ps;unfold kK eL kP at*;simp only[GG,GT];by_cases h1:p.1.fr∈s<;>by_cases h2:p.1.to∈s<;>simp only[h1,h2,Ij,IQ,IR,and_false,not_true,not_false_iff]<;>omega
theorem qA:∀ (l:LI),(∀ x∈l,0<=x)->(l.sum=0↔∀ x∈l,x=0)
 |[],_=>by simp
 |x::l,h=>by
  have ih:=qA l λ y hy=>h y (by simp[hy]);have h0:=h x (by simp);have h1:=fv l λ y hy=>h y (by simp[hy]);rw[GT]
  constructor
  ·intro e y hy
   rcases GD.1 hy with rfl|hy
   ·omega
   ·exact ih.1 (by omega) y hy
  ·intro e;have e1:=e x (by simp);have e2:=ih.2 λ y hy=>e y (by simp[hy]);omega
theorem sX{N:aU}{f s:LI}(hf:Ranged N f):n8 N f s↔∀ x∈kK s (N.arcs.zip f),x=0:=by
 constructor
 ·intro h x hx;obtain⟨p,hp,rfl⟩:=List.mem_map.1 hx;obtain⟨i,hi,hip⟩:=List.mem_iff_getElem.1 hp;have hz:(N.arcs.zip f)[i]?=some p:=by rw[List.getElem?_eq_getElem hi,hip]
  have ha:=(G7.1 hz).1;have hil:=(Gv.1 ha).1;obtain⟨g1,g2⟩:=dA hz;have hr:=hf.all p hp
  have e1:b8 N (2*i)=(p.1.fr,p.1.to):=by
   unfold b8;rw[show 2*i/2=i by omega,ha];show cV p.1 (2*i)=_;unfold cV;rw[if_neg (by omega)]
  have e2:b8 N (2*i+1)=(p.1.to,p.1.fr):=by
   unfold b8;rw[show (2*i+1)/2=i by omega,ha];show cV p.1 (2*i+1)=_;unfold cV;rw[if_pos (by omega)]
  have k1:=h (2*i) (by omega);have k2:=h (2*i+1) (by omega);rw[e1,Gw,g1,G1] at k1;rw[e2,Gw,g2,G1] at k2;simp only at k1 k2
  have z1:(if p.1.fr∈s/\p.1.to∉s then p.1.cap-p.2 else 0)=0:=by
   split
   ·rename_i hc;have:¬ 1<=p.1.cap-p.2:=λ h1=>hc.2 (k1 h1 hc.1);omega
   ·rfl
  have z2:(if p.1.fr∉s/\p.1.to∈s then p.2 else 0)=0:=by
   split
   ·rename_i hc;have:¬ 1<=p.2:=λ h1=>hc.1 (k2 h1 hc.2);omega
   ·rfl
  rw[z1,z2];rfl
 ·intro h r hr h1 hin;obtain⟨a,ha⟩:∃ a,N.arcs[r/2]?=some a:=⟨N.arcs[r/2]'(by omega),List.getElem?_eq_getElem (by omega)⟩;have hx:f[r/2]?=some (f.getD (r/2) 0):=by rw[List.getD_eq_getElem?_getD,List.getElem?_eq_getElem (by have:=hf.len;omega)];rfl
  have hz:=fi ha hx;have hzm:=Gu hz;obtain⟨g1,g2⟩:=dA hz;have hrg:=hf.all _ hzm;have hs:=h _ (GR.2 ⟨_,hzm,rfl⟩);have he:b8 N r=cV a r:=by unfold b8;rw[ha]
  rw[he] at hin ⊢;simp only at g1 g2 hrg hs;refine Hg λ hno=>?_;by_cases hm:r%2=1
  ·have e:cV a r=(a.to,a.fr):=by unfold cV;rw[if_pos hm]
   rw[e] at hin hno;simp only at hin hno;rw[if_neg (λ hc=>hno hc.1),if_pos ⟨hno,hin⟩] at hs;rw[show 2*(r/2)+1=r by omega] at g2;rw[Gw,g2,G1] at h1;omega
  ·have e:cV a r=(a.fr,a.to):=by unfold cV;rw[if_neg hm]
   rw[e] at hin hno;simp only at hin hno;rw[if_pos ⟨hin,hno⟩,if_neg (λ hc=>hc.1 hin)] at hs;rw[show 2*(r/2)=r by omega] at g1;rw[Gw,g1,G1] at h1;omega
theorem iE{N:aU}(hR:N.Right){f:LI}(hf:aK N f){s:LI}(hs:e8 N s):eL s N.arcs=cS (N.arcs.zip f) N.snk↔n8 N f s:=by
 rw[sX hf.toRanged,<- qA,lf,lE hR hf hs,show (N.arcs.zip f).map (·.1)=N.arcs from List.map_fst_zip (by have:=hf.len;omega)]
 ·omega
 ·intro x hx;obtain⟨p,hp,rfl⟩:=GR.1 hx;have hr:=hf.all p hp;split<;>split<;>omega
theorem jL(l:LB)(is:Bool):∀ k,(bX l is k).Pairwise (·<·)
 |0=>by simp[bX]
 |k+1=>by
  rw[oL];split
  ·refine ur (jL l is k) λ x hx=>?_;obtain⟨v,h1,_,_,rfl⟩:=lX.1 hx;omega
  ·rw[G5];exact jL l is k
section
variable {N:aU} {f:LI} {n:Nat} {l:LB}
theorem jA(hn:N.nodes=n)(hlr:∀ v:Nat,l[v]?=some true↔v<=n/\kL N (aP (N.arcs.zip f)) 1 v){x:Int}:x∈bX l true (n+1)↔1<=x/\x<=N.nodes/\kL N (aP (N.arcs.zip f)) 1 x:=by
 rw[lX]
 constructor
 ·rintro⟨v,h1,h2,h3,rfl⟩;exact⟨by omega,by omega,((hlr v).1 h3).2⟩
 ·rintro⟨h1,h2,h3⟩;have e:((x.toNat:Nat):Int)=x:=by omega
  exact⟨x.toNat,by omega,by omega,(hlr _).2 ⟨by omega,by rw[e];exact h3⟩,e.symm⟩
theorem kI(hn:N.nodes=n)(hl:l.length=n+1)(hlr:∀ v:Nat,l[v]?=some true↔v<=n/\kL (dV N) (aP (N.arcs.zip f)) 1 v){x:Int}:x∈bX l false (n+1)↔1<=x/\x<=N.nodes/\¬ kL (dV N) (aP (N.arcs.zip f)) 1 x:=by
 rw[lX]
 constructor
 ·rintro⟨v,h1,h2,h3,rfl⟩;exact⟨by omega,by omega,λ hr=>by have:=(hlr v).2 ⟨by omega,hr⟩;rw[h3] at this;simp at this⟩
 ·rintro⟨h1,h2,h3⟩;have e:((x.toNat:Nat):Int)=x:=by omega
  refine⟨x.toNat,by omega,by omega,?_,e.symm⟩;have hlt:x.toNat<l.length:=by omega
  cases hb:l[x.toNat] with
  |true=>exact absurd ((hlr x.toNat).1 (by rw[Gq hlt,hb])).2 (by rw[e];exact h3)
  |false=>rw[Gq hlt,hb]
theorem kX(hR:N.Right)(hf:aK N f)(hn:N.nodes=n)(hno:¬ kL N (aP (N.arcs.zip f)) 1 N.snk)(hlr:∀ v:Nat,l[v]?=some true↔v<=n/\kL N (aP (N.arcs.zip f)) 1 v):e8 N (bX l true (n+1))/\n8 N f (bX l true (n+1)):=by
 have hsr:=hR.src;refine⟨⟨jL _ _ _,λ x hx=>?_,(jA hn hlr).2 ⟨hsr.1,hsr.2,.src⟩,λ h=>hno ((jA hn hlr).1 h).2.2⟩,λ r hr h1 hin=>?_⟩
 ·have:=(jA hn hlr).1 hx;exact⟨this.1,this.2.1⟩
 ·have h2:=(jA hn hlr).1 hin;have h3:=fG hR hr;exact (jA hn hlr).2 ⟨h3.2.1,h3.2.2,.step _ r h2.2.2 (by rw[cL,HS,hf.len,Ib];exact hr) rfl h1⟩
theorem vG{P:Int->Prop}(hl:f.length=N.arcs.length)(hP:∀ r,r<2*N.arcs.length->1<=(aP (N.arcs.zip f)).getD r 0->P (b8 N r).1->P (b8 N r).2){x:Int}(h:kL (dV N) (aP (N.arcs.zip f)) 1 x):P x->P N.snk:=by
 induction h with
 |src=>exact id
 |step u r _ h1 h2 h3 ih=>
  intro hp;rw[nC] at h2 hp;refine ih ?_;rw[<- h2];exact hP r (by rw[cL,HS,hl,Ib] at h1;exact h1) h3 hp
theorem BR(hR:N.Right)(hf:aK N f)(hn:N.nodes=n)(hno:¬ kL N (aP (N.arcs.zip f)) 1 N.snk)(hl:l.length=n+1)(hlr:∀ v:Nat,l[v]?=some true↔v<=n/\kL (dV N) (aP (N.arcs.zip f)) 1 v):e8 N (bX l false (n+1))/\n8 N f (bX l false (n+1)):=by
 have hsr:=hR.src;have hrl:(aP (N.arcs.zip f)).length=2*N.arcs.length:=by rw[cL,HS,hf.len,Ib]
 refine⟨⟨jL _ _ _,λ x hx=>?_,(kI hn hl hlr).2 ⟨hsr.1,hsr.2,λ h=>hno ?_⟩,λ h=>((kI hn hl hlr).1 h).2.2 .src⟩,λ r hr h1 hin=>?_⟩
 ·have:=(kI hn hl hlr).1 hx;exact⟨this.1,this.2.1⟩
 ·exact vG (P:=λ x=>kL N (aP (N.arcs.zip f)) 1 x) hf.len (λ r hr h1 h2=>.step _ r h2 (by rw[hrl];exact hr) rfl h1) h .src
 ·have h2:=(kI hn hl hlr).1 hin;have h3:=fG hR hr;refine (kI hn hl hlr).2 ⟨h3.2.1,h3.2.2,λ h=>h2.2.2 ?_⟩;have:=kL.step (N:=dV N) (rm:=aP (N.arcs.zip f)) (least:=1) _ r h (by rw[hrl];exact hr) (by rw[nC]) h1;rw[nC] at this;exact this
end
theorem uM{N:aU}(hR:N.Right){f s:LI}(hf:aK N f)(hs:e8 N s):cS (N.arcs.zip f) N.snk<=eL s N.arcs:=by
 have h1:=lf s (N.arcs.zip f);rw[<- lE hR hf hs,show (N.arcs.zip f).map (·.1)=N.arcs from List.map_fst_zip (by have:=hf.len;omega)] at h1
 have h2:=fv (kK s (N.arcs.zip f)) λ x hx=>by
  obtain⟨p,hp,rfl⟩:=GR.1 hx;have hr:=hf.all p hp;split<;>split<;>omega
 omega
theorem aU.Right.fits'{N:aU}(h:N.Right):N.Fits:=by
 have h1:=h.nodes;have h2:=h.src;have h3:=h.snk;have h4:=h.len;refine⟨by unfold dn;omega,by unfold dn;omega,by unfold dn;omega,by omega,λ a ha=>?_⟩;have:=h.arc a ha;have:=h.cap ha;unfold dn;omega
theorem kh.rise{N:aU}(hR:N.Right){least:Int}(hle:1<=least){f f':LI}{ws:List (LN×Int)}(hf:aK N f)(h:kh N least f ws f'){lv lv':LI}(hlv:ec N (aP (N.arcs.zip f)) least lv)(hlv':ec N (aP (N.arcs.zip f')) least lv')(hs:0<=cM lv' N.snk.toNat):
 0<=cM lv N.snk.toNat/\cM lv N.snk.toNat<cM lv' N.snk.toNat:=by
 obtain⟨lv0,h1,h2,h3⟩:=h;obtain rfl:=vZ h1 hlv;have hG:=ij h1;obtain⟨f2,k1,k2,_,k4,_,k6⟩:=h3.keeps hR hG hle f hf rfl PI.start;have hfl:=hf.len
 have key:∀ (k v:Nat),cM lv' v=k->0<=cM lv0 v/\cM lv0 v<=k/\(cM lv0 v=k->LP N (ek N (cm N (aP (N.arcs.zip f)) least lv0 (2*N.arcs.length))) least (aP (N.arcs.zip f')) v):=by
  intro k
  induction k with
  |zero=>
   intro v hv;have:=hlv'.zero v (by simpa using hv);subst this;rw[h1.src];exact⟨HK _,HK _,λ _=>.src⟩
  |succ k ih=>
   intro v hv;obtain⟨r,hr,hl,hto,hfr⟩:=hlv'.back v (by omega);obtain⟨i1,i2,i3⟩:=ih (dC N r) (by omega);by_cases hb:least<=(aP (N.arcs.zip f)).getD r 0
   ·have hst:=h1.step r hr hb i1;rw[hto] at hst;refine⟨hst.1,by omega,fun he=>?_⟩;have e1:cM lv0 (dC N r)=k:=by omega
    have hp:=i3 e1;have hrl:r∈cm N (aP (N.arcs.zip f)) least lv0 (2*N.arcs.length):=el.2 ⟨hr,hb,by omega,by rw[hto];omega⟩;have:=LP.step (r:=r) hp (fO.2 ⟨hrl,rfl⟩) hl
    rwa [hto] at this
   ·have hup:=k6 r hr (by omega);have hld:=(el.1 (fO.1 hup).1);have e1:=hld.2.2.2;have e2:=hld.2.2.1;rw[iF,fM,hto] at e1;rw[fM,hto] at e2;have:=h1.rng v;exact⟨by omega,by omega,λ he=>by omega⟩
 obtain⟨d,hd⟩:∃ d:Nat,cM lv' N.snk.toNat=d:=⟨(cM lv' N.snk.toNat).toNat,by omega⟩;obtain⟨j1,j2,j3⟩:=key d _ hd;refine⟨j1,?_⟩
 rcases Int.lt_or_eq_of_le j2 with h|h
 ·omega
 ·exact absurd rfl (k4 _ (j3 h))
theorem oH:∀ (l:List dI) (v:Int),cS (l.zip (List.replicate l.length 0)) v=0
 |[],_=>rfl
 |a::l,v=>by
  have:=oH l v;unfold cS at this ⊢;simp only[Gz,Hw,H7,GG,GT,ite_self];omega
end Go.Proofs.YtmcnpaelaieniaaGreatDoor
