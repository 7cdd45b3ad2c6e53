import Derived.Test.YtmcnpaelaieniaaGreatDoorQF
import Derived.Test.YtmcnpaelaieniaaGreatDoorTurnN
/- A part of the proof; see NOTES.md. -/
set_option linter.unusedVariables false
set_option linter.unusedSimpArgs false
namespace Go.Proofs.YtmcnpaelaieniaaGreatDoor
open Go.RowKit
theorem iq{N:aO}{f:LI}(hf:f.length=N.arcs.length):(aW (N.arcs.zip f)).length=2*N.arcs.length:=by
 rw[de,Ih,hf,IF]
theorem eW{N:aO}(hR:N.Right){f:LI}(hf:Ranged N f)(q:Nat):0<=(aW (N.arcs.zip f)).getD q 0/\(aW (N.arcs.zip f)).getD q 0<=4611686018427387903:=by
 by_cases hq:q<2*N.arcs.length
 ·have h0:=(jM hf.len).1 hf;obtain⟨ar,har⟩:∃ x,N.arcs[q/2]?=some x:=⟨N.arcs[q/2]'(by omega),List.getElem?_eq_getElem (by omega)⟩;have hx:f[q/2]?=some (f.getD (q/2) 0):=by rw[List.getD_eq_getElem?_getD,List.getElem?_eq_getElem (by have:=hf.len;omega)];rfl
  obtain⟨g1,g2⟩:=dD (fg har hx);have hc:=hR.cap (GB har);have k1:=h0 (2*(q/2)) (by omega);have k2:=h0 (2*(q/2)+1) (by omega);have k3:=h0 q hq;rw[GD,g1,G9] at k1;rw[GD,g2,G9] at k2;refine⟨k3,?_⟩;simp only at k1 k2
  rcases IB q with hm|hm
  ·rw[show 2*(q/2)=q by omega] at g1;rw[GD,g1,G9];simp only;omega
  ·rw[show 2*(q/2)+1=q by omega] at g2;rw[GD,g2,G9];simp only;omega
 ·rw[GD,Hb (by rw[iq hf.len];omega)];exact⟨HO _,by decide⟩
theorem iP{N:aO}(hR:N.Right){L:Nat->LN}{lv:Nat->Int}{least:Int}(hG:eE N L lv)(hle:1<=least){rm:LI}{pos W:LN}{f:LI}(hf:aK N f)(he:rm=aW (N.arcs.zip f))(hI:PI N L least rm pos W)(hend:cV N W=N.snk.toNat):
 W≠[]/\(∀ r∈W,r<2*N.arcs.length)/\W.Nodup/\(∀ r∈W,∀ q∈W,bN r≠q)/\W.length<=N.nodes.toNat/\least<=cJ rm W/\
 (∃ f',aK N f'/\cm (cJ rm W) W rm=aW (N.arcs.zip f'))/\PI N L least (cm (cJ rm W) W rm) pos (W.take (mE least (cm (cJ rm W) W rm) W))/\
 (∀ v r,r∈L v->(cm (cJ rm W) W rm).getD r 0<=rm.getD r 0)/\∃ r v,r∈L v/\least<=rm.getD r 0/\(cm (cJ rm W) W rm).getD r 0<least:=by
 have hon:=hI.on;have hlvl:=(mF hG hon hI.mem).1;have hh1:=hG.hi (cV N W);have hh2:=hG.hi N.src.toNat;rw[hend] at hon;have hnd:=qn hG hon hI.mem;have hlt:∀ r∈W,r<2*N.arcs.length:=λ r hr=>(hG.ok _ _ (hI.mem r hr)).1;have hroom:∀ r∈W,least<=rm.getD r 0:=λ r hr=>by obtain⟨_,_,_,h⟩:=hI.head r hr;exact h
 have hWne:W≠[]:=by
  intro h0;have hsr:=hR.src;have hsk:=hR.snk;have hdf:=hR.diff;rw[h0] at hend;simp only[cV,List.getLast?_nil] at hend;omega
 obtain⟨r0,hr0,hmo⟩:=ky (rm:=rm) hWne;have hma:=hroom r0 hr0;rw[<- hmo] at hma;obtain⟨a,haeq⟩:∃ a,a=cJ rm W:=⟨_,rfl⟩;rw[<- haeq] at hma hmo ⊢;have hmle:∀ r∈W,a<=rm.getD r 0:=λ r hr=>haeq▸mZ r hr;obtain⟨k1,k2,k3⟩:=rO hR hf hlt hnd.1 hon (by omega:0<=a) (he▸hmle);rw[<- he] at k2;have hzl:rm.length=2*N.arcs.length:=by rw[he];exact iq hf.len
 have hget:=f8 (a:=a) hzl hlt hnd.1
 have hmono:∀ v r,r∈L v->(cm a W rm).getD r 0<=rm.getD r 0:=by
  intro v r hr;rw[hget]
  have:bN r∉W:=by
   intro hin;have g1:=(hG.ok _ _ hr);have g2:=(hG.ok _ _ (hI.mem _ hin)).2.2;have g3:=g1.2.2;rw[iL,fJ] at g2;rw[<- g1.2.1] at g3;omega
  rw[if_neg this];split<;>omega
 refine⟨hWne,hlt,hnd.1,hnd.2,by omega,hma,⟨_,k1,k2⟩,?_,hmono,r0,_,hI.mem r0 hr0,hroom r0 hr0,?_⟩
 ·refine⟨hI.pl,sx _ hon,λ r hr=>?_,λ v p hp j r hj hjr=>?_⟩
  ·obtain⟨p,g1,g2,_⟩:=hI.head r (List.mem_of_mem_take hr);refine⟨p,g1,g2,?_⟩;obtain⟨i,hi,hir⟩:=List.mem_iff_getElem.1 hr;have hi':i<mE least (cm a W rm) W:=by rw[List.length_take] at hi;omega
   rw[IU] at hir;have:=IP hi';rw[hir] at this
   simpa using this
  ·rcases hI.pass v p hp j r hj hjr with k|k
   ·exact .inl (by have:=hmono v r (GB hjr);omega)
   ·exact .inr k
 ·rw[hget,if_neg (λ hin=>hnd.2 r0 hr0 _ hin rfl),if_pos hr0];omega
theorem PI.start{N:aO}{L:Nat->LN}{least:Int}{rm:LI}:PI N L least rm (List.replicate (N.nodes.toNat+1) 0) []:=by
 refine⟨by simp,⟨_,rfl⟩,λ r hr=>(by cases hr),λ v p hp j r hj=>?_⟩;rw[GU] at hp;split at hp
 ·simp only[GA] at hp;omega
 ·cases hp
def mJ(ls:LN)(least:Int)(rm:LI):Nat:=(ls.filter λ r=>decide (least<=rm.getD r 0)).length
theorem xl{least:Int}{rm rm':LI}:∀ {ls:LN},(∀ r∈ls,rm'.getD r 0<=rm.getD r 0)->mJ ls least rm'<=mJ ls least rm
 |[],_=>GN _
 |r::ls,h=>by
  have ih:=xl (ls:=ls) (least:=least) λ q hq=>h q (by simp[hq]);have h1:=h r (by simp);unfold mJ at*;simp only[Ib,Ha];split
  ·rw[if_pos (by omega)];simp only[GG];omega
  ·split
   ·simp only[GG];omega
   ·exact ih
theorem r9{least:Int}{rm rm':LI}:∀ {ls:LN},(∀ r∈ls,rm'.getD r 0<=rm.getD r 0)->∀ r∈ls,least<=rm.getD r 0->rm'.getD r 0<least->mJ ls least rm'<mJ ls least rm
 |[],_,_,h,_,_=>by cases h
 |q::ls,h,r,hr,h1,h2=>by
  have hle:=xl (ls:=ls) (least:=least) λ q hq=>h q (by simp[hq]);have hq:=h q (by simp);unfold mJ at*;simp only[Ib,Ha]
  rcases GL.1 hr with rfl|hr
  ·rw[if_neg (by omega),if_pos h1];simp only[GG];omega
  ·have ih:=r9 (ls:=ls) (fun q hq=>h q (by simp[hq])) r hr h1 h2;unfold mJ at ih;split
   ·rw[if_pos (by omega)];simp only[GG];omega
   ·split
    ·simp only[GG];omega
    ·exact ih
def ke(N:aO)(least:Int)(f:LI)(ws:List (LN×Int))(f':LI):Prop:=
 ∃ lv,eb N (aW (N.arcs.zip f)) least lv/\aK N f'/\
   Bl N (en N (cq N (aW (N.arcs.zip f)) least lv (2*N.arcs.length))) least (aW (N.arcs.zip f)) (List.replicate (N.nodes.toNat+1) 0) [] ws (aW (N.arcs.zip f'))
theorem uN:∀ (ps:List (dM×Int)) (v:Int),(∀ p∈ps,0<=p.2/\p.2<=p.1.cap)→-((ps.map (·.1.cap)).sum)<=da ps v/\da ps v<=(ps.map (·.1.cap)).sum
 |[],_,_=>by simp[da]
 |p::ps,v,h=>by
  have ih:=uN ps v λ q hq=>h q (by simp[hq]);have hp:=h p (by simp);simp only[da] at ih;simp only[da,GM,GY];split<;>split<;>omega
theorem AK{l:List dM}{f:LI}(h:f.length=l.length):(l.zip f).map (·.1.cap)=l.map (·.cap):=by
 have hzm:(l.zip f).map (·.1)=l:=List.map_fst_zip (by omega);have e:(l.zip f).map (·.1.cap)=((l.zip f).map (·.1)).map (·.cap):=by rw[HZ];rfl
 rw[e,hzm]
theorem dN{N:aO}(hR:N.Right){f:LI}(hf:Ranged N f)(v:Int):-4611686018427387903<=da (N.arcs.zip f) v/\da (N.arcs.zip f) v<=4611686018427387903:=by
 have h:=uN (N.arcs.zip f) v hf.all;rw[AK hf.len] at h;have:=hR.sum;omega
theorem sv{N:aO}{rm:LI}{least:Int}{lv lv':LI}(h:eb N rm least lv)(h':eb N rm least lv'):∀ (k v:Nat),cQ lv v=k->0<=cQ lv' v/\cQ lv' v<=k
 |0,v,hv=>by rw[h.zero v (by simpa using hv),h'.src];simp
 |k+1,v,hv=>by
  obtain⟨r,h1,h2,h3,h4⟩:=h.back v (by omega);have ih:=sv h h' k (dG N r) (by omega);have:=h'.step r h1 h2 ih.1;rw[h3] at this;omega
theorem kG{N:aO}{rm:LI}{least:Int}{lv lv':LI}(h:eb N rm least lv)(h':eb N rm least lv')(v:Nat):cQ lv v=cQ lv' v:=by
 have r1:=h.rng v;have r2:=h'.rng v;by_cases e:0<=cQ lv v
 ·have k1:=sv h h' (cQ lv v).toNat v (by omega);have k2:=sv h' h (cQ lv' v).toNat v (by omega);omega
 ·by_cases e2:0<=cQ lv' v
  ·have k2:=sv h' h (cQ lv' v).toNat v (by omega);omega
  ·omega
theorem vW{N:aO}{rm:LI}{least:Int}{lv lv':LI}(h:eb N rm least lv)(h':eb N rm least lv'):lv=lv':=by
 refine I0 (by rw[h.len,h'.len]) λ i h1 h2=>?_;have e1:=sP (Gy h1);have e2:=sP (Gy h2);rw[<- e1,<- e2];exact kG h h' i
theorem Ej{N:aO}{L:Nat->LN}{least:Int}{rm rm':LI}{pos W:LN}(h:Bl N L least rm pos W [] rm'):rm'=rm:=by
 cases h;rfl
theorem u3{N:aO}{f g:LI}(hf:f.length=N.arcs.length)(hg:g.length=N.arcs.length)(h:aW (N.arcs.zip f)=aW (N.arcs.zip g)):f=g:=by
 refine I0 (by omega) λ i hi hi2=>?_;have har:N.arcs[i]?=some (N.arcs[i]'(by omega)):=Gy _;have g1:=(dD (fg har (Gy hi))).2;have g2:=(dD (fg har (Gy hi2))).2;rw[h] at g1;rw[g1] at g2
 simpa using g2
theorem ke.keeps{N:aO}(hR:N.Right){least:Int}(hle:1<=least){f f':LI}{ws:List (LN×Int)}(hf:aK N f)(h:ke N least f ws f'){lv:LI}(hlv:eb N (aW (N.arcs.zip f)) least lv):
 aK N f'/\da (N.arcs.zip f) N.snk+least*ws.length<=da (N.arcs.zip f') N.snk/\(0<=cQ lv N.snk.toNat->ws≠[]):=by
 obtain⟨lv',hlv',hf',hb⟩:=h;obtain⟨f2,h1,h2,h3,h4,_⟩:=hb.keeps hR (ii hlv') hle f hf rfl PI.start;have hz:f'=f2:=u3 hf'.len h1.len h2;subst hz;refine⟨hf',h3,λ hd hw=>?_⟩;subst hw;have hrm:=Ej hb;rw[hrm] at h4;rw[kG hlv hlv'] at hd;exact h4 _ (Bi hlv' (cQ lv' N.snk.toNat).toNat _ (by omega)) rfl
inductive Dn (N:aO) (least:Int):LI->Nat->Nat->LI->Prop
 |stop {f lv:LI}:eb N (aW (N.arcs.zip f)) least lv->cQ lv N.snk.toNat<0->Dn N least f 0 0 f
 |step {f f1 f' lv:LI} {ws:List (LN×Int)} {p k:Nat}:eb N (aW (N.arcs.zip f)) least lv->0<=cQ lv N.snk.toNat->ke N least f ws f1->Dn N least f1 p k f'->Dn N least f (p+1) (ws.length+k) f'
theorem Dn.keeps{N:aO}(hR:N.Right){least:Int}(hle:1<=least){f f':LI}{p k:Nat}(h:Dn N least f p k f'):aK N f->
 aK N f'/\da (N.arcs.zip f) N.snk+least*k<=da (N.arcs.zip f') N.snk/\p<=k/\∃ lv,eb N (aW (N.arcs.zip f')) least lv/\cQ lv N.snk.toNat<0:=by
 induction h with
 |stop h1 h2=>exact λ hf=>⟨hf,by simp,GN _,_,h1,h2⟩
 |@step f f1 f' lv ws p k h1 h2 h3 _ ih=>
  intro hf;obtain⟨k1,k2,k3⟩:=h3.keeps hR hle hf h1;obtain⟨g1,g2,g3,g4⟩:=ih k1;have hw:=Hj.2 (k3 h2);refine⟨g1,?_,by omega,g4⟩
  have:least*((ws.length+k:Nat):Int)=least*ws.length+least*k:=by
   rw[Ii,Int.mul_add]
  omega
theorem tQ{N:aO}{least:Int}{f lv:LI}(hf:Ranged N f)(h:eb N (aW (N.arcs.zip f)) least lv)(hs:cQ lv N.snk.toNat<0):¬ oH N (aW (N.arcs.zip f)) least N.snk:=λ hr=>by
 have:=DB h (by rw[de,Ih,hf.len,IF]) hr;omega
def pj(N:aO)(f:LI)(s:LI):Prop:=∀ r,r<2*N.arcs.length->1<=(aW (N.arcs.zip f)).getD r 0->(cE N r).1∈s->(cE N r).2∈s
open Classical in
noncomputable def kK(s:LI)(ps:List (dM×Int)):LI:=ps.map λ p=>(if p.1.fr∈s/\p.1.to∉s then p.1.cap-p.2 else 0)+(if p.1.fr∉s/\p.1.to∈s then p.2 else 0)
theorem kW(s:LI):∀ ps:List (dM×Int),(kK s ps).sum=jb s (ps.map (·.1))-ki s ps
 |[]=>by simp[kK,jb,ki]
 |p::ps=>by
  have ih:=kW s ps;unfold kK jb ki at*;simp only[GM,GY];by_cases h1:p.1.fr∈s<;>by_cases h2:p.1.to∈s<;>simp only[h1,h2,Iq,IY,IZ,and_false,not_true,not_false_iff]<;>omega
theorem p5:∀ (l:LI),(∀ x∈l,0<=x)->(l.sum=0↔∀ x∈l,x=0)
 |[],_=>by simp
 |x::l,h=>by
  have ih:=p5 l λ y hy=>h y (by simp[hy]);have h0:=h x (by simp);have h1:=gg l λ y hy=>h y (by simp[hy]);rw[GY]
  constructor
  ·intro e y hy
   rcases GL.1 hy with rfl|hy
   ·omega
   ·exact ih.1 (by omega) y hy
  ·intro e;have e1:=e x (by simp);have e2:=ih.2 λ y hy=>e y (by simp[hy]);omega
theorem rY{N:aO}{f s:LI}(hf:Ranged N f):pj N f s↔∀ x∈kK s (N.arcs.zip f),x=0:=by
 constructor
 ·intro h x hx;obtain⟨p,hp,rfl⟩:=List.mem_map.1 hx;obtain⟨i,hi,hip⟩:=List.mem_iff_getElem.1 hp;have hz:(N.arcs.zip f)[i]?=some p:=by rw[List.getElem?_eq_getElem hi,hip]
  have ha:=(Hr.1 hz).1;have hil:=(GC.1 ha).1;obtain⟨g1,g2⟩:=dD hz;have hr:=hf.all p hp
  have e1:cE N (2*i)=(p.1.fr,p.1.to):=by
   unfold cE;rw[show 2*i/2=i by omega,ha];show dn p.1 (2*i)=_;unfold dn;rw[if_neg (by omega)]
  have e2:cE N (2*i+1)=(p.1.to,p.1.fr):=by
   unfold cE;rw[show (2*i+1)/2=i by omega,ha];show dn p.1 (2*i+1)=_;unfold dn;rw[if_pos (by omega)]
  have k1:=h (2*i) (by omega);have k2:=h (2*i+1) (by omega);rw[e1,GD,g1,G9] at k1;rw[e2,GD,g2,G9] at k2;simp only at k1 k2
  have z1:(if p.1.fr∈s/\p.1.to∉s then p.1.cap-p.2 else 0)=0:=by
   split
   ·rename_i hc;have:¬ 1<=p.1.cap-p.2:=λ h1=>hc.2 (k1 h1 hc.1);omega
   ·rfl
  have z2:(if p.1.fr∉s/\p.1.to∈s then p.2 else 0)=0:=by
   split
   ·rename_i hc;have:¬ 1<=p.2:=λ h1=>hc.1 (k2 h1 hc.2);omega
   ·rfl
  rw[z1,z2];rfl
 ·intro h r hr h1 hin;obtain⟨a,ha⟩:∃ a,N.arcs[r/2]?=some a:=⟨N.arcs[r/2]'(by omega),List.getElem?_eq_getElem (by omega)⟩;have hx:f[r/2]?=some (f.getD (r/2) 0):=by rw[List.getD_eq_getElem?_getD,List.getElem?_eq_getElem (by have:=hf.len;omega)];rfl
  have hz:=fg ha hx;have hzm:=GB hz;obtain⟨g1,g2⟩:=dD hz;have hrg:=hf.all _ hzm;have hs:=h _ (G0.2 ⟨_,hzm,rfl⟩);have he:cE N r=dn a r:=by unfold cE;rw[ha]
  rw[he] at hin ⊢;simp only at g1 g2 hrg hs;refine Hn λ hno=>?_;by_cases hm:r%2=1
  ·have e:dn a r=(a.to,a.fr):=by unfold dn;rw[if_pos hm]
   rw[e] at hin hno;simp only at hin hno;rw[if_neg (λ hc=>hno hc.1),if_pos ⟨hno,hin⟩] at hs;rw[show 2*(r/2)+1=r by omega] at g2;rw[GD,g2,G9] at h1;omega
  ·have e:dn a r=(a.fr,a.to):=by unfold dn;rw[if_neg hm]
   rw[e] at hin hno;simp only at hin hno;rw[if_pos ⟨hin,hno⟩,if_neg (λ hc=>hc.1 hin)] at hs;rw[show 2*(r/2)=r by omega] at g1;rw[GD,g1,G9] at h1;omega
theorem pN{N:aO}(hR:N.Right){f:LI}(hf:aK N f){s:LI}(hs:fu N s):jb s N.arcs=da (N.arcs.zip f) N.snk↔pj N f s:=by
 rw[rY hf.toRanged,<- p5,kW,kY hR hf hs,show (N.arcs.zip f).map (·.1)=N.arcs from List.map_fst_zip (by have:=hf.len;omega)]
 ·omega
 ·intro x hx;obtain⟨p,hp,rfl⟩:=G0.1 hx;have hr:=hf.all p hp;split<;>split<;>omega
theorem lQ(l:LB)(is:Bool):∀ k,(cN l is k).Pairwise (·<·)
 |0=>by simp[cN]
 |k+1=>by
  rw[oz];split
  ·refine u4 (lQ l is k) λ x hx=>?_;obtain⟨v,h1,_,_,rfl⟩:=o5.1 hx;omega
  ·rw[Hc];exact lQ l is k
section
variable {N:aO} {f:LI} {n:Nat} {l:LB}
theorem jz(hn:N.nodes=n)(hlr:∀ v:Nat,l[v]?=some true↔v<=n/\oH N (aW (N.arcs.zip f)) 1 v){x:Int}:x∈cN l true (n+1)↔1<=x/\x<=N.nodes/\oH N (aW (N.arcs.zip f)) 1 x:=by
 rw[o5]
 constructor
 ·rintro⟨v,h1,h2,h3,rfl⟩;exact⟨by omega,by omega,((hlr v).1 h3).2⟩
 ·rintro⟨h1,h2,h3⟩;have e:((x.toNat:Nat):Int)=x:=by omega
  exact⟨x.toNat,by omega,by omega,(hlr _).2 ⟨by omega,by rw[e];exact h3⟩,e.symm⟩
theorem rx(hR:N.Right)(hf:aK N f)(hn:N.nodes=n)(hno:¬ oH N (aW (N.arcs.zip f)) 1 N.snk)(hlr:∀ v:Nat,l[v]?=some true↔v<=n/\oH N (aW (N.arcs.zip f)) 1 v):fu N (cN l true (n+1))/\pj N f (cN l true (n+1)):=by
 have hsr:=hR.src;refine⟨⟨lQ _ _ _,λ x hx=>?_,(jz hn hlr).2 ⟨hsr.1,hsr.2,.src⟩,λ h=>hno ((jz hn hlr).1 h).2.2⟩,λ r hr h1 hin=>?_⟩
 ·have:=(jz hn hlr).1 hx;exact⟨this.1,this.2.1⟩
 ·have h2:=(jz hn hlr).1 hin;have h3:=gN hR hr;exact (jz hn hlr).2 ⟨h3.2.1,h3.2.2,.step _ r h2.2.2 (by rw[de,Ih,hf.len,IF];exact hr) rfl h1⟩
end
theorem uC{N:aO}(hR:N.Right){f s:LI}(hf:aK N f)(hs:fu N s):da (N.arcs.zip f) N.snk<=jb s N.arcs:=by
 have h1:=kW s (N.arcs.zip f);rw[<- kY hR hf hs,show (N.arcs.zip f).map (·.1)=N.arcs from List.map_fst_zip (by have:=hf.len;omega)] at h1
 have h2:=gg (kK s (N.arcs.zip f)) λ x hx=>by
  obtain⟨p,hp,rfl⟩:=G0.1 hx;have hr:=hf.all p hp;split<;>split<;>omega
 omega
theorem aO.Right.fits'{N:aO}(h:N.Right):N.Fits:=by
 have h1:=h.nodes;have h2:=h.src;have h3:=h.snk;have h4:=h.len;refine⟨by unfold bU;omega,by unfold bU;omega,by unfold bU;omega,by omega,λ a ha=>?_⟩;have:=h.arc a ha;have:=h.cap ha;unfold bU;omega
theorem ke.rise{N:aO}(hR:N.Right){least:Int}(hle:1<=least){f f':LI}{ws:List (LN×Int)}(hf:aK N f)(h:ke N least f ws f'){lv lv':LI}(hlv:eb N (aW (N.arcs.zip f)) least lv)(hlv':eb N (aW (N.arcs.zip f')) least lv')(hs:0<=cQ lv' N.snk.toNat):
 0<=cQ lv N.snk.toNat/\cQ lv N.snk.toNat<cQ lv' N.snk.toNat:=by
 obtain⟨lv0,h1,h2,h3⟩:=h;obtain rfl:=vW h1 hlv;have hG:=ii h1;obtain⟨f2,k1,k2,_,k4,_,k6⟩:=h3.keeps hR hG hle f hf rfl PI.start;have hfl:=hf.len
 have key:∀ (k v:Nat),cQ lv' v=k->0<=cQ lv0 v/\cQ lv0 v<=k/\(cQ lv0 v=k->LP N (en N (cq N (aW (N.arcs.zip f)) least lv0 (2*N.arcs.length))) least (aW (N.arcs.zip f')) v):=by
  intro k
  induction k with
  |zero=>
   intro v hv;have:=hlv'.zero v (by simpa using hv);subst this;rw[h1.src];exact⟨HO _,HO _,λ _=>.src⟩
  |succ k ih=>
   intro v hv;obtain⟨r,hr,hl,hto,hfr⟩:=hlv'.back v (by omega);obtain⟨i1,i2,i3⟩:=ih (dG N r) (by omega);by_cases hb:least<=(aW (N.arcs.zip f)).getD r 0
   ·have hst:=h1.step r hr hb i1;rw[hto] at hst;refine⟨hst.1,by omega,fun he=>?_⟩;have e1:cQ lv0 (dG N r)=k:=by omega
    have hp:=i3 e1;have hrl:r∈cq N (aW (N.arcs.zip f)) least lv0 (2*N.arcs.length):=eh.2 ⟨hr,hb,by omega,by rw[hto];omega⟩;have:=LP.step (r:=r) hp (fy.2 ⟨hrl,rfl⟩) hl
    rwa [hto] at this
   ·have hup:=k6 r hr (by omega);have hld:=(eh.1 (fy.1 hup).1);have e1:=hld.2.2.2;have e2:=hld.2.2.1;rw[iL,fJ,hto] at e1;rw[fJ,hto] at e2;have:=h1.rng v;exact⟨by omega,by omega,λ he=>by omega⟩
 obtain⟨d,hd⟩:∃ d:Nat,cQ lv' N.snk.toNat=d:=⟨(cQ lv' N.snk.toNat).toNat,by omega⟩;obtain⟨j1,j2,j3⟩:=key d _ hd;refine⟨j1,?_⟩
 rcases Int.lt_or_eq_of_le j2 with h|h
 ·omega
 ·exact absurd rfl (k4 _ (j3 h))
theorem kI:∀ (l:List dM) (v:Int),da (l.zip (List.replicate l.length 0)) v=0
 |[],_=>rfl
 |a::l,v=>by
  have:=kI l v;unfold da at this ⊢;simp only[GG,HE,IK,GM,GY,ite_self];omega
end Go.Proofs.YtmcnpaelaieniaaGreatDoor
