import Derived.Test.YtmcnpaelaieniaaGreatDoorQX74
import Derived.Test.YtmcnpaelaieniaaGreatDoorQX100
import Derived.Test.YtmcnpaelaieniaaGreatDoorQX98
import Derived.Test.YtmcnpaelaieniaaGreatDoorQX60
import Derived.Test.YtmcnpaelaieniaaGreatDoorQX103
/- A part of the proof; see NOTES.md. -/
set_option linter.unusedVariables false
set_option linter.unusedSimpArgs false
namespace Go.Proofs.YtmcnpaelaieniaaGreatDoor
open Go.RowKit
section
variable {N:aO} {L:Nat->LN} {lv:Nat->Int} {least:Int} {tr:LI}
def Cy(L:Nat->LN)(N:aO)(least:Int)(tr:LI)(V:LN):Prop:=∀ r∈V,r∈L (dG N r)/\least<=tr.getD r 0
theorem PI.free{pos W:LN}(h:PI N L least tr pos W):Cy L N least tr W:=λ r hr=>⟨h.mem r hr,by obtain⟨_,_,_,h⟩:=h.head r hr;exact h⟩
theorem PI.stuck(hR:N.Right)(hG:eE N L lv){pos W:LN}(h:PI N L least tr pos W):∀ {V:LN} {u z:Nat},Tr N u V z->Cy L N least tr V->mC L pos u->u≠N.snk.toNat->z≠N.snk.toNat
 |[],u,z,hT,_,_,hu=>by rw[<- (show u=z from hT)];exact hu
 |r::V,u,z,⟨h1,h2⟩,hF,hd,hu=>by
  obtain⟨hr,hl⟩:=hF r (by simp);obtain⟨j,hj,hjr⟩:=Hz.1 hr;have hlt:=(hG.ok _ _ hr).1;have hf:=kN hR hlt;have hlen:dG N r<pos.length:=by rw[h.pl];omega
  obtain⟨p,hp⟩:∃ p,pos[dG N r]?=some p:=⟨pos[dG N r],Gy hlen⟩;have h3:=hd p (by rw[<- h1];exact hp);rw[h1] at hj
  rcases h.pass _ p hp j r (by omega) (by rw[Gy (by rw[h1];exact hj),hjr]) with k|k
  ·omega
  ·exact PI.stuck hR hG h h2 (λ s hs=>hF s (by simp[hs])) k.2 k.1
def BF(L:Nat->LN)(N:aO)(pos V:LN):Prop:=∀ r∈V,∃ p,pos[dG N r]?=some p/\(L (dG N r))[p]?=some r
theorem PI.heads{pos W:LN}(h:PI N L least tr pos W):BF L N pos W:=λ r hr=>by obtain⟨p,h1,h2,_⟩:=h.head r hr;exact⟨p,h1,h2⟩
theorem tG(hR:N.Right)(hG:eE N L lv){pos pos' W W':LN}(h:PI N L least tr pos W)(h':PI N L least tr pos' W'):∀ {V V':LN} {u:Nat},Tr N u V N.snk.toNat->Tr N u V' N.snk.toNat->Cy L N least tr V->Cy L N least tr V'->BF L N pos V->BF L N pos' V'->V=V'
 |[],V',u,hT,hT',_,hF',_,_=>by
  have h1:=(mF hG hT' λ r hr=>(hF' r hr).1).1;rw[<- (show u=N.snk.toNat from hT)] at h1;exact (GT.1 (by omega)).symm
 |r::V,[],u,hT,hT',hF,_,_,_=>by
  have h1:=(mF hG hT λ r hr=>(hF r hr).1).1;rw[<- (show u=N.snk.toNat from hT')] at h1;simp only[GG] at h1;omega
 |r::V,r'::V',u,⟨h1,h2⟩,⟨k1,k2⟩,hF,hF',hH,hH'=>by
  obtain⟨q,a1,a2⟩:=hH r (by simp);obtain⟨q',b1,b2⟩:=hH' r' (by simp);obtain⟨_,c1⟩:=hF r (by simp);obtain⟨_,c2⟩:=hF' r' (by simp);rw[h1] at a1 a2;rw[k1] at b1 b2
  rcases Nat.lt_trichotomy q q' with hlt|heq|hgt
  ·rcases h'.pass u q' b1 q r hlt a2 with k|k
   ·omega
   ·exact absurd rfl (h'.stuck hR hG h2 (λ s hs=>hF s (by simp[hs])) k.2 k.1)
  ·subst heq;rw[a2] at b2;simp only[GA] at b2;subst b2;rw[tG hR hG h h' h2 k2 (λ s hs=>hF s (by simp[hs])) (λ s hs=>hF' s (by simp[hs])) (λ s hs=>hH s (by simp[hs])) (λ s hs=>hH' s (by simp[hs]))]
  ·rcases h.pass u q a1 q' r' hgt b2 with k|k
   ·omega
   ·exact absurd rfl (h.stuck hR hG k2 (λ s hs=>hF' s (by simp[hs])) k.2 k.1)
theorem PI.one(hR:N.Right)(hG:eE N L lv){pos pos' W W':LN}(h:PI N L least tr pos W)(h':PI N L least tr pos' W')(he:cV N W=N.snk.toNat)(he':cV N W'=N.snk.toNat):W=W':=by
 have h1:=h.on;have h2:=h'.on;rw[he] at h1;rw[he'] at h2;exact tG hR hG h h' h1 h2 h.free h'.free h.heads h'.heads
theorem td(hR:N.Right)(hG:eE N L lv):∀ (k:Nat) {pos W:LN},PI N L least tr pos W->(N.nodes.toNat+2)*cH L N.nodes.toNat pos+(N.nodes.toNat+1-W.length)<=k->∃ b pos' W',Nx N L least tr pos W b pos' W':=by
 intro k;have hnn:=hR.nodes;have hsr:=hR.src;have hsk:=hR.snk;have hdf:=hR.diff
 have hend:∀ {pos W:LN},PI N L least tr pos W->cV N W<=N.nodes.toNat/\W.length<=N.nodes.toNat:=by
  intro pos W h;have h1:=(mF hG h.on h.mem).1;have h2:=hG.hi (cV N W);have h3:=hG.hi N.src.toNat;refine⟨?_,by omega⟩
  rcases Ht W with rfl|⟨W0,r,rfl⟩
  ·show N.src.toNat<=_;omega
  ·rw[Hu,nm];have:=(gV hR ((hG.ok _ _ (h.mem r (by simp))).1)).2.2;omega
 induction k with
 |zero=>
  intro pos W h hk;have:=hend h;omega
 |succ k ih=>
  intro pos W h hk;have hb:=hend h;by_cases hs:cV N W=N.snk.toNat
  ·exact⟨_,_,_,.hit hs⟩
  ·have hlen:cV N W<pos.length:=by rw[h.pl];omega
   obtain⟨p,hp⟩:∃ p,pos[cV N W]?=some p:=⟨pos[cV N W],Gy hlen⟩;by_cases hlt:p<(L (cV N W)).length
   ·obtain⟨r,hr⟩:∃ r,(L (cV N W))[p]?=some r:=⟨(L (cV N W))[p],Gy hlt⟩;by_cases hl:least<=tr.getD r 0
    ·have hg:=h.go hG hp hr hl;have hb2:=hend hg;rw[GE,G7] at hb2;obtain⟨b,pos',W',hN⟩:=ih hg (by rw[GE,G7];omega);exact⟨b,pos',W',.go hs hp hr hl hN⟩
    ·have hg:=h.skip hG hp hr (by omega);have hrem:=f0 (L:=L) hp hb.1 hlt;have:(N.nodes.toNat+2)*cH L N.nodes.toNat pos=(N.nodes.toNat+2)*cH L N.nodes.toNat (pos.set (cV N W) (p+1))+(N.nodes.toNat+2):=by rw[← hrem,Nat.mul_add,Nat.mul_one]
     obtain⟨b,pos',W',hN⟩:=ih hg (by omega);exact⟨b,pos',W',.skip hs hp hr (by omega) hN⟩
   ·rcases Ht W with rfl|⟨W0,r,rfl⟩
    ·exact⟨_,_,_,.stop hs hp (Nat.le_of_not_lt hlt)⟩
    ·rw[List.concat_eq_append] at*;obtain⟨q,hq,hqr,_⟩:=h.back_at;have hg:=h.back hG hs hp (by omega) hq;have hb0:=hend h.drop;have hrem:=f0 (L:=L) hq hb0.1 (List.getElem?_eq_some_iff.1 hqr).1;have:(N.nodes.toNat+2)*cH L N.nodes.toNat pos=(N.nodes.toNat+2)*cH L N.nodes.toNat (pos.set (cV N W0) (q+1))+(N.nodes.toNat+2):=by rw[← hrem,Nat.mul_add,Nat.mul_one]
     rw[GE,G7] at hk hb;obtain⟨b,pos',W',hN⟩:=ih hg (by omega);exact⟨b,pos',W',.back hs hp (by omega) hq hN⟩
theorem TR.bl(hR:N.Right)(hG:eE N L lv)(hle:1<=least){ws:List (LN×Int)}{tr':LI}(h:TR N L least tr ws tr'):∀ {f:LI} {pos W:LN},aK N f->tr=aW (N.arcs.zip f)->PI N L least tr pos W->Bl N L least tr pos W ws tr':=by
 have hsr:=hR.src;have hsk:=hR.snk;have hdf:=hR.diff
 induction h with
 |@stop tr pos0 hP hd=>
  intro f pos W hf he hI;obtain⟨b,pos',W',hN⟩:=td hR hG _ hI (GN _);obtain⟨k1,k2,k3⟩:=hN.keeps hG hI
  cases b with
  |false=>exact .stop hN
  |true=>
   have h1:=k1.on;rw[k2 rfl] at h1;exact absurd rfl (hP.stuck hR hG h1 k1.free hd (by omega))
 |@walk tr tr' pos0 W0 ws hP hend _ ih=>
  intro f pos W hf he hI;obtain⟨b,pos',W',hN⟩:=td hR hG _ hI (GN _);obtain⟨k1,k2,k3⟩:=hN.keeps hG hI
  cases b with
  |false=>
   obtain⟨rfl,hd⟩:=k3 rfl;have h1:=hP.on;rw[hend] at h1;exact absurd rfl (k1.stuck hR hG h1 hP.free hd (by omega))
  |true=>
   obtain rfl:W0=W':=hP.one hR hG k1 hend (k2 rfl);obtain⟨_,_,_,_,_,_,⟨f',hf',hf'e⟩,hPI',_⟩:=iP hR hG hle hf he k1 hend;exact .walk hN (ih hf' hf'e hPI')
end
theorem wx(N:aO)(rm:LI)(least:Int)(lv:LI)(m:Nat):(cq N rm least lv (2*m)).length<=m:=by
 have h1:((cq N rm least lv (2*m)).map (·/2)).Nodup:=by
  have hnd:(cq N rm least lv (2*m)).Nodup:=List.Pairwise.filter _ Ia
  have hinj:∀ a∈cq N rm least lv (2*m),∀ b∈cq N rm least lv (2*m),a/2=b/2->a=b:=by
   intro a ha b hb hab;by_cases e:a=b
   ·exact e
   ·have h3:=(eh.1 ha).2.2.2;have h4:=(eh.1 hb).2.2.2;have:b=bN a:=by unfold bN;split<;>omega
    rw[this,iL,fJ] at h4;omega
  revert hnd hinj
  generalize cq N rm least lv (2*m)=l
  intro hnd hinj
  induction l with
  |nil=>exact IX
  |cons x l ih=>
   obtain⟨h3,h4⟩:=GZ.1 hnd;rw[GM,GZ];refine⟨λ hin=>?_,ih h4 λ a ha b hb=>hinj a (by simp[ha]) b (by simp[hb])⟩;obtain⟨y,hy,he⟩:=G0.1 hin;exact h3 (hinj x (by simp) y (by simp[hy]) he.symm▸hy)
 have h2:=mi _ (List.range m) h1 λ x hx=>by
  obtain⟨y,hy,rfl⟩:=G0.1 hx;have:=(eh.1 hy).1;rw[Hs];omega
 rwa [GH,HH] at h2
theorem yI(N:aO)(ls:LN)(n:Nat):cH (en N ls) n (List.replicate (n+1) 0)<=ls.length:=by
 unfold cH
 have h0:∀ v∈List.range (n+1),(en N ls v).length-(List.replicate (n+1) 0).getD v 0=(en N ls v).length:=by
  intro v hv;rw[GD,GU,if_pos (Hs.1 hv)];rfl
 rw[HM h0]
 have:∀ (vs:LN) (ls:LN),vs.Nodup->(vs.map λ v=>(en N ls v).length).sum<=ls.length:=by
  intro vs ls hvs
  induction ls with
  |nil=>
   have:(vs.map λ v=>(en N [] v).length)=vs.map λ _=>0:=HM λ v _=>rfl;rw[this]
   clear this hvs
   induction vs with
   |nil=>exact GN _
   |cons v vs ih=>simpa using ih
  |cons r ls ih=>
   have h1:∀ v,(en N (r::ls) v).length=(en N ls v).length+if dG N r=v then 1 else 0:=by
    intro v;unfold en;rw[Ib];by_cases e:dG N r=v<;>simp[e]
   have h2:∀ vs:LN,vs.Nodup->(vs.map λ v=>(en N (r::ls) v).length).sum<=(vs.map λ v=>(en N ls v).length).sum+1/\(dG N r∉vs->(vs.map λ v=>(en N (r::ls) v).length).sum=(vs.map λ v=>(en N ls v).length).sum):=by
    intro vs hn
    induction vs with
    |nil=>exact⟨by simp,λ _=>rfl⟩
    |cons v vs ih2=>
     obtain⟨a1,a2⟩:=GZ.1 hn;obtain⟨b1,b2⟩:=ih2 a2;simp only[GM,GY,h1 v];by_cases e:dG N r=v
     ·have:=b2 (e▸a1);rw[if_pos e];exact⟨by omega,λ h=>absurd (by rw[e];simp) h⟩
     ·rw[if_neg e];exact⟨by omega,λ h=>by have:=b2 (λ h'=>h (by simp[h']));omega⟩
   have:=(h2 vs hvs).1;rw[GG];omega
 exact this _ _ Ia
section
variable {N:aO} {L:Nat->LN} {lv:Nat->Int} {least:Int} {tr:LI}
theorem TR.count(hR:N.Right)(hG:eE N L lv)(hle:1<=least){ls:LN}(hL:∀ v r,r∈L v↔r∈ls/\dG N r=v){ws:List (LN×Int)}{tr':LI}(h:TR N L least tr ws tr'):∀ {f:LI},aK N f->tr=aW (N.arcs.zip f)->ws.length<=mJ ls least tr/\(∀ r,r∉ls->bN r∉ls->tr'.getD r 0=tr.getD r 0)/\∃ f',aK N f'/\tr'=aW (N.arcs.zip f'):=by
 induction h with
 |stop hP hd=>exact λ hf he=>⟨GI _,λ _ _ _=>rfl,_,hf,he⟩
 |@walk tr tr' pos0 W0 ws hP hend _ ih=>
  intro f hf he;obtain⟨_,hlt,hnd,_,_,_,⟨f',hf',hf'e⟩,_,hmono,r,v,k1,k2,k3⟩:=iP hR hG hle hf he hP hend;obtain⟨i1,i2,i3⟩:=ih hf' hf'e;refine⟨?_,λ q hq hfq=>?_,i3⟩
  ·have:=r9 (ls:=ls) (least:=least) (rm:=tr) (rm':=cm (cJ tr W0) W0 tr) (λ q hq=>hmono _ q ((hL _ q).2 ⟨hq,rfl⟩)) r ((hL v r).1 k1).1 k2 k3;rw[GG];omega
  ·rw[i2 q hq hfq,f8 (a:=cJ tr W0) (by rw[he];exact iq hf.len) hlt hnd q,if_neg (λ h=>hfq ((hL _ _).1 (hP.mem _ h)).1),if_neg (λ h=>hq ((hL _ _).1 (hP.mem _ h)).1)];omega
end
noncomputable def iQ(f f':LI)(ls:LN)(k i:Nat):Int:=if 2*i+2<=k then f'.getD i 0 else if 2*i+1<=k/\2*i∈ls then f'.getD i 0 else f.getD i 0
noncomputable def kg(f f':LI)(ls:LN)(m k:Nat):LI:=(List.range m).map (iQ f f' ls k)
theorem kD{f f':LI}{ls:LN}{m k i:Nat}(h:i<m):(kg f f' ls m k)[i]?=some (iQ f f' ls k i):=by simp[kg,h]
theorem d6(f f':LI)(ls:LN)(m k:Nat):(kg f f' ls m k).length=m:=by simp[kg]
theorem uM{f f':LI}{ls:LN}{m k:Nat}(hk:k<2*m){x:Int}(hx:x=iQ f f' ls (k+1) (k/2)):(kg f f' ls m k).set (k/2) x=kg f f' ls m (k+1):=by
 apply H6
 intro j;by_cases hj:j<m
 ·rw[kD hj];by_cases e:k/2=j
  ·subst e;rw[GO (by rw[d6];exact hj),hx]
  ·rw[GR e,kD hj]
   congr 1
   unfold iQ;have h1:(2*j+2<=k)↔(2*j+2<=k+1):=by omega
   by_cases e2:2*j+2<=k
   ·rw[if_pos e2,if_pos (h1.1 e2)]
   ·rw[if_neg e2,if_neg (fun h=>e2 (h1.2 h))];have h3:(2*j+1≤k)↔(2*j+1≤k+1):=by omega
    by_cases h4:2*j+1<=k/\2*j∈ls
    ·rw[if_pos h4,if_pos ⟨h3.1 h4.1,h4.2⟩]
    ·rw[if_neg h4,if_neg (λ h=>h4 ⟨h3.2 h.1,h.2⟩)]
 ·rw[Hb (by rw[Hp,d6];omega),Hb (by rw[d6];omega)]
theorem uX{l l':LI}(hl:l.length=l'.length)(h:∀ i,i<l.length->l.getD i 0=l'.getD i 0):l=l':=by
 apply H6
 intro i;by_cases hi:i<l.length
 ·have:=h i hi;rw[List.getD_eq_getElem?_getD,List.getD_eq_getElem?_getD,List.getElem?_eq_getElem hi,List.getElem?_eq_getElem (by omega)] at this;rw[List.getElem?_eq_getElem hi,List.getElem?_eq_getElem (by omega)]
  simpa using this
 ·rw[Hb (by omega),Hb (by omega)]
theorem vH{f f':LI}{ls:LN}:kg f f' ls f.length 0=f:=by
 refine uX (d6 _ _ _ _ _) λ i hi=>?_;rw[d6] at hi;rw[GD,kD hi,G9];unfold iQ;rw[if_neg (by omega),if_neg (by omega)]
theorem zO{f f':LI}{ls:LN}(h:f'.length=f.length):kg f f' ls f.length (2*f.length)=f':=by
 refine uX (by rw[d6];exact h.symm) λ i hi=>?_;rw[d6] at hi;rw[GD,kD hi,G9];unfold iQ;rw[if_pos (by omega)]
theorem oN{N:aO}{f:LI}(hl:f.length=N.arcs.length){i:Nat}(hi:i<N.arcs.length):∃ a,N.arcs[i]?=some a/\(aW (N.arcs.zip f)).getD (2*i) 0=a.cap-f.getD i 0/\(aW (N.arcs.zip f)).getD (2*i+1) 0=f.getD i 0:=by
 obtain⟨a,ha⟩:∃ x,N.arcs[i]?=some x:=⟨N.arcs[i],Gy hi⟩;have hx:f[i]?=some (f.getD i 0):=by rw[GD,Gy (by omega)];rfl
 obtain⟨g1,g2⟩:=dD (fg ha hx);exact⟨a,ha,by rw[GD,g1];rfl,by rw[GD,g2];rfl⟩
theorem yp{N:aO}{f f':LI}{ls:LN}{rmF:LI}(hl:f.length=N.arcs.length)(hl':f'.length=N.arcs.length)(hin:∀ r∈ls,rmF.getD r 0=(aW (N.arcs.zip f')).getD r 0)(hout:∀ r,r∉ls->rmF.getD r 0=(aW (N.arcs.zip f)).getD r 0)
 (hsame:∀ r,r∉ls->bN r∉ls->(aW (N.arcs.zip f')).getD r 0=(aW (N.arcs.zip f)).getD r 0) (hflip:∀ r∈ls,bN r∉ls) {k:Nat} (hk:k<2*N.arcs.length):
 (k%2=0->iQ f f' ls k (k/2)+((aW (N.arcs.zip f)).getD k 0-rmF.getD k 0)=iQ f f' ls (k+1) (k/2))/\(k%2=1->iQ f f' ls k (k/2)-((aW (N.arcs.zip f)).getD k 0-rmF.getD k 0)=iQ f f' ls (k+1) (k/2)):=by
 obtain⟨i,hi⟩:∃ i,k/2=i:=⟨_,rfl⟩;have him:i<N.arcs.length:=by omega
 obtain⟨a,ha,g1,g2⟩:=oN hl him;obtain⟨a',ha',g3,g4⟩:=oN hl' him;rw[ha] at ha';simp only[GA] at ha';subst ha';rw[hi];refine⟨λ h0=>?_,λ h1=>?_⟩
 ·obtain rfl:k=2*i:=by omega
  unfold iQ;rw[if_neg (by omega),if_neg (by omega),if_neg (by omega)];by_cases e:2*i∈ls
  ·rw[if_pos ⟨by omega,e⟩,hin _ e,g1,g3];omega
  ·rw[if_neg (λ h=>e h.2),hout _ e];omega
 ·obtain rfl:k=2*i+1:=by omega
  unfold iQ;rw[if_neg (by omega),if_pos (show 2*i+2<=2*i+1+1 by omega)];have hfl:bN (2*i+1)=2*i:=by unfold bN;rw[if_pos (by omega)];omega
  have hfl2:bN (2*i)=2*i+1:=by unfold bN;rw[if_neg (by omega)]
  by_cases e:2*i∈ls
  ·rw[if_pos ⟨by omega,e⟩,hout _ (by rw[<- hfl2];exact hflip _ e)];omega
  ·rw[if_neg (λ h=>e h.2)];by_cases e2:2*i+1∈ls
   ·rw[hin _ e2,g2,g4];omega
   ·have:=hsame _ e2 (by rw[hfl];exact e);rw[hout _ e2];rw[g2,g4] at this;omega
theorem wM{N:aO}(hR:N.Right){f f':LI}(hf:Ranged N f)(hf':Ranged N f'){ls:LN}{k i:Nat}(hi:i<N.arcs.length):0<=iQ f f' ls k i/\iQ f f' ls k i<=4611686018427387903:=by
 obtain⟨_,_,_,g2⟩:=oN hf.len hi;obtain⟨_,_,_,g4⟩:=oN hf'.len hi;have h1:=eW hR hf (2*i+1);have h2:=eW hR hf' (2*i+1);rw[g2] at h1;rw[g4] at h2;unfold iQ;split
 ·exact h2
 ·split
  ·exact h2
  ·exact h1
def ez(n m:Nat):Nat:=(dj n+3)*m+dE n*(n+1)+(db (n+1)+5*(n+1)+1)+(2*db (n+1)+11*(n+1)+1)*(n+1)+(n+1)
def DP(N:aO)(f:LI)(least:Int)(m:Nat)(v:Value)(H':Heap):Prop:=
 (aK N f/\1<=least/\∃ (f':LI) (ws:List (LN×Int)) (k:Nat) (Ao:OA) (co:Nat),ke N least f ws f'/\2*N.arcs.length<=k/\k<=ez N.nodes.toNat N.arcs.length/\ws.length<=N.arcs.length/\
  v=.tuple #[.slice Ao m co,.int .i64 (ws.length:Int),.int .i64 (k:Int),.int .i64 0]/\H'=[.own (.slice Ao m co) 2 1 m (ay f')])\/
 (¬ aK N f/\v=.tuple #[.slice none 0 0,.int .i64 0,.int .i64 0,.int .i64 (el N f)]/\H'=[])\/(aK N f/\least<1/\v=.tuple #[.slice none 0 0,.int .i64 0,.int .i64 0,.int .i64 3]/\H'=[])
set_option maxHeartbeats 2000000 in
theorem yM(N:aO)(hN:N.Fits)(hR:N.Right)(A:OA)(c b o:Nat)(hA:N.arcs≠[]->A=some ⟨b,o,none⟩)(f:LI)(F:OA)(cf bf of:Nat)(hF:f≠[]->F=some ⟨bf,of,none⟩)(hf:∀ x∈f,bU x)(hfl:f.length*8<=140737488351232)(least:Int)(hlb:bU least):
 Fn 232 [bx N A c,.slice F f.length cf,.int .i64 least] [] [.seg b o (arcs N.arcs),.seg bf of (ay f)] (DP N f least f.length):=by
 have hnn:=hR.nodes;have hl2:=hR.len;obtain⟨n,hn⟩:∃ n:Nat,N.nodes=n:=⟨N.nodes.toNat,by omega⟩;refine aH Tryz.func232 rfl rfl λ w0=>?_;refine ad (aa ?_);refine bz (cs:=bJ N A c) rfl rfl rfl (λ _=>rfl) λ p=>?_;refine ae [] rfl ?_;refine ad (aa ?_);refine ab [] (v:=bx N A c) (af 0 rfl) rfl ?_;refine ah [] rfl ?_;refine ao [] (tA N hN hR A c b o hA f F cf bf of hF hf hfl least) rfl (by kernel_rfl) ⟨⟨1,_,by simp,rfl,ak _ _ _,au⟩,⟨2,_,by simp,rfl,ak _ _ _,au⟩,an⟩ (λ _=>rfl) ?_;rintro v H' (⟨hW,hle,lv,B,cb,hlv,rfl,rfl⟩|⟨hW,rfl,rfl⟩|⟨hW,hle,rfl,rfl⟩)
 case inr.inl=>
  refine⟨rfl,?_⟩;refine ae [] rfl ?_;refine ad (ad (aa (ae [] rfl ?_)));refine aC rfl (λ h=>?_) (λ h=>absurd (cX.1 (GQ.1 h)) hW);refine ad (aa (ae [] rfl ?_));refine aA [] (by decide) rfl (ax ⟨_,rfl,.inr (.inl ⟨hW,rfl,rfl⟩)⟩)
 case inr.inr=>
  refine⟨rfl,?_⟩;refine ae [] rfl ?_;refine ad (ad (aa (ae [] rfl ?_)));refine aC rfl (λ h=>?_) (λ h=>absurd h (by decide));refine ad (aa (ae [] rfl ?_));refine aA [] (by decide) rfl (ax ⟨_,rfl,.inr (.inr ⟨hW,hle,rfl,rfl⟩)⟩)
 refine⟨rfl,?_⟩;refine ae [] rfl ?_;refine ad (ad (aa (ae [] rfl ?_)));refine aC rfl (λ h=>absurd rfl h) (λ _=>aq ?_);refine ad (aa ?_);refine ab [] (v:=bx N A c) (af 1 rfl) rfl ?_;refine ah [] rfl ?_;refine ao [] (nk N hN hR A c b o hA f F cf bf of hF hf hfl) rfl (by kernel_rfl) ⟨⟨2,_,by simp,rfl,ak _ _ _,au⟩,⟨3,_,by simp,rfl,ak _ _ _,au⟩,an⟩ (λ _=>rfl) ?_;rintro v H' (⟨_,A1,c1,rfl,rfl⟩|⟨h,_,_⟩)
 case inr=>exact absurd hW h
 refine⟨rfl,?_⟩;refine ae [] rfl ?_;have hfN:=hW.len;obtain⟨ls,hls⟩:∃ ls,ls=cq N (aW (N.arcs.zip f)) least lv (2*N.arcs.length):=⟨_,rfl⟩;rw[<- hls];have hlsm:∀ r∈ls,r<2*N.arcs.length:=λ r hr=>(eh.1 (hls▸hr)).1;have hlsh:ls.length<=N.arcs.length:=hls▸wx N _ least lv _;have hG:=ii hlv;rw[<- hls] at hG;refine bv (a8 1 rfl) λ ⟨_,_,hB,hlB⟩=>?_;obtain⟨gB,hB⟩:=bQ hB hlB;refine bv (a8 0 rfl) λ ⟨_,_,hA1,hlA1⟩=>?_;obtain⟨gr,hA1⟩:=bQ hA1 hlA1;have hB':ls≠[]->B=some ⟨gB,0,none⟩:=λ h=>hB (by intro h0;apply h;have:=ev ls;unfold bO at this;rw[h0] at this;exact GT.1 this.symm);obtain⟨rm0,hrm0⟩:∃ x,x=aW (N.arcs.zip f):=⟨_,rfl⟩;have hrl0:rm0.length=2*N.arcs.length:=by rw[hrm0];exact iq hW.len
 have hA1':rm0≠[]->A1=some ⟨gr,0,none⟩:=λ h=>hA1 (by rw[<- hrm0];intro h0;exact h (GT.1 (by rw[<- bI,h0];rfl)));rw[<- hrm0];refine ad ?_;refine bq 7 (cY [0,1,3,4]++[(2,false),(5,false)]++cY [6]) [2] (by kernel_rfl) (by decide) rfl ?_
 (repeat' (first|refine bB (gs:=[999]) rfl rfl ?_|refine aj [999] rfl (af (v:=bx N A c) 0 rfl) rfl ?_))
 refine aY rfl ?_;have hA1x:ay rm0≠[]->A1=some ⟨gr,0,none⟩:=by rw[hrm0];exact hA1
 have TC:=fm A1 c1 gr 0 rm0 hA1' (by omega);rw[hrl0] at TC;refine cL [] TC rfl rfl rfl rfl (by kernel_rfl) ⟨⟨0,_,by simp,rfl,aL hA1x,a7 hA1x⟩,an⟩ (λ _=>rfl) ?_;rintro _ H' ⟨Ac,cc,rfl,rfl⟩;refine⟨rfl,ai ⟨⟨[3],by decide,rfl⟩,?_⟩⟩;refine aY rfl ?_;refine ao [] (ER N hR A c b o hA Ac cc ls hlsm (by omega) B cb gB 0 hB' least n hn) rfl (by kernel_rfl) ⟨⟨4,_,by simp,rfl,ak _ _ _,au⟩,⟨2,_,by simp,rfl,aL hB,a7 hB⟩,an⟩ (λ _=>rfl) ?_;rintro _ H' ⟨pe,gl,gu,pt,ps,gn,go,co,cap,rows,rfl,hrows,hL,rfl⟩;refine⟨cT rfl (cI _ _),?_⟩;refine bX aF.swap ?_;refine ai ⟨⟨[10],by decide,rfl⟩,?_⟩;refine bB (gs:=[999]) rfl rfl ?_;refine bp ?_;refine ai ?_;refine bv (a8 7 rfl) λ ⟨_,_,hAc,hlAc⟩=>?_;obtain⟨gc,hAc⟩:=bQ hAc hlAc
 obtain⟨A0,hA0⟩:∃ A0:Heap,A0=js pt ps go gn co cap (n+1) ⟨λ _=>jE 4611686018427387904,λ _=>none,0⟩++[blk pe 310 (tR N A c Ac cc least n gl gu (.pointer (some ⟨pt,0,none⟩)) ls.length 0),.own (.slice (some ⟨gl,0,none⟩) (n+1) (n+1)) 23 1 (n+1) (rows.map cA),.own (.slice (some ⟨gu,0,none⟩) (n+1) (n+1)) 23 1 (n+1) ((List.replicate (n+1) dx).map cA)]++
  [.own (.slice Ac (2*N.arcs.length) cc) 2 1 (2*N.arcs.length) (ay rm0),.own (.slice A1 (2*N.arcs.length) c1) 2 1 (2*N.arcs.length) (ay rm0),.own (.slice B ls.length cb) 3 1 ls.length (bO ls),blk p 33 (bJ N A c),.seg b o (arcs N.arcs),.seg bf of (ay f)]:=⟨_,rfl⟩
 refine bH (K:=A0++(rows++List.replicate (n+1) dx).map (aV 3)) (by rw[hA0];exact aF.refl) ?_;have hA0l:A0.length=13:=by rw[hA0];rfl
 have hgvA:∀ w,cS w0 [] w (A0++(rows++List.replicate (n+1) dx).map (aV 3))->
  ∀ v:Nat,∃ gv:Nat,∀ row,rows[v]?=some row->row.l.length<=row.c/\(ay row.l≠[]->row.A=some ⟨gv,0,none⟩):=by
  intro w hw v
  cases hv:rows[v]? with
  |none=>exact⟨0,λ row h=>by cases h⟩
  |some row=>
   obtain⟨_,h2,h3,h4⟩:=a8 (X:=⟨w0,[],⟨0,[]⟩⟩) (13+v) (show _=some (aV 3 row) by
    rw[GS (by omega),hA0l,Hi,GJ,Hq (GC.1 hv).1,hv];rfl) w hw
   obtain⟨gv,hgv⟩:=bQ h3 h4;exact⟨gv,λ row' h=>by simp only[GA] at h;subst h;exact⟨h2,hgv⟩⟩
 refine bv hgvA λ hrowA=>?_;obtain⟨gv,hgv⟩:∃ gv:Nat->Nat,∀ (v:Nat) (row:ec),rows[v]?=some row->row.l.length<=row.c/\(ay row.l≠[]->row.A=some ⟨gv v,0,none⟩):=⟨λ v=>Classical.choose (hrowA v),λ v=>IA (hrowA v)⟩
 clear hrowA hgvA
 obtain⟨P,hPd⟩:∃ P:EP,P={ N:=N,least:=least,n:=n,A:=A,c:=c,b:=b,o:=o,gr:=gc,Ar:=Ac,cr:=cc,gl:=gl,gu:=gu,pe:=pe,pt:=pt,ps:=ps,go:=go,gn:=gn,co:=co,cap:=cap,rowsL:=rows }:=⟨_,rfl⟩;obtain⟨s0,hs0⟩:∃ s:ES,s={ vals:=rows.map cA,un:=List.replicate (n+1) dx,fs:=⟨λ _=>jE 4611686018427387904,λ _=>none,0⟩,rm:=rm0,k:=ls.length,w:=0 }:=⟨_,rfl⟩
 refine bH (K:=eZ P s0++[P.sg,.own (.slice A1 (2*N.arcs.length) c1) 2 1 (2*N.arcs.length) (ay rm0),.seg bf of (ay f)]) (by
  rw[hA0,hPd,hs0];exact aF.mid [0,1,2,3,4,7,5,6] [11,8,12] rfl rfl (by decide)) ?_
 clear hA0 hA0l
 have hP:j7 P (en N ls) (cQ lv) gv:=by
  rw[hPd];exact⟨hR,hn,hG,hrows,hL,λ v row h=>(hgv v row h).2,λ v=>HK (i8 N ls v) (by omega),hA,λ h=>hAc (by intro h0;rw[h0] at hlAc;simp at hlAc;exact h (GT.1 (show N.arcs.length=0 by omega))),hlb⟩
 have hPN:P.N=N:=by rw[hPd]
 have hPl:P.least=least:=by rw[hPd]
 have hPn:P.n=n:=by rw[hPd]
 have hPr:P.rowsL=rows:=by rw[hPd]
 have hPp:P.pe=pe:=by rw[hPd]
 have hI0:je P (en N ls) gv rm0 rm0 (List.replicate (n+1) 0) (λ _=>none) (λ _=>4611686018427387904) s0:=by
  refine⟨⟨_,by rw[hs0,hPn];exact fQ.new (by decide)⟩,⟨by rw[hPn];simp,λ _ _ _ h=>(by cases h),λ _ _ _=>rfl,by rw[hs0,hPN];exact hrl0,λ _ _ _ _=>by rw[hs0],λ _ _=>by rw[hs0],λ r=>by rw[hrm0];exact eW hR hW.toRanged r⟩,?_,?_⟩
  ·rw[hs0,hPr];refine⟨by simp,fun v row q hr hq=>?_⟩;rw[List.getElem?_replicate] at hq;split at hq
   ·simp only[Option.some.injEq] at hq;subst hq;have h1:=hgv v row hr;refine⟨row.A,row.c,by rw[List.getElem?_map,hr];rfl,h1.1,fun hp=>h1.2 (fun h0=>?_)⟩;have:row.l.length=0:=by rw[← bI,h0];rfl
    omega
   ·cases hq
  ·rw[hs0,hPn];refine⟨by simp,fun w row hr=>?_⟩;rw[List.getElem?_replicate] at hr;split at hr
   ·simp only[GA] at hr;subst hr;exact⟨[],rfl,IX,λ v=>by simp⟩
   ·cases hr
 have hPI0:PI P.N (en N ls) P.least rm0 (List.replicate (n+1) 0) []:=by
  have:=PI.start (N:=N) (L:=en N ls) (least:=least) (rm:=rm0);rw[hn,G1] at this;rw[hPN,hPl];exact this
 have hle':1<=P.least:=by rw[hPl];exact hle
 rw[<- hPp];refine ad (aa ?_);refine am (gs:=[999]) rfl ?_;refine aw [] (E5 hP hle' s0 hI0 hPI0 (λ _ _ _ h=>(by cases h)) (f:=f) (by rw[hPN];exact hW) (by rw[hPN];exact hrm0)) rfl rfl rfl rfl (by kernel_rfl) aF.refl ⟨⟨0,_,by simp,rfl,ak _ _ _,au⟩,an⟩ (λ _=>rfl) ?_;rintro _ H' ⟨t,rfl,hTR,hIt,hft,hte,hwt,hct⟩;refine⟨cT rfl (cI _ _),?_⟩;refine ai ?_;refine ad (aa ?_);refine am (gs:=[999]) rfl ?_;refine aw [] (Be hP t.s hIt) rfl rfl rfl rfl (by kernel_rfl) aF.refl ⟨⟨0,_,by simp,rfl,ak _ _ _,au⟩,an⟩ (λ _=>rfl) ?_;rintro _ H' ⟨par3,val3,s3,rfl,hta3,hnone,hw3,hc3⟩;refine⟨cT rfl (cI _ _),?_⟩;refine ai ?_
 refine bH (K:=P.fo s3.fs++[P.pc s3.k s3.w,P.rc s3.rm,.own (.slice A1 (2*N.arcs.length) c1) 2 1 (2*N.arcs.length) (ay rm0),.seg bf of (ay f)]) (by
  refine aF.trans (aF.swap (A:=P.fo s3.fs++[P.pc s3.k s3.w,P.rc s3.rm,P.lc s3.vals,P.uc s3.un]) (R:=P.rows s3.un) (B:=[P.sg,.own (.slice A1 (2*N.arcs.length) c1) 2 1 (2*N.arcs.length) (ay rm0),.seg bf of (ay f)])) ?_;refine aF.trans (aF.re [0,1,2,3,4,5,9,10] rfl (by decide)) (aF.sub (List.sublist_append_left _ _))) ?_
 refine ad (aa ?_);refine am (gs:=[999]) rfl ?_;refine ao [] (fm F cf bf of f hF (by omega)) rfl (by kernel_rfl) ⟨⟨7,_,by simp,rfl,ak _ _ _,au⟩,an⟩ (λ _=>rfl) ?_;rintro _ H' ⟨Ao,co2,rfl,rfl⟩;refine⟨rfl,?_⟩;refine ae [] rfl ?_;refine ad (ad (aa (ae [] rfl ?_)));rw[hPN,hPl] at hTR;have hcl:(cq N (aW (N.arcs.zip f)) least lv (2*N.arcs.length)).length<=_:=jk N _ least lv _;obtain⟨hcnt,hsame,_⟩:=hTR.count hR hG hle (ls:=ls) (λ v r=>fy) hW hrm0;have hcnt2:mJ ls least rm0<=ls.length:=HN _ _;rw[hPN] at hft hte
 have hflip:∀ r∈ls,bN r∉ls:=by
  intro r hr hfr;rw[hls] at hr hfr;have h1:=(eh.1 hr).2.2.2;have h2:=(eh.1 hfr).2.2.2;rw[iL,fJ] at h2;omega
 have hin:∀ r∈ls,s3.rm.getD r 0=(aW (N.arcs.zip t.f)).getD r 0:=by
  intro r hr;rw[<- hte];refine hta3.lead (dG N r) r (fy.2 ⟨hr,rfl⟩) λ q hq _=>absurd (hnone _ ?_) hq;have:=kN hR (hlsm r hr);rw[hPn];omega
 have hout:∀ r,r∉ls->s3.rm.getD r 0=(aW (N.arcs.zip f)).getD r 0:=by
  intro r hr;rw[<- hrm0];exact hta3.rest r λ v hv=>hr (fy.1 hv).1
 have hsame':∀ r,r∉ls->bN r∉ls->(aW (N.arcs.zip t.f)).getD r 0=(aW (N.arcs.zip f)).getD r 0:=by
  intro r h1 h2;rw[<- hte,<- hrm0];exact hsame r h1 h2
 have hrl3:s3.rm.length=2*N.arcs.length:=by have:=hta3.rml;rw[hPN] at this;exact this
 have htfl:=hft.len
 have hPrc:P.rc s3.rm=.own (.slice P.Ar (2*N.arcs.length) P.cr) 2 1 (2*N.arcs.length) (ay s3.rm):=by
  show aR.own (.slice P.Ar (2*P.N.arcs.length) P.cr) _ _ _ _=_;rw[hPN]
 have hA1y:0<N.arcs.length->A1=some ⟨gr,0,none⟩:=λ h=>hA1' (by intro h0;rw[h0] at hrl0;simp at hrl0;omega);obtain⟨m,hm⟩:∃ m,m=N.arcs.length:=⟨_,rfl⟩;have hfm:f.length=m:=by omega
 rw[hfm]
 refine bH (K:=P.fo s3.fs++[P.pc s3.k s3.w,P.rc s3.rm,.own (.slice A1 (2*N.arcs.length) c1) 2 1 (2*N.arcs.length) (ay rm0),.own (.slice Ao m co2) 2 1 m (ay (kg f t.f ls m 0))]) (by
  rw[<- hfm,vH];exact aF.re (A:=[.own (.slice Ao f.length co2) 2 1 f.length (ay f)]++(P.fo s3.fs++[P.pc s3.k s3.w,P.rc s3.rm,.own (.slice A1 (2*N.arcs.length) c1) 2 1 (2*N.arcs.length) (ay rm0),.seg bf of (ay f)])) (R:=[]) [1,2,3,4,5,6,7,0] rfl (by decide)) ?_
 refine av ?_
 refine b8 (σ:=Nat) (λ k=>[(48,.int .i64 (k:Int)),(47,.int .i64 ((2*N.arcs.length:Nat):Int)),(46,.slice A1 (2*N.arcs.length) c1),(15,.slice Ao m co2),(14,.pointer (some ⟨P.pe,0,none⟩)),(12,.slice A1 (2*N.arcs.length) c1)])
  (λ k=>P.fo s3.fs++[P.pc (s3.k+k) s3.w,P.rc s3.rm,.own (.slice A1 (2*N.arcs.length) c1) 2 1 (2*N.arcs.length) (ay rm0),.own (.slice Ao m co2) 2 1 m (ay (kg f t.f ls m k))])
  (λ k=>k<=2*N.arcs.length) (λ k=>2*N.arcs.length-k) 0 ⟨rfl,rfl,rfl,rfl,rfl,rfl,an⟩ aF.refl (GI _) ?_
 intro k hk;refine ad (aa (ae [] rfl ?_));refine ad ?_;refine aC rfl (λ hlt=>aq ?_) (λ hge=>a9 ?_)
 ·have hk2:k<2*N.arcs.length:=by omega
  have hkm:k/2<m:=by omega
  obtain rfl:=hA1y (by omega);have hAr:=hP.room (r:=k) (by rw[hPN];exact hk2);have hr0:(ay rm0)[k]?=some (.int .i64 (rm0.getD k 0)):=dw (by rw[GD,Gy (by omega)];rfl);have hr3:(ay s3.rm)[k]?=some (.int .i64 (s3.rm.getD k 0)):=dw (by rw[GD,Gy (by omega)];rfl);have b0:=eW hR hW.toRanged k;have b1:=eW hR hft.toRanged k;rw[<- hrm0] at b0
  have b3:0<=s3.rm.getD k 0/\s3.rm.getD k 0<=4611686018427387903:=by
   by_cases e:k∈ls
   ·rw[hin k e];exact b1
   ·rw[hout k e,<- hrm0];exact b0
  obtain⟨st0,st1⟩:=yp hW.len htfl hin hout hsame' hflip hk2;rw[<- hrm0] at st0 st1;have o0:=wM hR hW.toRanged hft.toRanged (ls:=ls) (k:=k) (i:=k/2) (by omega);have o1:=wM hR hW.toRanged hft.toRanged (ls:=ls) (k:=k+1) (i:=k/2) (by omega);refine bv (a8 7 rfl) λ ⟨_,_,hAo,_⟩=>?_;obtain⟨go2,rfl⟩:=hAo (by omega);refine ad (av ?_);refine ad (aa (ae [] rfl ?_));refine ad (aa ?_);refine am (gs:=[999]) rfl ?_;refine bX (aF.re (A:=P.fo s3.fs++[P.pc (s3.k+k) s3.w,P.rc s3.rm,.own (.slice (some ⟨gr,0,none⟩) (2*N.arcs.length) c1) 2 1 (2*N.arcs.length) (ay rm0),.own (.slice (some ⟨go2,0,none⟩) m co2) 2 1 m (ay (kg f t.f ls m k))]) (R:=[]) [4,0,1,2,3,5,6,7] rfl (by decide)) ?_;refine aw [999] (jT P (s3.k+k) s3.w) rfl rfl rfl rfl (by kernel_rfl) aF.refl an (λ _=>rfl) ?_;rintro v0 H' rfl;refine⟨rfl,?_⟩;refine bX (aF.re (A:=[P.pc (s3.k+k+1) s3.w]++(P.fo s3.fs++[P.rc s3.rm,.own (.slice (some ⟨gr,0,none⟩) (2*N.arcs.length) c1) 2 1 (2*N.arcs.length) (ay rm0),.own (.slice (some ⟨go2,0,none⟩) m co2) 2 1 m (ay (kg f t.f ls m k))])) (R:=[]) [1,2,3,4,0,5,6,7] rfl (by decide)) ?_;refine ai ?_;refine ad ?_;refine bq 13 (cY [0,1,2,3,4,5,6,7,8,9,10,11,12]) [4,5,6] (by kernel_rfl) (by decide) rfl ?_
  (repeat' (first|refine bB (gs:=[999]) rfl rfl ?_|refine aj [999] rfl (af 0 rfl) rfl ?_|refine aj [999] rfl (aG rfl hk2) rfl ?_|refine aj [999] rfl (aE 2 rfl rfl rfl hr0) rfl ?_|refine aj [999] rfl (oF (b:=P.gr) (n:=2*P.N.arcs.length) (c:=P.cr) rfl (Gz (λ A=>some (Value.slice A (2*P.N.arcs.length) P.cr)) hAr) rfl rfl rfl (by rw[hPN];exact hk2)) rfl ?_|refine aj [999] rfl (aE (g:=P.gr) (n:=2*P.N.arcs.length) (cap:=P.cr) 1 rfl rfl (Gz (λ A=>some (aR.own (.slice A (2*P.N.arcs.length) P.cr) 2 1 (2*P.N.arcs.length) (ay s3.rm))) hAr) hr3) rfl ?_))
  refine bp ?_;refine ai ?_;refine aX 17 (v':=.int .i64 (rm0.getD k 0-s3.rm.getD k 0)) rfl (Gz (Value.int .i64) (b5 (by omega))) ?_;refine ad (aa (ae [] rfl ?_));have hand:IntKind.i64.wrap ((BitVec.ofInt IntKind.i64.bits (k:Int)&&& BitVec.ofInt IntKind.i64.bits 1).toNat:Int)=(k:Int)%2:=xf k
  have hq:∀ x:Int,x=((k:Int)).tdiv 2->IntKind.i64.wrap x=((k/2:Nat):Int):=by
   intro x hx;rw[hx,I3 (by omega),b5 (by omega)];omega
  have hget:=kD (f:=f) (f':=t.f) (ls:=ls) (k:=k) hkm;have hgi:(ay (kg f t.f ls m k))[k/2]?=some (.int .i64 (iQ f t.f ls k (k/2))):=dw hget;refine aC rfl (λ heq=>?_) (λ hne=>?_)
  ·rw[hand] at heq;have hst:=st0 (by omega);refine aa ?_;refine am (gs:=[999]) rfl ?_;refine am (gs:=[999]) rfl ?_;refine am (gs:=[999]) rfl ?_;refine aI 70 (v':=.int .i64 ((k/2:Nat):Int)) rfl (Gz (Value.int .i64) (hq _ rfl)) ?_;refine ab [] (aG rfl hkm) rfl ?_;refine ab [] (aE 7 rfl rfl rfl hgi) rfl ?_;refine am (gs:=[999]) rfl ?_;refine am (gs:=[999]) rfl ?_;refine aI 74 (v':=.int .i64 (iQ f t.f ls (k+1) (k/2))) rfl (Gz (Value.int .i64) ((b5 (by omega)).trans hst)) ?_;refine ab [] (aG rfl hkm) rfl ?_;refine aS 7 rfl rfl rfl rfl (dC rfl rfl rfl (by rw[bI,d6];exact hkm)) [] rfl ?_;rw[show (ay (kg f t.f ls m k)).set (k/2) (.int .i64 (iQ f t.f ls (k+1) (k/2)))=ay ((kg f t.f ls m k).set (k/2) (iQ f t.f ls (k+1) (k/2))) from by simp[ay],uM (by omega) rfl];refine ai ?_;refine aa (ae [] rfl ?_);refine⟨k+1,⟨?_,rfl,rfl,rfl,rfl,rfl,an⟩,aF.refl,hk2,by show 2*N.arcs.length-(k+1)<2*N.arcs.length-k;omega⟩;show some (Value.int .i64 (IntKind.i64.wrap ((k:Int)+1)))=_;rw[b5 (by omega)];rfl
  ·rw[hand] at hne;have hst:=st1 (by omega);refine aa ?_;refine am (gs:=[999]) rfl ?_;refine am (gs:=[999]) rfl ?_;refine am (gs:=[999]) rfl ?_;refine aI 78 (v':=.int .i64 ((k/2:Nat):Int)) rfl (Gz (Value.int .i64) (hq _ rfl)) ?_;refine ab [] (aG rfl hkm) rfl ?_;refine ab [] (aE 7 rfl rfl rfl hgi) rfl ?_;refine am (gs:=[999]) rfl ?_;refine am (gs:=[999]) rfl ?_;refine aI 82 (v':=.int .i64 (iQ f t.f ls (k+1) (k/2))) rfl (Gz (Value.int .i64) ((b5 (by omega)).trans hst)) ?_;refine ab [] (aG rfl hkm) rfl ?_;refine aS 7 rfl rfl rfl rfl (dC rfl rfl rfl (by rw[bI,d6];exact hkm)) [] rfl ?_;rw[show (ay (kg f t.f ls m k)).set (k/2) (.int .i64 (iQ f t.f ls (k+1) (k/2)))=ay ((kg f t.f ls m k).set (k/2) (iQ f t.f ls (k+1) (k/2))) from by simp[ay],uM (by omega) rfl];refine ai ?_;refine aa (ae [] rfl ?_);refine⟨k+1,⟨?_,rfl,rfl,rfl,rfl,rfl,an⟩,aF.refl,hk2,by show 2*N.arcs.length-(k+1)<2*N.arcs.length-k;omega⟩;show some (Value.int .i64 (IntKind.i64.wrap ((k:Int)+1)))=_;rw[b5 (by omega)];rfl
 ·obtain rfl:k=2*N.arcs.length:=by omega
  have hoe:kg f t.f ls m (2*N.arcs.length)=t.f:=by
   have:=zO (f:=f) (f':=t.f) (ls:=ls) (by omega);rw[hfm,hm] at this;rw[hm];exact this
  rw[hoe];refine ad ?_;refine bq 19 (cY [0,1,2,3,4,5,6,7,8,9,10,11,12]++[(13,false)]++cY [14,15,16,17,18]) [4] (by kernel_rfl) (by decide) rfl ?_
  (repeat' (first|refine bB (gs:=[999]) rfl rfl ?_|refine aj [999] rfl (af 0 rfl) rfl ?_))
  refine aY rfl ?_
  have hwl:dg (s3.w:Int)=(t.ws.length:Int):=by
   have:s0.w=0:=by rw[hs0]
   exact (b5 (by omega)).trans (by omega)
  obtain⟨K,hK⟩:∃ K,K=s3.k+2*N.arcs.length+s3.fs.k:=⟨_,rfl⟩
  have hKB:K<=ez n N.arcs.length:=by
   have e1:s3.cost=s3.k+s3.fs.k:=rfl;have e2:s0.cost=ls.length:=by rw[hs0];rfl
   rw[hPn] at hct hc3;have e3:cH (en N ls) n (List.replicate (n+1) 0)<=ls.length:=yI N ls n;have e4:dj n*cH (en N ls) n (List.replicate (n+1) 0)<=dj n*N.arcs.length:=H8 _ (by omega);have e5:dE n*ie t.par n<=dE n*(n+1):=H8 _ (pV _ _);unfold ez;rw[H0];omega
  have hKs:K<9000000000000000000:=by
   have h1:n<=500:=by omega
   have h2:db (n+1)<=3000000:=by
    unfold db;have:(n+1)*(n+1)<=501*501:=H5 (by omega) (by omega)
    first|omega|(rw[Nat.mul_assoc];omega)|grind
   have h3:(dj n+3)*N.arcs.length<=46000000*2000:=H5 (by unfold dj;omega) hl2;have h4:dE n*(n+1)<=16000000*501:=H5 (by unfold dE;omega) (by omega);have h5:(2*db (n+1)+11*(n+1)+1)*(n+1)<=7000000*501:=H5 (by omega) (by omega);unfold ez at hKB;omega
  refine aw [] (x9 s3.fs) rfl rfl rfl rfl (by kernel_rfl) aF.refl an (λ _=>rfl) ?_;rintro _ H' ⟨rfl,rfl⟩;refine⟨rfl,ai ⟨⟨[4],by decide,rfl⟩,?_⟩⟩;refine bB (gs:=[999]) rfl rfl ?_;refine dr 99 (v':=.int .i64 (K:Int)) rfl (Gz (Value.int .i64) ?_) ?_
  ·show dg (dg ((s3.k+2*N.arcs.length:Nat):Int)+dg (s3.fs.k:Int))=K;have h1:dg (s3.fs.k:Int)=(s3.fs.k:Int):=b5 (by omega);have h2:dg ((s3.k+2*N.arcs.length:Nat):Int)=((s3.k+2*N.arcs.length:Nat):Int):=b5 (by omega);rw[h1,h2];exact (b5 (by omega)).trans (by omega)
  refine dr 89 (v':=.int .i64 (t.ws.length:Int)) rfl (Gz (Value.int .i64) hwl) ?_
  (repeat' (refine bB (gs:=[999]) rfl rfl ?_))
  refine bp ?_;refine ai ?_;have hBl:=hTR.bl hR hG hle hW hrm0 (pos:=List.replicate (n+1) 0) (W:=[]) (by rw[hPN,hPl] at hPI0;exact hPI0);have hnt:N.nodes.toNat=n:=by omega
  refine aA [7] (by decide) rfl (ax ⟨_,rfl,.inl ⟨hW,hle,t.f,t.ws,K,Ao,co2,⟨lv,hlv,hft,?_⟩,by omega,by rw[hnt];exact hKB,by omega,rfl,rfl⟩⟩);rw[hnt,<- hls,<- hrm0,<- hte];exact hBl
end Go.Proofs.YtmcnpaelaieniaaGreatDoor
