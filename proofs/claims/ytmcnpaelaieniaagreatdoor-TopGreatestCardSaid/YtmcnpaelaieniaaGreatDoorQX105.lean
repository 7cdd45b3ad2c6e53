import Derived.Test.YtmcnpaelaieniaaGreatDoorQX73
import Derived.Test.YtmcnpaelaieniaaGreatDoorQX98
import Derived.Test.YtmcnpaelaieniaaGreatDoorQX96
import Derived.Test.YtmcnpaelaieniaaGreatDoorQX59
import Derived.Test.YtmcnpaelaieniaaGreatDoorQX101
/- A part of the proof; see NOTES.md. -/
set_option linter.unusedVariables false
set_option linter.unusedSimpArgs false
namespace Go.Proofs.YtmcnpaelaieniaaGreatDoor
open Go.RowKit
section
variable {N:aU} {L:Nat->LN} {lv:Nat->Int} {least:Int} {tr:LI}
def CE(L:Nat->LN)(N:aU)(least:Int)(tr:LI)(V:LN):Prop:=∀ r∈V,r∈L (dC N r)/\least<=tr.getD r 0
theorem PI.free{pos W:LN}(h:PI N L least tr pos W):CE L N least tr W:=λ r hr=>⟨h.mem r hr,by obtain⟨_,_,_,h⟩:=h.head r hr;exact h⟩
theorem PI.stuck(hR:N.Right)(hG:eF N L lv){pos W:LN}(h:PI N L least tr pos W):∀ {V:LN} {u z:Nat},Tr N u V z->CE L N least tr V->m0 L pos u->u≠N.snk.toNat->z≠N.snk.toNat
 |[],u,z,hT,_,_,hu=>by rw[<- (show u=z from hT)];exact hu
 |r::V,u,z,⟨h1,h2⟩,hF,hd,hu=>by
  obtain⟨hr,hl⟩:=hF r (by simp);obtain⟨j,hj,hjr⟩:=Hj.1 hr;have hlt:=(hG.ok _ _ hr).1;have hf:=kn hR hlt;have hlen:dC N r<pos.length:=by rw[h.pl];omega
  obtain⟨p,hp⟩:∃ p,pos[dC N r]?=some p:=⟨pos[dC N r],Gq hlen⟩;have h3:=hd p (by rw[<- h1];exact hp);rw[h1] at hj
  rcases h.pass _ p hp j r (by omega) (by rw[Gq (by rw[h1];exact hj),hjr]) with k|k
  ·omega
  ·exact PI.stuck hR hG h h2 (λ s hs=>hF s (by simp[hs])) k.2 k.1
def B9(L:Nat->LN)(N:aU)(pos V:LN):Prop:=∀ r∈V,∃ p,pos[dC N r]?=some p/\(L (dC N r))[p]?=some r
theorem PI.heads{pos W:LN}(h:PI N L least tr pos W):B9 L N pos W:=λ r hr=>by obtain⟨p,h1,h2,_⟩:=h.head r hr;exact⟨p,h1,h2⟩
theorem u6(hR:N.Right)(hG:eF N L lv){pos pos' W W':LN}(h:PI N L least tr pos W)(h':PI N L least tr pos' W'):∀ {V V':LN} {u:Nat},Tr N u V N.snk.toNat->Tr N u V' N.snk.toNat->CE L N least tr V->CE L N least tr V'->B9 L N pos V->B9 L N pos' V'->V=V'
 |[],V',u,hT,hT',_,hF',_,_=>by
  have h1:=(na hG hT' λ r hr=>(hF' r hr).1).1;rw[<- (show u=N.snk.toNat from hT)] at h1;exact (GM.1 (by omega)).symm
 |r::V,[],u,hT,hT',hF,_,_,_=>by
  have h1:=(na hG hT λ r hr=>(hF r hr).1).1;rw[<- (show u=N.snk.toNat from hT')] at h1;simp only[Gz] at h1;omega
 |r::V,r'::V',u,⟨h1,h2⟩,⟨k1,k2⟩,hF,hF',hH,hH'=>by
  obtain⟨q,a1,a2⟩:=hH r (by simp);obtain⟨q',b1,b2⟩:=hH' r' (by simp);obtain⟨_,c1⟩:=hF r (by simp);obtain⟨_,c2⟩:=hF' r' (by simp);rw[h1] at a1 a2;rw[k1] at b1 b2
  rcases Nat.lt_trichotomy q q' with hlt|heq|hgt
  ·rcases h'.pass u q' b1 q r hlt a2 with k|k
   ·omega
   ·exact absurd rfl (h'.stuck hR hG h2 (λ s hs=>hF s (by simp[hs])) k.2 k.1)
  ·subst heq;rw[a2] at b2;simp only[Gs] at b2;subst b2;rw[u6 hR hG h h' h2 k2 (λ s hs=>hF s (by simp[hs])) (λ s hs=>hF' s (by simp[hs])) (λ s hs=>hH s (by simp[hs])) (λ s hs=>hH' s (by simp[hs]))]
  ·rcases h.pass u q a1 q' r' hgt b2 with k|k
   ·omega
   ·exact absurd rfl (h.stuck hR hG k2 (λ s hs=>hF' s (by simp[hs])) k.2 k.1)
theorem PI.one(hR:N.Right)(hG:eF N L lv){pos pos' W W':LN}(h:PI N L least tr pos W)(h':PI N L least tr pos' W')(he:cR N W=N.snk.toNat)(he':cR N W'=N.snk.toNat):W=W':=by
 have h1:=h.on;have h2:=h'.on;rw[he] at h1;rw[he'] at h2;exact u6 hR hG h h' h1 h2 h.free h'.free h.heads h'.heads
theorem uE(hR:N.Right)(hG:eF N L lv):∀ (k:Nat) {pos W:LN},PI N L least tr pos W->(N.nodes.toNat+2)*cI L N.nodes.toNat pos+(N.nodes.toNat+1-W.length)<=k->∃ b pos' W',Nx N L least tr pos W b pos' W':=by
 intro k;have hnn:=hR.nodes;have hsr:=hR.src;have hsk:=hR.snk;have hdf:=hR.diff
 have hend:∀ {pos W:LN},PI N L least tr pos W->cR N W<=N.nodes.toNat/\W.length<=N.nodes.toNat:=by
  intro pos W h;have h1:=(na hG h.on h.mem).1;have h2:=hG.hi (cR N W);have h3:=hG.hi N.src.toNat;refine⟨?_,by omega⟩
  rcases Hn W with rfl|⟨W0,r,rfl⟩
  ·show N.src.toNat<=_;omega
  ·rw[Ho,mQ];have:=(gU hR ((hG.ok _ _ (h.mem r (by simp))).1)).2.2;omega
 induction k with
 |zero=>
  intro pos W h hk;have:=hend h;omega
 |succ k ih=>
  intro pos W h hk;have hb:=hend h;by_cases hs:cR N W=N.snk.toNat
  ·exact⟨_,_,_,.hit hs⟩
  ·have hlen:cR N W<pos.length:=by rw[h.pl];omega
   obtain⟨p,hp⟩:∃ p,pos[cR N W]?=some p:=⟨pos[cR N W],Gq hlen⟩;by_cases hlt:p<(L (cR N W)).length
   ·obtain⟨r,hr⟩:∃ r,(L (cR N W))[p]?=some r:=⟨(L (cR N W))[p],Gq hlt⟩;by_cases hl:least<=tr.getD r 0
    ·have hg:=h.go hG hp hr hl;have hb2:=hend hg;rw[Gx,G2] at hb2;obtain⟨b,pos',W',hN⟩:=ih hg (by rw[Gx,G2];omega);exact⟨b,pos',W',.go hs hp hr hl hN⟩
    ·have hg:=h.skip hG hp hr (by omega);have hrem:=gi (L:=L) hp hb.1 hlt;have:(N.nodes.toNat+2)*cI L N.nodes.toNat pos=(N.nodes.toNat+2)*cI L N.nodes.toNat (pos.set (cR N W) (p+1))+(N.nodes.toNat+2):=by rw[← hrem,Nat.mul_add,Nat.mul_one]
     obtain⟨b,pos',W',hN⟩:=ih hg (by omega);exact⟨b,pos',W',.skip hs hp hr (by omega) hN⟩
   ·rcases Hn W with rfl|⟨W0,r,rfl⟩
    ·exact⟨_,_,_,.stop hs hp (Nat.le_of_not_lt hlt)⟩
    ·rw[List.concat_eq_append] at*;obtain⟨q,hq,hqr,_⟩:=h.back_at;have hg:=h.back hG hs hp (by omega) hq;have hb0:=hend h.drop;have hrem:=gi (L:=L) hq hb0.1 (List.getElem?_eq_some_iff.1 hqr).1;have:(N.nodes.toNat+2)*cI L N.nodes.toNat pos=(N.nodes.toNat+2)*cI L N.nodes.toNat (pos.set (cR N W0) (q+1))+(N.nodes.toNat+2):=by rw[← hrem,Nat.mul_add,Nat.mul_one]
     rw[Gx,G2] at hk hb;obtain⟨b,pos',W',hN⟩:=ih hg (by omega);exact⟨b,pos',W',.back hs hp (by omega) hq hN⟩
theorem TR.bl(hR:N.Right)(hG:eF N L lv)(hle:1<=least){ws:List (LN×Int)}{tr':LI}(h:TR N L least tr ws tr'):∀ {f:LI} {pos W:LN},aK N f->tr=aP (N.arcs.zip f)->PI N L least tr pos W->Bl N L least tr pos W ws tr':=by
 have hsr:=hR.src;have hsk:=hR.snk;have hdf:=hR.diff
 induction h with
 |@stop tr pos0 hP hd=>
  intro f pos W hf he hI;obtain⟨b,pos',W',hN⟩:=uE hR hG _ hI (GF _);obtain⟨k1,k2,k3⟩:=hN.keeps hG hI
  cases b with
  |false=>exact .stop hN
  |true=>
   have h1:=k1.on;rw[k2 rfl] at h1;exact absurd rfl (hP.stuck hR hG h1 k1.free hd (by omega))
 |@walk tr tr' pos0 W0 ws hP hend _ ih=>
  intro f pos W hf he hI;obtain⟨b,pos',W',hN⟩:=uE hR hG _ hI (GF _);obtain⟨k1,k2,k3⟩:=hN.keeps hG hI
  cases b with
  |false=>
   obtain⟨rfl,hd⟩:=k3 rfl;have h1:=hP.on;rw[hend] at h1;exact absurd rfl (k1.stuck hR hG h1 hP.free hd (by omega))
  |true=>
   obtain rfl:W0=W':=hP.one hR hG k1 hend (k2 rfl);obtain⟨_,_,_,_,_,_,⟨f',hf',hf'e⟩,hPI',_⟩:=iH hR hG hle hf he k1 hend;exact .walk hN (ih hf' hf'e hPI')
end
theorem vL(N:aU)(rm:LI)(least:Int)(lv:LI)(m:Nat):(cm N rm least lv (2*m)).length<=m:=by
 have h1:((cm N rm least lv (2*m)).map (·/2)).Nodup:=by
  have hnd:(cm N rm least lv (2*m)).Nodup:=List.Pairwise.filter _ H5
  have hinj:∀ a∈cm N rm least lv (2*m),∀ b∈cm N rm least lv (2*m),a/2=b/2->a=b:=by
   intro a ha b hb hab;by_cases e:a=b
   ·exact e
   ·have h3:=(el.1 ha).2.2.2;have h4:=(el.1 hb).2.2.2;have:b=bP a:=by unfold bP;split<;>omega
    rw[this,iF,fM] at h4;omega
  revert hnd hinj
  generalize cm N rm least lv (2*m)=l
  intro hnd hinj
  induction l with
  |nil=>exact IP
  |cons x l ih=>
   obtain⟨h3,h4⟩:=GS.1 hnd;rw[GG,GS];refine⟨λ hin=>?_,ih h4 λ a ha b hb=>hinj a (by simp[ha]) b (by simp[hb])⟩;obtain⟨y,hy,he⟩:=GR.1 hin;exact h3 (hinj x (by simp) y (by simp[hy]) he.symm▸hy)
 have h2:=mh _ (List.range m) h1 λ x hx=>by
  obtain⟨y,hy,rfl⟩:=GR.1 hx;have:=(el.1 hy).1;rw[Hm];omega
 rwa [GA,HM] at h2
theorem yq(N:aU)(ls:LN)(n:Nat):cI (ek N ls) n (List.replicate (n+1) 0)<=ls.length:=by
 unfold cI
 have h0:∀ v∈List.range (n+1),(ek N ls v).length-(List.replicate (n+1) 0).getD v 0=(ek N ls v).length:=by
  intro v hv;rw[Gw,GN,if_pos (Hm.1 hv)];rfl
 rw[HH h0]
 have:∀ (vs:LN) (ls:LN),vs.Nodup->(vs.map λ v=>(ek N ls v).length).sum<=ls.length:=by
  intro vs ls hvs
  induction ls with
  |nil=>
   have:(vs.map λ v=>(ek N [] v).length)=vs.map λ _=>0:=HH λ v _=>rfl;rw[this]
   clear this hvs
   induction vs with
   |nil=>exact GF _
   |cons v vs ih=>simpa using ih
  |cons r ls ih=>
   have h1:∀ v,(ek N (r::ls) v).length=(ek N ls v).length+if dC N r=v then 1 else 0:=by
    intro v;unfold ek;rw[H6];by_cases e:dC N r=v<;>simp[e]
   have h2:∀ vs:LN,vs.Nodup->(vs.map λ v=>(ek N (r::ls) v).length).sum<=(vs.map λ v=>(ek N ls v).length).sum+1/\(dC N r∉vs->(vs.map λ v=>(ek N (r::ls) v).length).sum=(vs.map λ v=>(ek N ls v).length).sum):=by
    intro vs hn
    induction vs with
    |nil=>exact⟨by simp,λ _=>rfl⟩
    |cons v vs ih2=>
     obtain⟨a1,a2⟩:=GS.1 hn;obtain⟨b1,b2⟩:=ih2 a2;simp only[GG,GT,h1 v];by_cases e:dC N r=v
     ·have:=b2 (e▸a1);rw[if_pos e];exact⟨by omega,λ h=>absurd (by rw[e];simp) h⟩
     ·rw[if_neg e];exact⟨by omega,λ h=>by have:=b2 (λ h'=>h (by simp[h']));omega⟩
   have:=(h2 vs hvs).1;rw[Gz];omega
 exact this _ _ H5
section
variable {N:aU} {L:Nat->LN} {lv:Nat->Int} {least:Int} {tr:LI}
theorem TR.count(hR:N.Right)(hG:eF N L lv)(hle:1<=least){ls:LN}(hL:∀ v r,r∈L v↔r∈ls/\dC N r=v){ws:List (LN×Int)}{tr':LI}(h:TR N L least tr ws tr'):∀ {f:LI},aK N f->tr=aP (N.arcs.zip f)->ws.length<=mP ls least tr/\(∀ r,r∉ls->bP r∉ls->tr'.getD r 0=tr.getD r 0)/\∃ f',aK N f'/\tr'=aP (N.arcs.zip f'):=by
 induction h with
 |stop hP hd=>exact λ hf he=>⟨GB _,λ _ _ _=>rfl,_,hf,he⟩
 |@walk tr tr' pos0 W0 ws hP hend _ ih=>
  intro f hf he;obtain⟨_,hlt,hnd,_,_,_,⟨f',hf',hf'e⟩,_,hmono,r,v,k1,k2,k3⟩:=iH hR hG hle hf he hP hend;obtain⟨i1,i2,i3⟩:=ih hf' hf'e;refine⟨?_,λ q hq hfq=>?_,i3⟩
  ·have:=sj (ls:=ls) (least:=least) (rm:=tr) (rm':=cj (cH tr W0) W0 tr) (λ q hq=>hmono _ q ((hL _ q).2 ⟨hq,rfl⟩)) r ((hL v r).1 k1).1 k2 k3;rw[Gz];omega
  ·rw[i2 q hq hfq,f7 (a:=cH tr W0) (by rw[he];exact iq hf.len) hlt hnd q,if_neg (λ h=>hfq ((hL _ _).1 (hP.mem _ h)).1),if_neg (λ h=>hq ((hL _ _).1 (hP.mem _ h)).1)];omega
end
noncomputable def iQ(f f':LI)(ls:LN)(k i:Nat):Int:=if 2*i+2<=k then f'.getD i 0 else if 2*i+1<=k/\2*i∈ls then f'.getD i 0 else f.getD i 0
noncomputable def kl(f f':LI)(ls:LN)(m k:Nat):LI:=(List.range m).map (iQ f f' ls k)
theorem ku{f f':LI}{ls:LN}{m k i:Nat}(h:i<m):(kl f f' ls m k)[i]?=some (iQ f f' ls k i):=by simp[kl,h]
theorem dW(f f':LI)(ls:LN)(m k:Nat):(kl f f' ls m k).length=m:=by simp[kl]
theorem vg{f f':LI}{ls:LN}{m k:Nat}(hk:k<2*m){x:Int}(hx:x=iQ f f' ls (k+1) (k/2)):(kl f f' ls m k).set (k/2) x=kl f f' ls m (k+1):=by
 apply Id
 intro j;by_cases hj:j<m
 ·rw[ku hj];by_cases e:k/2=j
  ·subst e;rw[GH (by rw[dW];exact hj),hx]
  ·rw[GJ e,ku hj]
   congr 1
   unfold iQ;have h1:(2*j+2<=k)↔(2*j+2<=k+1):=by omega
   by_cases e2:2*j+2<=k
   ·rw[if_pos e2,if_pos (h1.1 e2)]
   ·rw[if_neg e2,if_neg (fun h=>e2 (h1.2 h))];have h3:(2*j+1≤k)↔(2*j+1≤k+1):=by omega
    by_cases h4:2*j+1<=k/\2*j∈ls
    ·rw[if_pos h4,if_pos ⟨h3.1 h4.1,h4.2⟩]
    ·rw[if_neg h4,if_neg (λ h=>h4 ⟨h3.2 h.1,h.2⟩)]
 ·rw[G6 (by rw[Ha,dW];omega),G6 (by rw[dW];omega)]
theorem uC{l l':LI}(hl:l.length=l'.length)(h:∀ i,i<l.length->l.getD i 0=l'.getD i 0):l=l':=by
 apply Id
 intro i;by_cases hi:i<l.length
 ·have:=h i hi;rw[List.getD_eq_getElem?_getD,List.getD_eq_getElem?_getD,List.getElem?_eq_getElem hi,List.getElem?_eq_getElem (by omega)] at this;rw[List.getElem?_eq_getElem hi,List.getElem?_eq_getElem (by omega)]
  simpa using this
 ·rw[G6 (by omega),G6 (by omega)]
theorem vt{f f':LI}{ls:LN}:kl f f' ls f.length 0=f:=by
 refine uC (dW _ _ _ _ _) λ i hi=>?_;rw[dW] at hi;rw[Gw,ku hi,G1];unfold iQ;rw[if_neg (by omega),if_neg (by omega)]
theorem BP{f f':LI}{ls:LN}(h:f'.length=f.length):kl f f' ls f.length (2*f.length)=f':=by
 refine uC (by rw[dW];exact h.symm) λ i hi=>?_;rw[dW] at hi;rw[Gw,ku hi,G1];unfold iQ;rw[if_pos (by omega)]
theorem pm{N:aU}{f:LI}(hl:f.length=N.arcs.length){i:Nat}(hi:i<N.arcs.length):∃ a,N.arcs[i]?=some a/\(aP (N.arcs.zip f)).getD (2*i) 0=a.cap-f.getD i 0/\(aP (N.arcs.zip f)).getD (2*i+1) 0=f.getD i 0:=by
 obtain⟨a,ha⟩:∃ x,N.arcs[i]?=some x:=⟨N.arcs[i],Gq hi⟩;have hx:f[i]?=some (f.getD i 0):=by rw[Gw,Gq (by omega)];rfl
 obtain⟨g1,g2⟩:=dA (fi ha hx);exact⟨a,ha,by rw[Gw,g1];rfl,by rw[Gw,g2];rfl⟩
theorem xP{N:aU}{f f':LI}{ls:LN}{rmF:LI}(hl:f.length=N.arcs.length)(hl':f'.length=N.arcs.length)(hin:∀ r∈ls,rmF.getD r 0=(aP (N.arcs.zip f')).getD r 0)(hout:∀ r,r∉ls->rmF.getD r 0=(aP (N.arcs.zip f)).getD r 0)
 (hsame:∀ r,r∉ls->bP r∉ls->(aP (N.arcs.zip f')).getD r 0=(aP (N.arcs.zip f)).getD r 0) (hflip:∀ r∈ls,bP r∉ls) {k:Nat} (hk:k<2*N.arcs.length):
 (k%2=0->iQ f f' ls k (k/2)+((aP (N.arcs.zip f)).getD k 0-rmF.getD k 0)=iQ f f' ls (k+1) (k/2))/\(k%2=1->iQ f f' ls k (k/2)-((aP (N.arcs.zip f)).getD k 0-rmF.getD k 0)=iQ f f' ls (k+1) (k/2)):=by
 obtain⟨i,hi⟩:∃ i,k/2=i:=⟨_,rfl⟩;have him:i<N.arcs.length:=by omega
 obtain⟨a,ha,g1,g2⟩:=pm hl him;obtain⟨a',ha',g3,g4⟩:=pm hl' him;rw[ha] at ha';simp only[Gs] at ha';subst ha';rw[hi];refine⟨λ h0=>?_,λ h1=>?_⟩
 ·obtain rfl:k=2*i:=by omega
  unfold iQ;rw[if_neg (by omega),if_neg (by omega),if_neg (by omega)];by_cases e:2*i∈ls
  ·rw[if_pos ⟨by omega,e⟩,hin _ e,g1,g3];omega
  ·rw[if_neg (λ h=>e h.2),hout _ e];omega
 ·obtain rfl:k=2*i+1:=by omega
  unfold iQ;rw[if_neg (by omega),if_pos (show 2*i+2<=2*i+1+1 by omega)];have hfl:bP (2*i+1)=2*i:=by unfold bP;rw[if_pos (by omega)];omega
  have hfl2:bP (2*i)=2*i+1:=by unfold bP;rw[if_neg (by omega)]
  by_cases e:2*i∈ls
  ·rw[if_pos ⟨by omega,e⟩,hout _ (by rw[<- hfl2];exact hflip _ e)];omega
  ·rw[if_neg (λ h=>e h.2)];by_cases e2:2*i+1∈ls
   ·rw[hin _ e2,g2,g4];omega
   ·have:=hsame _ e2 (by rw[hfl];exact e);rw[hout _ e2];rw[g2,g4] at this;omega
theorem xw{N:aU}(hR:N.Right){f f':LI}(hf:Ranged N f)(hf':Ranged N f'){ls:LN}{k i:Nat}(hi:i<N.arcs.length):0<=iQ f f' ls k i/\iQ f f' ls k i<=4611686018427387903:=by
 obtain⟨_,_,_,g2⟩:=pm hf.len hi;obtain⟨_,_,_,g4⟩:=pm hf'.len hi;have h1:=eQ hR hf (2*i+1);have h2:=eQ hR hf' (2*i+1);rw[g2] at h1;rw[g4] at h2;unfold iQ;split
 ·exact h2
 ·split
  ·exact h2
  ·exact h1
def gO(n m:Nat):Nat:=(dz n+3)*m+dH n*(n+1)+(dd (n+1)+5*(n+1)+1)+(2*dd (n+1)+11*(n+1)+1)*(n+1)+(n+1)
def CA(N:aU)(f:LI)(least:Int)(m:Nat)(v:Value)(H':Heap):Prop:=
 (aK N f/\1<=least/\∃ (f':LI) (ws:List (LN×Int)) (k:Nat) (Ao:OA) (co:Nat),kh N least f ws f'/\2*N.arcs.length<=k/\k<=gO N.nodes.toNat N.arcs.length/\ws.length<=N.arcs.length/\
  v=.tuple #[.slice Ao m co,.int .i64 (ws.length:Int),.int .i64 (k:Int),.int .i64 0]/\H'=[.own (.slice Ao m co) 2 1 m (ax f')])\/
 (¬ aK N f/\v=.tuple #[.slice none 0 0,.int .i64 0,.int .i64 0,.int .i64 (en N f)]/\H'=[])\/(aK N f/\least<1/\v=.tuple #[.slice none 0 0,.int .i64 0,.int .i64 0,.int .i64 3]/\H'=[])
set_option maxHeartbeats 2000000 in
theorem yR(N:aU)(hN:N.Fits)(hR:N.Right)(A:OA)(c b o:Nat)(hA:N.arcs≠[]->A=some ⟨b,o,none⟩)(f:LI)(F:OA)(cf bf of:Nat)(hF:f≠[]->F=some ⟨bf,of,none⟩)(hf:∀ x∈f,dn x)(hfl:f.length*8<=140737488351232)(least:Int)(hlb:dn least):
 Fn 232 [bp N A c,.slice F f.length cf,.int .i64 least] [] [.seg b o (arcs N.arcs),.seg bf of (ax f)] (CA N f least f.length):=by
 have hnn:=hR.nodes;have hl2:=hR.len;obtain⟨n,hn⟩:∃ n:Nat,N.nodes=n:=⟨N.nodes.toNat,by omega⟩;refine aJ Tryz.func232 rfl rfl λ w0=>?_;refine ad (aa ?_);refine bx (cs:=bI N A c) rfl rfl rfl (λ _=>rfl) λ p=>?_;refine ae [] rfl ?_;refine ad (aa ?_);refine ab [] (v:=bp N A c) (af 0 rfl) rfl ?_;refine ah [] rfl ?_;refine ap [] (uw N hN hR A c b o hA f F cf bf of hF hf hfl least) rfl (by kernel_rfl) ⟨⟨1,_,by simp,rfl,ak _ _ _,av⟩,⟨2,_,by simp,rfl,ak _ _ _,av⟩,an⟩ (λ _=>rfl) ?_;rintro v H' (⟨hW,hle,lv,B,cb,hlv,rfl,rfl⟩|⟨hW,rfl,rfl⟩|⟨hW,hle,rfl,rfl⟩)
 case inr.inl=>
  refine⟨rfl,?_⟩;refine ae [] rfl ?_;refine ad (ad (aa (ae [] rfl ?_)));refine aC rfl (λ h=>?_) (λ h=>absurd (cU.1 (GK.1 h)) hW);refine ad (aa (ae [] rfl ?_));refine az [] (by decide) rfl (ay ⟨_,rfl,.inr (.inl ⟨hW,rfl,rfl⟩)⟩)
 case inr.inr=>
  refine⟨rfl,?_⟩;refine ae [] rfl ?_;refine ad (ad (aa (ae [] rfl ?_)));refine aC rfl (λ h=>?_) (λ h=>absurd h (by decide));refine ad (aa (ae [] rfl ?_));refine az [] (by decide) rfl (ay ⟨_,rfl,.inr (.inr ⟨hW,hle,rfl,rfl⟩)⟩)
 refine⟨rfl,?_⟩;refine ae [] rfl ?_;refine ad (ad (aa (ae [] rfl ?_)));refine aC rfl (λ h=>absurd rfl h) (λ _=>aq ?_);refine ad (aa ?_);refine ab [] (v:=bp N A c) (af 1 rfl) rfl ?_;refine ah [] rfl ?_;refine ap [] (mH N hN hR A c b o hA f F cf bf of hF hf hfl) rfl (by kernel_rfl) ⟨⟨2,_,by simp,rfl,ak _ _ _,av⟩,⟨3,_,by simp,rfl,ak _ _ _,av⟩,an⟩ (λ _=>rfl) ?_;rintro v H' (⟨_,A1,c1,rfl,rfl⟩|⟨h,_,_⟩)
 case inr=>exact absurd hW h
 refine⟨rfl,?_⟩;refine ae [] rfl ?_;have hfN:=hW.len;obtain⟨ls,hls⟩:∃ ls,ls=cm N (aP (N.arcs.zip f)) least lv (2*N.arcs.length):=⟨_,rfl⟩;rw[<- hls];have hlsm:∀ r∈ls,r<2*N.arcs.length:=λ r hr=>(el.1 (hls▸hr)).1;have hlsh:ls.length<=N.arcs.length:=hls▸vL N _ least lv _;have hG:=ij hlv;rw[<- hls] at hG;refine bh (aW 1 rfl) λ ⟨_,_,hB,hlB⟩=>?_;obtain⟨gB,hB⟩:=bL hB hlB;refine bh (aW 0 rfl) λ ⟨_,_,hA1,hlA1⟩=>?_;obtain⟨gr,hA1⟩:=bL hA1 hlA1;have hB':ls≠[]->B=some ⟨gB,0,none⟩:=λ h=>hB (by intro h0;apply h;have:=eq ls;unfold bS at this;rw[h0] at this;exact GM.1 this.symm);obtain⟨rm0,hrm0⟩:∃ x,x=aP (N.arcs.zip f):=⟨_,rfl⟩;have hrl0:rm0.length=2*N.arcs.length:=by rw[hrm0];exact iq hW.len
 have hA1':rm0≠[]->A1=some ⟨gr,0,none⟩:=λ h=>hA1 (by rw[<- hrm0];intro h0;exact h (GM.1 (by rw[<- bK,h0];rfl)));rw[<- hrm0];refine ad ?_;refine bu 7 (cZ [0,1,3,4]++[(2,false),(5,false)]++cZ [6]) [2] (by kernel_rfl) (by decide) rfl ?_
 (repeat' (first|refine bB (gs:=[999]) rfl rfl ?_|refine aj [999] rfl (af (v:=bp N A c) 0 rfl) rfl ?_))
 refine bg rfl ?_;have hA1x:ax rm0≠[]->A1=some ⟨gr,0,none⟩:=by rw[hrm0];exact hA1
 have TC:=fB A1 c1 gr 0 rm0 hA1' (by omega);rw[hrl0] at TC;refine b9 [] TC rfl rfl rfl rfl (by kernel_rfl) ⟨⟨0,_,by simp,rfl,aE hA1x,aM hA1x⟩,an⟩ (λ _=>rfl) ?_;rintro _ H' ⟨Ac,cc,rfl,rfl⟩;refine⟨rfl,ai ⟨⟨[3],by decide,rfl⟩,?_⟩⟩;refine bg rfl ?_;refine ap [] (Eb N hR A c b o hA Ac cc ls hlsm (by omega) B cb gB 0 hB' least n hn) rfl (by kernel_rfl) ⟨⟨4,_,by simp,rfl,ak _ _ _,av⟩,⟨2,_,by simp,rfl,aE hB,aM hB⟩,an⟩ (λ _=>rfl) ?_;rintro _ H' ⟨pe,gl,gu,pt,ps,gn,go,co,cap,rows,rfl,hrows,hL,rfl⟩;refine⟨cP rfl (cF _ _),?_⟩;refine bY aH.swap ?_;refine ai ⟨⟨[10],by decide,rfl⟩,?_⟩;refine bB (gs:=[999]) rfl rfl ?_;refine bq ?_;refine ai ?_;refine bh (aW 7 rfl) λ ⟨_,_,hAc,hlAc⟩=>?_;obtain⟨gc,hAc⟩:=bL hAc hlAc
 obtain⟨A0,hA0⟩:∃ A0:Heap,A0=jD pt ps go gn co cap (n+1) ⟨λ _=>jz 4611686018427387904,λ _=>none,0⟩++[blk pe 310 (uo N A c Ac cc least n gl gu (.pointer (some ⟨pt,0,none⟩)) ls.length 0),.own (.slice (some ⟨gl,0,none⟩) (n+1) (n+1)) 23 1 (n+1) (rows.map cz),.own (.slice (some ⟨gu,0,none⟩) (n+1) (n+1)) 23 1 (n+1) ((List.replicate (n+1) dv).map cz)]++
  [.own (.slice Ac (2*N.arcs.length) cc) 2 1 (2*N.arcs.length) (ax rm0),.own (.slice A1 (2*N.arcs.length) c1) 2 1 (2*N.arcs.length) (ax rm0),.own (.slice B ls.length cb) 3 1 ls.length (bS ls),blk p 33 (bI N A c),.seg b o (arcs N.arcs),.seg bf of (ax f)]:=⟨_,rfl⟩
 refine bJ (K:=A0++(rows++List.replicate (n+1) dv).map (aZ 3)) (by rw[hA0];exact aH.refl) ?_;have hA0l:A0.length=13:=by rw[hA0];rfl
 have hgvA:∀ w,cO w0 [] w (A0++(rows++List.replicate (n+1) dv).map (aZ 3))->
  ∀ v:Nat,∃ gv:Nat,∀ row,rows[v]?=some row->row.l.length<=row.c/\(ax row.l≠[]->row.A=some ⟨gv,0,none⟩):=by
  intro w hw v
  cases hv:rows[v]? with
  |none=>exact⟨0,λ row h=>by cases h⟩
  |some row=>
   obtain⟨_,h2,h3,h4⟩:=aW (X:=⟨w0,[],⟨0,[]⟩⟩) (13+v) (show _=some (aZ 3 row) by
    rw[GL (by omega),hA0l,Hb,GC,Hi (Gv.1 hv).1,hv];rfl) w hw
   obtain⟨gv,hgv⟩:=bL h3 h4;exact⟨gv,λ row' h=>by simp only[Gs] at h;subst h;exact⟨h2,hgv⟩⟩
 refine bh hgvA λ hrowA=>?_;obtain⟨gv,hgv⟩:∃ gv:Nat->Nat,∀ (v:Nat) (row:d9),rows[v]?=some row->row.l.length<=row.c/\(ax row.l≠[]->row.A=some ⟨gv v,0,none⟩):=⟨λ v=>Classical.choose (hrowA v),λ v=>Is (hrowA v)⟩
 clear hrowA hgvA
 obtain⟨P,hPd⟩:∃ P:EP,P={ N:=N,least:=least,n:=n,A:=A,c:=c,b:=b,o:=o,gr:=gc,Ar:=Ac,cr:=cc,gl:=gl,gu:=gu,pe:=pe,pt:=pt,ps:=ps,go:=go,gn:=gn,co:=co,cap:=cap,rowsL:=rows }:=⟨_,rfl⟩;obtain⟨s0,hs0⟩:∃ s:ES,s={ vals:=rows.map cz,un:=List.replicate (n+1) dv,fs:=⟨λ _=>jz 4611686018427387904,λ _=>none,0⟩,rm:=rm0,k:=ls.length,w:=0 }:=⟨_,rfl⟩
 refine bJ (K:=eW P s0++[P.sg,.own (.slice A1 (2*N.arcs.length) c1) 2 1 (2*N.arcs.length) (ax rm0),.seg bf of (ax f)]) (by
  rw[hA0,hPd,hs0];exact aH.mid [0,1,2,3,4,7,5,6] [11,8,12] rfl rfl (by decide)) ?_
 clear hA0 hA0l
 have hP:jY P (ek N ls) (cM lv) gv:=by
  rw[hPd];exact⟨hR,hn,hG,hrows,hL,λ v row h=>(hgv v row h).2,λ v=>HG (iY N ls v) (by omega),hA,λ h=>hAc (by intro h0;rw[h0] at hlAc;simp at hlAc;exact h (GM.1 (show N.arcs.length=0 by omega))),hlb⟩
 have hPN:P.N=N:=by rw[hPd]
 have hPl:P.least=least:=by rw[hPd]
 have hPn:P.n=n:=by rw[hPd]
 have hPr:P.rowsL=rows:=by rw[hPd]
 have hPp:P.pe=pe:=by rw[hPd]
 have hI0:jc P (ek N ls) gv rm0 rm0 (List.replicate (n+1) 0) (λ _=>none) (λ _=>4611686018427387904) s0:=by
  refine⟨⟨_,by rw[hs0,hPn];exact fE.new (by decide)⟩,⟨by rw[hPn];simp,λ _ _ _ h=>(by cases h),λ _ _ _=>rfl,by rw[hs0,hPN];exact hrl0,λ _ _ _ _=>by rw[hs0],λ _ _=>by rw[hs0],λ r=>by rw[hrm0];exact eQ hR hW.toRanged r⟩,?_,?_⟩
  ·rw[hs0,hPr];refine⟨by simp,fun v row q hr hq=>?_⟩;rw[List.getElem?_replicate] at hq;split at hq
   ·simp only[Option.some.injEq] at hq;subst hq;have h1:=hgv v row hr;refine⟨row.A,row.c,by rw[List.getElem?_map,hr];rfl,h1.1,fun hp=>h1.2 (fun h0=>?_)⟩;have:row.l.length=0:=by rw[← bK,h0];rfl
    omega
   ·cases hq
  ·rw[hs0,hPn];refine⟨by simp,fun w row hr=>?_⟩;rw[List.getElem?_replicate] at hr;split at hr
   ·simp only[Gs] at hr;subst hr;exact⟨[],rfl,IP,λ v=>by simp⟩
   ·cases hr
 have hPI0:PI P.N (ek N ls) P.least rm0 (List.replicate (n+1) 0) []:=by
  have:=PI.start (N:=N) (L:=ek N ls) (least:=least) (rm:=rm0);rw[hn,GW] at this;rw[hPN,hPl];exact this
 have hle':1<=P.least:=by rw[hPl];exact hle
 rw[<- hPp];refine ad (aa ?_);refine am (gs:=[999]) rfl ?_;refine aw [] (ET hP hle' s0 hI0 hPI0 (λ _ _ _ h=>(by cases h)) (f:=f) (by rw[hPN];exact hW) (by rw[hPN];exact hrm0)) rfl rfl rfl rfl (by kernel_rfl) aH.refl ⟨⟨0,_,by simp,rfl,ak _ _ _,av⟩,an⟩ (λ _=>rfl) ?_;rintro _ H' ⟨t,rfl,hTR,hIt,hft,hte,hwt,hct⟩;refine⟨cP rfl (cF _ _),?_⟩;refine ai ?_;refine ad (aa ?_);refine am (gs:=[999]) rfl ?_;refine aw [] (Bw hP t.s hIt) rfl rfl rfl rfl (by kernel_rfl) aH.refl ⟨⟨0,_,by simp,rfl,ak _ _ _,av⟩,an⟩ (λ _=>rfl) ?_;rintro _ H' ⟨par3,val3,s3,rfl,hta3,hnone,hw3,hc3⟩;refine⟨cP rfl (cF _ _),?_⟩;refine ai ?_
 refine bJ (K:=P.fo s3.fs++[P.pc s3.k s3.w,P.rc s3.rm,.own (.slice A1 (2*N.arcs.length) c1) 2 1 (2*N.arcs.length) (ax rm0),.seg bf of (ax f)]) (by
  refine aH.trans (aH.swap (A:=P.fo s3.fs++[P.pc s3.k s3.w,P.rc s3.rm,P.lc s3.vals,P.uc s3.un]) (R:=P.rows s3.un) (B:=[P.sg,.own (.slice A1 (2*N.arcs.length) c1) 2 1 (2*N.arcs.length) (ax rm0),.seg bf of (ax f)])) ?_;refine aH.trans (aH.re [0,1,2,3,4,5,9,10] rfl (by decide)) (aH.sub (List.sublist_append_left _ _))) ?_
 refine ad (aa ?_);refine am (gs:=[999]) rfl ?_;refine ap [] (fB F cf bf of f hF (by omega)) rfl (by kernel_rfl) ⟨⟨7,_,by simp,rfl,ak _ _ _,av⟩,an⟩ (λ _=>rfl) ?_;rintro _ H' ⟨Ao,co2,rfl,rfl⟩;refine⟨rfl,?_⟩;refine ae [] rfl ?_;refine ad (ad (aa (ae [] rfl ?_)));rw[hPN,hPl] at hTR;have hcl:(cm N (aP (N.arcs.zip f)) least lv (2*N.arcs.length)).length<=_:=jf N _ least lv _;obtain⟨hcnt,hsame,_⟩:=hTR.count hR hG hle (ls:=ls) (λ v r=>fO) hW hrm0;have hcnt2:mP ls least rm0<=ls.length:=HI _ _;rw[hPN] at hft hte
 have hflip:∀ r∈ls,bP r∉ls:=by
  intro r hr hfr;rw[hls] at hr hfr;have h1:=(el.1 hr).2.2.2;have h2:=(el.1 hfr).2.2.2;rw[iF,fM] at h2;omega
 have hin:∀ r∈ls,s3.rm.getD r 0=(aP (N.arcs.zip t.f)).getD r 0:=by
  intro r hr;rw[<- hte];refine hta3.lead (dC N r) r (fO.2 ⟨hr,rfl⟩) λ q hq _=>absurd (hnone _ ?_) hq;have:=kn hR (hlsm r hr);rw[hPn];omega
 have hout:∀ r,r∉ls->s3.rm.getD r 0=(aP (N.arcs.zip f)).getD r 0:=by
  intro r hr;rw[<- hrm0];exact hta3.rest r λ v hv=>hr (fO.1 hv).1
 have hsame':∀ r,r∉ls->bP r∉ls->(aP (N.arcs.zip t.f)).getD r 0=(aP (N.arcs.zip f)).getD r 0:=by
  intro r h1 h2;rw[<- hte,<- hrm0];exact hsame r h1 h2
 have hrl3:s3.rm.length=2*N.arcs.length:=by have:=hta3.rml;rw[hPN] at this;exact this
 have htfl:=hft.len
 have hPrc:P.rc s3.rm=.own (.slice P.Ar (2*N.arcs.length) P.cr) 2 1 (2*N.arcs.length) (ax s3.rm):=by
  show aV.own (.slice P.Ar (2*P.N.arcs.length) P.cr) _ _ _ _=_;rw[hPN]
 have hA1y:0<N.arcs.length->A1=some ⟨gr,0,none⟩:=λ h=>hA1' (by intro h0;rw[h0] at hrl0;simp at hrl0;omega);obtain⟨m,hm⟩:∃ m,m=N.arcs.length:=⟨_,rfl⟩;have hfm:f.length=m:=by omega
 rw[hfm]
 refine bJ (K:=P.fo s3.fs++[P.pc s3.k s3.w,P.rc s3.rm,.own (.slice A1 (2*N.arcs.length) c1) 2 1 (2*N.arcs.length) (ax rm0),.own (.slice Ao m co2) 2 1 m (ax (kl f t.f ls m 0))]) (by
  rw[<- hfm,vt];exact aH.re (A:=[.own (.slice Ao f.length co2) 2 1 f.length (ax f)]++(P.fo s3.fs++[P.pc s3.k s3.w,P.rc s3.rm,.own (.slice A1 (2*N.arcs.length) c1) 2 1 (2*N.arcs.length) (ax rm0),.seg bf of (ax f)])) (R:=[]) [1,2,3,4,5,6,7,0] rfl (by decide)) ?_
 refine au ?_
 refine b6 (σ:=Nat) (λ k=>[(48,.int .i64 (k:Int)),(47,.int .i64 ((2*N.arcs.length:Nat):Int)),(46,.slice A1 (2*N.arcs.length) c1),(15,.slice Ao m co2),(14,.pointer (some ⟨P.pe,0,none⟩)),(12,.slice A1 (2*N.arcs.length) c1)])
  (λ k=>P.fo s3.fs++[P.pc (s3.k+k) s3.w,P.rc s3.rm,.own (.slice A1 (2*N.arcs.length) c1) 2 1 (2*N.arcs.length) (ax rm0),.own (.slice Ao m co2) 2 1 m (ax (kl f t.f ls m k))])
  (λ k=>k<=2*N.arcs.length) (λ k=>2*N.arcs.length-k) 0 ⟨rfl,rfl,rfl,rfl,rfl,rfl,an⟩ aH.refl (GB _) ?_
 intro k hk;refine ad (aa (ae [] rfl ?_));refine ad ?_;refine aC rfl (λ hlt=>aq ?_) (λ hge=>bc ?_)
 ·have hk2:k<2*N.arcs.length:=by omega
  have hkm:k/2<m:=by omega
  obtain rfl:=hA1y (by omega);have hAr:=hP.room (r:=k) (by rw[hPN];exact hk2);have hr0:(ax rm0)[k]?=some (.int .i64 (rm0.getD k 0)):=dx (by rw[Gw,Gq (by omega)];rfl);have hr3:(ax s3.rm)[k]?=some (.int .i64 (s3.rm.getD k 0)):=dx (by rw[Gw,Gq (by omega)];rfl);have b0:=eQ hR hW.toRanged k;have b1:=eQ hR hft.toRanged k;rw[<- hrm0] at b0
  have b3:0<=s3.rm.getD k 0/\s3.rm.getD k 0<=4611686018427387903:=by
   by_cases e:k∈ls
   ·rw[hin k e];exact b1
   ·rw[hout k e,<- hrm0];exact b0
  obtain⟨st0,st1⟩:=xP hW.len htfl hin hout hsame' hflip hk2;rw[<- hrm0] at st0 st1;have o0:=xw hR hW.toRanged hft.toRanged (ls:=ls) (k:=k) (i:=k/2) (by omega);have o1:=xw hR hW.toRanged hft.toRanged (ls:=ls) (k:=k+1) (i:=k/2) (by omega);refine bh (aW 7 rfl) λ ⟨_,_,hAo,_⟩=>?_;obtain⟨go2,rfl⟩:=hAo (by omega);refine ad (au ?_);refine ad (aa (ae [] rfl ?_));refine ad (aa ?_);refine am (gs:=[999]) rfl ?_;refine bY (aH.re (A:=P.fo s3.fs++[P.pc (s3.k+k) s3.w,P.rc s3.rm,.own (.slice (some ⟨gr,0,none⟩) (2*N.arcs.length) c1) 2 1 (2*N.arcs.length) (ax rm0),.own (.slice (some ⟨go2,0,none⟩) m co2) 2 1 m (ax (kl f t.f ls m k))]) (R:=[]) [4,0,1,2,3,5,6,7] rfl (by decide)) ?_;refine aw [999] (kf P (s3.k+k) s3.w) rfl rfl rfl rfl (by kernel_rfl) aH.refl an (λ _=>rfl) ?_;rintro v0 H' rfl;refine⟨rfl,?_⟩;refine bY (aH.re (A:=[P.pc (s3.k+k+1) s3.w]++(P.fo s3.fs++[P.rc s3.rm,.own (.slice (some ⟨gr,0,none⟩) (2*N.arcs.length) c1) 2 1 (2*N.arcs.length) (ax rm0),.own (.slice (some ⟨go2,0,none⟩) m co2) 2 1 m (ax (kl f t.f ls m k))])) (R:=[]) [1,2,3,4,0,5,6,7] rfl (by decide)) ?_;refine ai ?_;refine ad ?_;refine bu 13 (cZ [0,1,2,3,4,5,6,7,8,9,10,11,12]) [4,5,6] (by kernel_rfl) (by decide) rfl ?_
  (repeat' (first|refine bB (gs:=[999]) rfl rfl ?_|refine aj [999] rfl (af 0 rfl) rfl ?_|refine aj [999] rfl (aG rfl hk2) rfl ?_|refine aj [999] rfl (aD 2 rfl rfl rfl hr0) rfl ?_|refine aj [999] rfl (oy (b:=P.gr) (n:=2*P.N.arcs.length) (c:=P.cr) rfl (Gt (λ A=>some (Value.slice A (2*P.N.arcs.length) P.cr)) hAr) rfl rfl rfl (by rw[hPN];exact hk2)) rfl ?_|refine aj [999] rfl (aD (g:=P.gr) (n:=2*P.N.arcs.length) (cap:=P.cr) 1 rfl rfl (Gt (λ A=>some (aV.own (.slice A (2*P.N.arcs.length) P.cr) 2 1 (2*P.N.arcs.length) (ax s3.rm))) hAr) hr3) rfl ?_))
  refine bq ?_;refine ai ?_;refine a7 17 (v':=.int .i64 (rm0.getD k 0-s3.rm.getD k 0)) rfl (Gt (Value.int .i64) (cv (by omega))) ?_;refine ad (aa (ae [] rfl ?_));have hand:IntKind.i64.wrap ((BitVec.ofInt IntKind.i64.bits (k:Int)&&& BitVec.ofInt IntKind.i64.bits 1).toNat:Int)=(k:Int)%2:=wG k
  have hq:∀ x:Int,x=((k:Int)).tdiv 2->IntKind.i64.wrap x=((k/2:Nat):Int):=by
   intro x hx;rw[hx,IV (by omega),cv (by omega)];omega
  have hget:=ku (f:=f) (f':=t.f) (ls:=ls) (k:=k) hkm;have hgi:(ax (kl f t.f ls m k))[k/2]?=some (.int .i64 (iQ f t.f ls k (k/2))):=dx hget;refine aC rfl (λ heq=>?_) (λ hne=>?_)
  ·rw[hand] at heq;have hst:=st0 (by omega);refine aa ?_;refine am (gs:=[999]) rfl ?_;refine am (gs:=[999]) rfl ?_;refine am (gs:=[999]) rfl ?_;refine aI 70 (v':=.int .i64 ((k/2:Nat):Int)) rfl (Gt (Value.int .i64) (hq _ rfl)) ?_;refine ab [] (aG rfl hkm) rfl ?_;refine ab [] (aD 7 rfl rfl rfl hgi) rfl ?_;refine am (gs:=[999]) rfl ?_;refine am (gs:=[999]) rfl ?_;refine aI 74 (v':=.int .i64 (iQ f t.f ls (k+1) (k/2))) rfl (Gt (Value.int .i64) ((cv (by omega)).trans hst)) ?_;refine ab [] (aG rfl hkm) rfl ?_;refine aO 7 rfl rfl rfl rfl (df rfl rfl rfl (by rw[bK,dW];exact hkm)) [] rfl ?_;rw[show (ax (kl f t.f ls m k)).set (k/2) (.int .i64 (iQ f t.f ls (k+1) (k/2)))=ax ((kl f t.f ls m k).set (k/2) (iQ f t.f ls (k+1) (k/2))) from by simp[ax],vg (by omega) rfl];refine ai ?_;refine aa (ae [] rfl ?_);refine⟨k+1,⟨?_,rfl,rfl,rfl,rfl,rfl,an⟩,aH.refl,hk2,by show 2*N.arcs.length-(k+1)<2*N.arcs.length-k;omega⟩;show some (Value.int .i64 (IntKind.i64.wrap ((k:Int)+1)))=_;rw[cv (by omega)];rfl
  ·rw[hand] at hne;have hst:=st1 (by omega);refine aa ?_;refine am (gs:=[999]) rfl ?_;refine am (gs:=[999]) rfl ?_;refine am (gs:=[999]) rfl ?_;refine aI 78 (v':=.int .i64 ((k/2:Nat):Int)) rfl (Gt (Value.int .i64) (hq _ rfl)) ?_;refine ab [] (aG rfl hkm) rfl ?_;refine ab [] (aD 7 rfl rfl rfl hgi) rfl ?_;refine am (gs:=[999]) rfl ?_;refine am (gs:=[999]) rfl ?_;refine aI 82 (v':=.int .i64 (iQ f t.f ls (k+1) (k/2))) rfl (Gt (Value.int .i64) ((cv (by omega)).trans hst)) ?_;refine ab [] (aG rfl hkm) rfl ?_;refine aO 7 rfl rfl rfl rfl (df rfl rfl rfl (by rw[bK,dW];exact hkm)) [] rfl ?_;rw[show (ax (kl f t.f ls m k)).set (k/2) (.int .i64 (iQ f t.f ls (k+1) (k/2)))=ax ((kl f t.f ls m k).set (k/2) (iQ f t.f ls (k+1) (k/2))) from by simp[ax],vg (by omega) rfl];refine ai ?_;refine aa (ae [] rfl ?_);refine⟨k+1,⟨?_,rfl,rfl,rfl,rfl,rfl,an⟩,aH.refl,hk2,by show 2*N.arcs.length-(k+1)<2*N.arcs.length-k;omega⟩;show some (Value.int .i64 (IntKind.i64.wrap ((k:Int)+1)))=_;rw[cv (by omega)];rfl
 ·obtain rfl:k=2*N.arcs.length:=by omega
  have hoe:kl f t.f ls m (2*N.arcs.length)=t.f:=by
   have:=BP (f:=f) (f':=t.f) (ls:=ls) (by omega);rw[hfm,hm] at this;rw[hm];exact this
  rw[hoe];refine ad ?_;refine bu 19 (cZ [0,1,2,3,4,5,6,7,8,9,10,11,12]++[(13,false)]++cZ [14,15,16,17,18]) [4] (by kernel_rfl) (by decide) rfl ?_
  (repeat' (first|refine bB (gs:=[999]) rfl rfl ?_|refine aj [999] rfl (af 0 rfl) rfl ?_))
  refine bg rfl ?_
  have hwl:dc (s3.w:Int)=(t.ws.length:Int):=by
   have:s0.w=0:=by rw[hs0]
   exact (cv (by omega)).trans (by omega)
  obtain⟨K,hK⟩:∃ K,K=s3.k+2*N.arcs.length+s3.fs.k:=⟨_,rfl⟩
  have hKB:K<=gO n N.arcs.length:=by
   have e1:s3.cost=s3.k+s3.fs.k:=rfl;have e2:s0.cost=ls.length:=by rw[hs0];rfl
   rw[hPn] at hct hc3;have e3:cI (ek N ls) n (List.replicate (n+1) 0)<=ls.length:=yq N ls n;have e4:dz n*cI (ek N ls) n (List.replicate (n+1) 0)<=dz n*N.arcs.length:=Ih _ (by omega);have e5:dH n*ig t.par n<=dH n*(n+1):=Ih _ (qi _ _);unfold gO;rw[H0];omega
  have hKs:K<9000000000000000000:=by
   have h1:n<=500:=by omega
   have h2:dd (n+1)<=3000000:=by
    unfold dd;have:(n+1)*(n+1)<=501*501:=HX (by omega) (by omega)
    first|omega|(rw[Nat.mul_assoc];omega)|grind
   have h3:(dz n+3)*N.arcs.length<=46000000*2000:=HX (by unfold dz;omega) hl2;have h4:dH n*(n+1)<=16000000*501:=HX (by unfold dH;omega) (by omega);have h5:(2*dd (n+1)+11*(n+1)+1)*(n+1)<=7000000*501:=HX (by omega) (by omega);unfold gO at hKB;omega
  refine aw [] (zc s3.fs) rfl rfl rfl rfl (by kernel_rfl) aH.refl an (λ _=>rfl) ?_;rintro _ H' ⟨rfl,rfl⟩;refine⟨rfl,ai ⟨⟨[4],by decide,rfl⟩,?_⟩⟩;refine bB (gs:=[999]) rfl rfl ?_;refine eg 99 (v':=.int .i64 (K:Int)) rfl (Gt (Value.int .i64) ?_) ?_
  ·show dc (dc ((s3.k+2*N.arcs.length:Nat):Int)+dc (s3.fs.k:Int))=K;have h1:dc (s3.fs.k:Int)=(s3.fs.k:Int):=cv (by omega);have h2:dc ((s3.k+2*N.arcs.length:Nat):Int)=((s3.k+2*N.arcs.length:Nat):Int):=cv (by omega);rw[h1,h2];exact (cv (by omega)).trans (by omega)
  refine eg 89 (v':=.int .i64 (t.ws.length:Int)) rfl (Gt (Value.int .i64) hwl) ?_
  (repeat' (refine bB (gs:=[999]) rfl rfl ?_))
  refine bq ?_;refine ai ?_;have hBl:=hTR.bl hR hG hle hW hrm0 (pos:=List.replicate (n+1) 0) (W:=[]) (by rw[hPN,hPl] at hPI0;exact hPI0);have hnt:N.nodes.toNat=n:=by omega
  refine az [7] (by decide) rfl (ay ⟨_,rfl,.inl ⟨hW,hle,t.f,t.ws,K,Ao,co2,⟨lv,hlv,hft,?_⟩,by omega,by rw[hnt];exact hKB,by omega,rfl,rfl⟩⟩);rw[hnt,<- hls,<- hrm0,<- hte];exact hBl
end Go.Proofs.YtmcnpaelaieniaaGreatDoor
