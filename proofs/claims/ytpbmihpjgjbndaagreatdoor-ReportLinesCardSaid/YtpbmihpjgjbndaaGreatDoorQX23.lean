/- The engine and the words that all chapters share: several texts in one. -/
import Derived.Test.YtpbmihpjgjbndaaGreatDoorQX33
import Derived.Test.YtpbmihpjgjbndaaGreatDoorQX29
/- The engine by trees, in plain terms: it leads the walks that the plain search finds. -/
set_option linter.unusedVariables false
set_option linter.unusedSimpArgs false
namespace Go.Proofs.YtpbmihpjgjbndaaGreatDoor
open Go.RowKit
section
variable {N:a8} {L:Nat→List Nat} {lv:Nat→Int} {least:Int} {tr:List Int}
def xu (L:Nat→List Nat) (N:a8) (least:Int) (tr:List Int) (V:List Nat):Prop:=∀ r∈V,r∈L (cU N r)∧least≤tr.getD r 0
theorem PI.free {pos W:List Nat} (h:PI N L least tr pos W):xu L N least tr W:=fun r hr=>⟨h.mem r hr,by obtain⟨_,_,_,h⟩:=h.head r hr;exact h⟩
theorem PI.stuck (hR:N.Right) (hG:dN N L lv) {pos W:List Nat} (h:PI N L least tr pos W):∀ {V:List Nat} {u z:Nat},Tr N u V z→xu L N least tr V→ke L pos u→u≠N.snk.toNat→z≠N.snk.toNat
 |[],u,z,hT,_,_,hu=>by rw[← (show u=z from hT)];exact hu
 |r::V,u,z,⟨h1,h2⟩,hF,hd,hu=>by
  obtain⟨hr,hl⟩:=hF r (by simp)
  obtain⟨j,hj,hjr⟩:=List.mem_iff_getElem.1 hr
  have hlt:=(hG.ok _ _ hr).1
  have hf:=i7 hR hlt
  have hlen:cU N r<pos.length:=by rw[h.pl];omega
  obtain⟨p,hp⟩:∃ p,pos[cU N r]?=some p:=⟨pos[cU N r],List.getElem?_eq_getElem hlen⟩
  have h3:=hd p (by rw[← h1];exact hp)
  rw[h1] at hj
  rcases h.pass _ p hp j r (by omega) (by rw[List.getElem?_eq_getElem (by rw[h1];exact hj),hjr]) with k|k
  ·omega
  ·exact PI.stuck hR hG h h2 (fun s hs=>hF s (by simp[hs])) k.2 k.1
def vL (L:Nat→List Nat) (N:a8) (pos V:List Nat):Prop:=∀ r∈V,∃ p,pos[cU N r]?=some p∧(L (cU N r))[p]?=some r
theorem PI.heads {pos W:List Nat} (h:PI N L least tr pos W):vL L N pos W:=fun r hr=>by obtain⟨p,h1,h2,_⟩:=h.head r hr;exact⟨p,h1,h2⟩
theorem ql (hR:N.Right) (hG:dN N L lv) {pos pos' W W':List Nat} (h:PI N L least tr pos W) (h':PI N L least tr pos' W'):∀ {V V':List Nat} {u:Nat},Tr N u V N.snk.toNat→Tr N u V' N.snk.toNat→xu L N least tr V→xu L N least tr V'→vL L N pos V→vL L N pos' V'→V=V'
 |[],V',u,hT,hT',_,hF',_,_=>by
  have h1:=(km hG hT' fun r hr=>(hF' r hr).1).1
  rw[← (show u=N.snk.toNat from hT)] at h1
  exact (List.length_eq_zero_iff.1 (by omega)).symm
 |r::V,[],u,hT,hT',hF,_,_,_=>by
  have h1:=(km hG hT fun r hr=>(hF r hr).1).1
  rw[← (show u=N.snk.toNat from hT')] at h1
  simp only[List.length_cons] at h1
  omega
 |r::V,r'::V',u,⟨h1,h2⟩,⟨k1,k2⟩,hF,hF',hH,hH'=>by
  obtain⟨q,a1,a2⟩:=hH r (by simp)
  obtain⟨q',b1,b2⟩:=hH' r' (by simp)
  obtain⟨_,c1⟩:=hF r (by simp)
  obtain⟨_,c2⟩:=hF' r' (by simp)
  rw[h1] at a1 a2
  rw[k1] at b1 b2
  rcases Nat.lt_trichotomy q q' with hlt|heq|hgt
  ·rcases h'.pass u q' b1 q r hlt a2 with k|k
   ·omega
   ·exact absurd rfl (h'.stuck hR hG h2 (fun s hs=>hF s (by simp[hs])) k.2 k.1)
  ·subst heq
   rw[a2] at b2
   simp only[Option.some.injEq] at b2
   subst b2
   rw[ql hR hG h h' h2 k2 (fun s hs=>hF s (by simp[hs])) (fun s hs=>hF' s (by simp[hs])) (fun s hs=>hH s (by simp[hs])) (fun s hs=>hH' s (by simp[hs]))]
  ·rcases h.pass u q a1 q' r' hgt b2 with k|k
   ·omega
   ·exact absurd rfl (h.stuck hR hG k2 (fun s hs=>hF' s (by simp[hs])) k.2 k.1)
theorem PI.one (hR:N.Right) (hG:dN N L lv) {pos pos' W W':List Nat} (h:PI N L least tr pos W) (h':PI N L least tr pos' W') (he:cq N W=N.snk.toNat) (he':cq N W'=N.snk.toNat):W=W':=by
 have h1:=h.on
 have h2:=h'.on
 rw[he] at h1
 rw[he'] at h2
 exact ql hR hG h h' h1 h2 h.free h'.free h.heads h'.heads
theorem qm (hR:N.Right) (hG:dN N L lv):∀ (k:Nat) {pos W:List Nat},PI N L least tr pos W→(N.nodes.toNat+2)*bT L N.nodes.toNat pos+(N.nodes.toNat+1-W.length)≤k→∃ b pos' W',Nx N L least tr pos W b pos' W':=by
 intro k
 have hnn:=hR.nodes
 have hsr:=hR.src
 have hsk:=hR.snk
 have hdf:=hR.diff
 have hend:∀ {pos W:List Nat},PI N L least tr pos W→cq N W≤N.nodes.toNat∧W.length≤N.nodes.toNat:=by
  intro pos W h
  have h1:=(km hG h.on h.mem).1
  have h2:=hG.hi (cq N W)
  have h3:=hG.hi N.src.toNat
  refine⟨?_,by omega⟩
  rcases List.eq_nil_or_concat W with rfl|⟨W0,r,rfl⟩
  ·show N.src.toNat≤_;omega
  ·rw[List.concat_eq_append,kp]
   have:=(fu hR ((hG.ok _ _ (h.mem r (by simp))).1)).2.2
   omega
 induction k with
 |zero=>
  intro pos W h hk
  have:=hend h
  omega
 |succ k ih=>
  intro pos W h hk
  have hb:=hend h
  by_cases hs:cq N W=N.snk.toNat
  ·exact⟨_,_,_,.hit hs⟩
  ·have hlen:cq N W<pos.length:=by rw[h.pl];omega
   obtain⟨p,hp⟩:∃ p,pos[cq N W]?=some p:=⟨pos[cq N W],List.getElem?_eq_getElem hlen⟩
   by_cases hlt:p<(L (cq N W)).length
   ·obtain⟨r,hr⟩:∃ r,(L (cq N W))[p]?=some r:=⟨(L (cq N W))[p],List.getElem?_eq_getElem hlt⟩
    by_cases hl:least≤tr.getD r 0
    ·have hg:=h.go hG hp hr hl
     have hb2:=hend hg
     rw[List.length_append,List.length_singleton] at hb2
     obtain⟨b,pos',W',hN⟩:=ih hg (by rw[List.length_append,List.length_singleton];omega)
     exact⟨b,pos',W',.go hs hp hr hl hN⟩
    ·have hg:=h.skip hG hp hr (by omega)
     have hrem:=eY (L:=L) hp hb.1 hlt
     have:(N.nodes.toNat+2)*bT L N.nodes.toNat pos=(N.nodes.toNat+2)*bT L N.nodes.toNat (pos.set (cq N W) (p+1))+(N.nodes.toNat+2):=by rw[← hrem,Nat.mul_add,Nat.mul_one]
     obtain⟨b,pos',W',hN⟩:=ih hg (by omega)
     exact⟨b,pos',W',.skip hs hp hr (by omega) hN⟩
   ·rcases List.eq_nil_or_concat W with rfl|⟨W0,r,rfl⟩
    ·exact⟨_,_,_,.stop hs hp (Nat.le_of_not_lt hlt)⟩
    ·rw[List.concat_eq_append] at*
     obtain⟨q,hq,hqr,_⟩:=h.back_at
     have hg:=h.back hG hs hp (by omega) hq
     have hb0:=hend h.drop
     have hrem:=eY (L:=L) hq hb0.1 (List.getElem?_eq_some_iff.1 hqr).1
     have:(N.nodes.toNat+2)*bT L N.nodes.toNat pos=(N.nodes.toNat+2)*bT L N.nodes.toNat (pos.set (cq N W0) (q+1))+(N.nodes.toNat+2):=by rw[← hrem,Nat.mul_add,Nat.mul_one]
     rw[List.length_append,List.length_singleton] at hk hb
     obtain⟨b,pos',W',hN⟩:=ih hg (by omega)
     exact⟨b,pos',W',.back hs hp (by omega) hq hN⟩
theorem TR.bl (hR:N.Right) (hG:dN N L lv) (hle:1≤least) {ws:List (List Nat×Int)} {tr':List Int} (h:TR N L least tr ws tr'):∀ {f:List Int} {pos W:List Nat},aH N f→tr=aM (N.arcs.zip f)→PI N L least tr pos W→Bl N L least tr pos W ws tr':=by
 have hsr:=hR.src
 have hsk:=hR.snk
 have hdf:=hR.diff
 induction h with
 |@stop tr pos0 hP hd=>
  intro f pos W hf he hI
  obtain⟨b,pos',W',hN⟩:=qm hR hG _ hI (Nat.le_refl _)
  obtain⟨k1,k2,k3⟩:=hN.keeps hG hI
  cases b with
  |false=>exact .stop hN
  |true=>
   have h1:=k1.on
   rw[k2 rfl] at h1
   exact absurd rfl (hP.stuck hR hG h1 k1.free hd (by omega))
 |@walk tr tr' pos0 W0 ws hP hend _ ih=>
  intro f pos W hf he hI
  obtain⟨b,pos',W',hN⟩:=qm hR hG _ hI (Nat.le_refl _)
  obtain⟨k1,k2,k3⟩:=hN.keeps hG hI
  cases b with
  |false=>
   obtain⟨rfl,hd⟩:=k3 rfl
   have h1:=hP.on
   rw[hend] at h1
   exact absurd rfl (k1.stuck hR hG h1 hP.free hd (by omega))
  |true=>
   obtain rfl:W0=W':=hP.one hR hG k1 hend (k2 rfl)
   obtain⟨_,_,_,_,_,_,⟨f',hf',hf'e⟩,hPI',_⟩:=fW hR hG hle hf he k1 hend
   exact .walk hN (ih hf' hf'e hPI')
end
end Go.Proofs.YtpbmihpjgjbndaaGreatDoor
/- The engine by trees, in plain terms: how much there is to do, and what is told. -/
set_option linter.unusedVariables false
set_option linter.unusedSimpArgs false
namespace Go.Proofs.YtpbmihpjgjbndaaGreatDoor
open Go.RowKit
theorem rM (N:a8) (rm:List Int) (least:Int) (lv:List Int) (m:Nat):(bJ N rm least lv (2*m)).length≤m:=by
 have h1:((bJ N rm least lv (2*m)).map (·/2)).Nodup:=by
  have hnd:(bJ N rm least lv (2*m)).Nodup:=List.Pairwise.filter _ List.nodup_range
  have hinj:∀ a∈bJ N rm least lv (2*m),∀ b∈bJ N rm least lv (2*m),a/2=b/2→a=b:=by
   intro a ha b hb hab
   by_cases e:a=b
   ·exact e
   ·have h3:=(dw.1 ha).2.2.2
    have h4:=(dw.1 hb).2.2.2
    have:b=bi a:=by unfold bi;split<;>omega
    rw[this,f0,eJ] at h4
    omega
  revert hnd hinj
  generalize bJ N rm least lv (2*m)=l
  intro hnd hinj
  induction l with
  |nil=>exact List.nodup_nil
  |cons x l ih=>
   obtain⟨h3,h4⟩:=List.nodup_cons.1 hnd
   rw[List.map_cons,List.nodup_cons]
   refine⟨fun hin=>?_,ih h4 fun a ha b hb=>hinj a (by simp[ha]) b (by simp[hb])⟩
   obtain⟨y,hy,he⟩:=List.mem_map.1 hin
   exact h3 (hinj x (by simp) y (by simp[hy]) he.symm▸hy)
 have h2:=j6 _ (List.range m) h1 fun x hx=>by
  obtain⟨y,hy,rfl⟩:=List.mem_map.1 hx
  have:=(dw.1 hy).1
  rw[List.mem_range];omega
 rwa [List.length_map,List.length_range] at h2
theorem tG (N:a8) (ls:List Nat) (n:Nat):bT (dz N ls) n (List.replicate (n+1) 0)≤ls.length:=by
 unfold bT
 have h0:∀ v∈List.range (n+1),(dz N ls v).length-(List.replicate (n+1) 0).getD v 0=(dz N ls v).length:=by
  intro v hv
  rw[List.getD_eq_getElem?_getD,List.getElem?_replicate,if_pos (List.mem_range.1 hv)];rfl
 rw[List.map_congr_left h0]
 have:∀ (vs:List Nat) (ls:List Nat),vs.Nodup→(vs.map fun v=>(dz N ls v).length).sum≤ls.length:=by
  intro vs ls hvs
  induction ls with
  |nil=>
   have:(vs.map fun v=>(dz N [] v).length)=vs.map fun _=>0:=List.map_congr_left fun v _=>rfl
   rw[this]
   clear this hvs
   induction vs with
   |nil=>exact Nat.le_refl _
   |cons v vs ih=>simpa using ih
  |cons r ls ih=>
   have h1:∀ v,(dz N (r::ls) v).length=(dz N ls v).length+if cU N r=v then 1 else 0:=by
    intro v
    unfold dz
    rw[List.filter_cons]
    by_cases e:cU N r=v<;>simp[e]
   have h2:∀ vs:List Nat,vs.Nodup→(vs.map fun v=>(dz N (r::ls) v).length).sum≤(vs.map fun v=>(dz N ls v).length).sum+1∧(cU N r∉vs→(vs.map fun v=>(dz N (r::ls) v).length).sum=(vs.map fun v=>(dz N ls v).length).sum):=by
    intro vs hn
    induction vs with
    |nil=>exact⟨by simp,fun _=>rfl⟩
    |cons v vs ih2=>
     obtain⟨a1,a2⟩:=List.nodup_cons.1 hn
     obtain⟨b1,b2⟩:=ih2 a2
     simp only[List.map_cons,List.sum_cons,h1 v]
     by_cases e:cU N r=v
     ·have:=b2 (e▸a1)
      rw[if_pos e]
      exact⟨by omega,fun h=>absurd (by rw[e];simp) h⟩
     ·rw[if_neg e]
      exact⟨by omega,fun h=>by have:=b2 (fun h'=>h (by simp[h']));omega⟩
   have:=(h2 vs hvs).1
   rw[List.length_cons]
   omega
 exact this _ _ List.nodup_range
section
variable {N:a8} {L:Nat→List Nat} {lv:Nat→Int} {least:Int} {tr:List Int}
theorem TR.count (hR:N.Right) (hG:dN N L lv) (hle:1≤least) {ls:List Nat} (hL:∀ v r,r∈L v↔r∈ls∧cU N r=v) {ws:List (List Nat×Int)} {tr':List Int} (h:TR N L least tr ws tr'):∀ {f:List Int},aH N f→tr=aM (N.arcs.zip f)→ws.length≤kD ls least tr∧(∀ r,r∉ls→bi r∉ls→tr'.getD r 0=tr.getD r 0)∧∃ f',aH N f'∧tr'=aM (N.arcs.zip f'):=by
 induction h with
 |stop hP hd=>exact fun hf he=>⟨Nat.zero_le _,fun _ _ _=>rfl,_,hf,he⟩
 |@walk tr tr' pos0 W0 ws hP hend _ ih=>
  intro f hf he
  obtain⟨_,hlt,hnd,_,_,_,⟨f',hf',hf'e⟩,_,hmono,r,v,k1,k2,k3⟩:=fW hR hG hle hf he hP hend
  obtain⟨i1,i2,i3⟩:=ih hf' hf'e
  refine⟨?_,fun q hq hfq=>?_,i3⟩
  ·have:=oW (ls:=ls) (least:=least) (rm:=tr) (rm':=bC (bS tr W0) W0 tr) (fun q hq=>hmono _ q ((hL _ q).2 ⟨hq,rfl⟩)) r ((hL v r).1 k1).1 k2 k3
   rw[List.length_cons];omega
  ·rw[i2 q hq hfq,eU (a:=bS tr W0) (by rw[he];exact fM hf.len) hlt hnd q,if_neg (fun h=>hfq ((hL _ _).1 (hP.mem _ h)).1),if_neg (fun h=>hq ((hL _ _).1 (hP.mem _ h)).1)]
   omega
end
noncomputable def ga (f f':List Int) (ls:List Nat) (k i:Nat):Int:=if 2*i+2≤k then f'.getD i 0 else if 2*i+1≤k∧2*i∈ls then f'.getD i 0 else f.getD i 0
noncomputable def iH (f f':List Int) (ls:List Nat) (m k:Nat):List Int:=(List.range m).map (ga f f' ls k)
theorem i5 {f f':List Int} {ls:List Nat} {m k i:Nat} (h:i<m):(iH f f' ls m k)[i]?=some (ga f f' ls k i):=by simp[iH,h]
theorem dj (f f':List Int) (ls:List Nat) (m k:Nat):(iH f f' ls m k).length=m:=by simp[iH]
theorem pN {f f':List Int} {ls:List Nat} {m k:Nat} (hk:k<2*m) {x:Int} (hx:x=ga f f' ls (k+1) (k/2)):(iH f f' ls m k).set (k/2) x=iH f f' ls m (k+1):=by
 apply List.ext_getElem?
 intro j
 by_cases hj:j<m
 ·rw[i5 hj]
  by_cases e:k/2=j
  ·subst e
   rw[List.getElem?_set_self (by rw[dj];exact hj),hx]
  ·rw[List.getElem?_set_ne e,i5 hj]
   congr 1
   unfold ga
   have h1:(2*j+2≤k)↔(2*j+2≤k+1):=by omega
   by_cases e2:2*j+2≤k
   ·rw[if_pos e2,if_pos (h1.1 e2)]
   ·rw[if_neg e2,if_neg (fun h=>e2 (h1.2 h))]
    have h3:(2*j+1≤k)↔(2*j+1≤k+1):=by omega
    by_cases h4:2*j+1≤k∧2*j∈ls
    ·rw[if_pos h4,if_pos ⟨h3.1 h4.1,h4.2⟩]
    ·rw[if_neg h4,if_neg (fun h=>h4 ⟨h3.2 h.1,h.2⟩)]
 ·rw[List.getElem?_eq_none (by rw[List.length_set,dj];omega),List.getElem?_eq_none (by rw[dj];omega)]
theorem qN {l l':List Int} (hl:l.length=l'.length) (h:∀ i,i<l.length→l.getD i 0=l'.getD i 0):l=l':=by
 apply List.ext_getElem?
 intro i
 by_cases hi:i<l.length
 ·have:=h i hi
  rw[List.getD_eq_getElem?_getD,List.getD_eq_getElem?_getD,List.getElem?_eq_getElem hi,List.getElem?_eq_getElem (by omega)] at this
  rw[List.getElem?_eq_getElem hi,List.getElem?_eq_getElem (by omega)]
  simpa using this
 ·rw[List.getElem?_eq_none (by omega),List.getElem?_eq_none (by omega)]
theorem rz {f f':List Int} {ls:List Nat}:iH f f' ls f.length 0=f:=by
 refine qN (dj _ _ _ _ _) fun i hi=>?_
 rw[dj] at hi
 rw[List.getD_eq_getElem?_getD,i5 hi,Option.getD_some]
 unfold ga
 rw[if_neg (by omega),if_neg (by omega)]
theorem wd {f f':List Int} {ls:List Nat} (h:f'.length=f.length):iH f f' ls f.length (2*f.length)=f':=by
 refine qN (by rw[dj];exact h.symm) fun i hi=>?_
 rw[dj] at hi
 rw[List.getD_eq_getElem?_getD,i5 hi,Option.getD_some]
 unfold ga
 rw[if_pos (by omega)]
theorem lX {N:a8} {f:List Int} (hl:f.length=N.arcs.length) {i:Nat} (hi:i<N.arcs.length):∃ a,N.arcs[i]?=some a∧(aM (N.arcs.zip f)).getD (2*i) 0=a.cap-f.getD i 0∧(aM (N.arcs.zip f)).getD (2*i+1) 0=f.getD i 0:=by
 obtain⟨a,ha⟩:∃ x,N.arcs[i]?=some x:=⟨N.arcs[i],List.getElem?_eq_getElem hi⟩
 have hx:f[i]?=some (f.getD i 0):=by rw[List.getD_eq_getElem?_getD,List.getElem?_eq_getElem (by omega)];rfl
 obtain⟨g1,g2⟩:=cT (eo ha hx)
 exact⟨a,ha,by rw[List.getD_eq_getElem?_getD,g1];rfl,by rw[List.getD_eq_getElem?_getD,g2];rfl⟩
theorem ui {N:a8} {f f':List Int} {ls:List Nat} {rmF:List Int} (hl:f.length=N.arcs.length) (hl':f'.length=N.arcs.length) (hin:∀ r∈ls,rmF.getD r 0=(aM (N.arcs.zip f')).getD r 0) (hout:∀ r,r∉ls→rmF.getD r 0=(aM (N.arcs.zip f)).getD r 0)
 (hsame:∀ r,r∉ls→bi r∉ls→(aM (N.arcs.zip f')).getD r 0=(aM (N.arcs.zip f)).getD r 0) (hflip:∀ r∈ls,bi r∉ls) {k:Nat} (hk:k<2*N.arcs.length):
 (k%2=0→ga f f' ls k (k/2)+((aM (N.arcs.zip f)).getD k 0-rmF.getD k 0)=ga f f' ls (k+1) (k/2))∧(k%2=1→ga f f' ls k (k/2)-((aM (N.arcs.zip f)).getD k 0-rmF.getD k 0)=ga f f' ls (k+1) (k/2)):=by
 obtain⟨i,hi⟩:∃ i,k/2=i:=⟨_,rfl⟩
 have him:i<N.arcs.length:=by omega
 obtain⟨a,ha,g1,g2⟩:=lX hl him
 obtain⟨a',ha',g3,g4⟩:=lX hl' him
 rw[ha] at ha'
 simp only[Option.some.injEq] at ha'
 subst ha'
 rw[hi]
 refine⟨fun h0=>?_,fun h1=>?_⟩
 ·obtain rfl:k=2*i:=by omega
  unfold ga
  rw[if_neg (by omega),if_neg (by omega),if_neg (by omega)]
  by_cases e:2*i∈ls
  ·rw[if_pos ⟨by omega,e⟩,hin _ e,g1,g3];omega
  ·rw[if_neg (fun h=>e h.2),hout _ e];omega
 ·obtain rfl:k=2*i+1:=by omega
  unfold ga
  rw[if_neg (by omega),if_pos (show 2*i+2≤2*i+1+1 by omega)]
  have hfl:bi (2*i+1)=2*i:=by unfold bi;rw[if_pos (by omega)];omega
  have hfl2:bi (2*i)=2*i+1:=by unfold bi;rw[if_neg (by omega)]
  by_cases e:2*i∈ls
  ·rw[if_pos ⟨by omega,e⟩,hout _ (by rw[← hfl2];exact hflip _ e)];omega
  ·rw[if_neg (fun h=>e h.2)]
   by_cases e2:2*i+1∈ls
   ·rw[hin _ e2,g2,g4];omega
   ·have:=hsame _ e2 (by rw[hfl];exact e)
    rw[hout _ e2]
    rw[g2,g4] at this
    omega
theorem sW {N:a8} (hR:N.Right) {f f':List Int} (hf:Ranged N f) (hf':Ranged N f') {ls:List Nat} {k i:Nat} (hi:i<N.arcs.length):0≤ga f f' ls k i∧ga f f' ls k i≤4611686018427387903:=by
 obtain⟨_,_,_,g2⟩:=lX hf.len hi
 obtain⟨_,_,_,g4⟩:=lX hf'.len hi
 have h1:=dX hR hf (2*i+1)
 have h2:=dX hR hf' (2*i+1)
 rw[g2] at h1
 rw[g4] at h2
 unfold ga
 split
 ·exact h2
 ·split
  ·exact h2
  ·exact h1
def fw (n m:Nat):Nat:=(cS n+3)*m+cX n*(n+1)+(cG (n+1)+5*(n+1)+1)+(2*cG (n+1)+11*(n+1)+1)*(n+1)+(n+1)
end Go.Proofs.YtpbmihpjgjbndaaGreatDoor
