/- The engine and the words that all chapters share: several texts in one. -/
import Derived.Test.YtpbmihpjgjbndaaGreatDoorTurnN
import Derived.Test.YtpbmihpjgjbndaaGreatDoorQX29
import Derived.Test.YtpbmihpjgjbndaaGreatDoorQF
import Derived.Test.YtpbmihpjgjbndaaGreatDoorQX43
/- The least and the greatest cut of a flow that no track leads on, in plain terms. -/
set_option linter.unusedVariables false
set_option linter.unusedSimpArgs false
namespace Go.Proofs.YtpbmihpjgjbndaaGreatDoor
open Go.RowKit
def po (N:a8) (f:List Int) (s:List Int):Prop:=∀ r,r<2*N.arcs.length→1≤(aM (N.arcs.zip f)).getD r 0→(bP N r).1∈s→(bP N r).2∈s
open Classical in
noncomputable def jb (s:List Int) (ps:List (dK×Int)):List Int:=ps.map fun p=>(if p.1.fr∈s∧p.1.to∉s then p.1.cap-p.2 else 0)+(if p.1.fr∉s∧p.1.to∈s then p.2 else 0)
theorem jj (s:List Int):∀ ps:List (dK×Int),(jb s ps).sum=ec s (ps.map (·.1))-iT s ps
 |[]=>by simp[jb,ec,iT]
 |p::ps=>by
  have ih:=jj s ps
  unfold jb ec iT at*
  simp only[List.map_cons,List.sum_cons]
  by_cases h1:p.1.fr∈s<;>by_cases h2:p.1.to∈s<;>simp only[h1,h2,if_true,if_false,and_true,and_false,not_true,not_false_iff]<;>omega
theorem my:∀ (l:List Int),(∀ x∈l,0≤x)→(l.sum=0↔∀ x∈l,x=0)
 |[],_=>by simp
 |x::l,h=>by
  have ih:=my l fun y hy=>h y (by simp[hy])
  have h0:=h x (by simp)
  have h1:=eZ l fun y hy=>h y (by simp[hy])
  rw[List.sum_cons]
  constructor
  ·intro e y hy
   rcases List.mem_cons.1 hy with rfl|hy
   ·omega
   ·exact ih.1 (by omega) y hy
  ·intro e
   have e1:=e x (by simp)
   have e2:=ih.2 fun y hy=>e y (by simp[hy])
   omega
theorem pv {N:a8} {f s:List Int} (hf:Ranged N f):po N f s↔∀ x∈jb s (N.arcs.zip f),x=0:=by
 constructor
 ·intro h x hx
  obtain⟨p,hp,rfl⟩:=List.mem_map.1 hx
  obtain⟨i,hi,hip⟩:=List.mem_iff_getElem.1 hp
  have hz:(N.arcs.zip f)[i]?=some p:=by rw[List.getElem?_eq_getElem hi,hip]
  have ha:=(List.getElem?_zip_eq_some.1 hz).1
  have hil:=(List.getElem?_eq_some_iff.1 ha).1
  obtain⟨g1,g2⟩:=cT hz
  have hr:=hf.all p hp
  have e1:bP N (2*i)=(p.1.fr,p.1.to):=by
   unfold bP;rw[show 2*i/2=i by omega,ha];show cL p.1 (2*i)=_;unfold cL;rw[if_neg (by omega)]
  have e2:bP N (2*i+1)=(p.1.to,p.1.fr):=by
   unfold bP;rw[show (2*i+1)/2=i by omega,ha];show cL p.1 (2*i+1)=_;unfold cL;rw[if_pos (by omega)]
  have k1:=h (2*i) (by omega)
  have k2:=h (2*i+1) (by omega)
  rw[e1,List.getD_eq_getElem?_getD,g1,Option.getD_some] at k1
  rw[e2,List.getD_eq_getElem?_getD,g2,Option.getD_some] at k2
  simp only at k1 k2
  have z1:(if p.1.fr∈s∧p.1.to∉s then p.1.cap-p.2 else 0)=0:=by
   split
   ·rename_i hc
    have:¬ 1≤p.1.cap-p.2:=fun h1=>hc.2 (k1 h1 hc.1)
    omega
   ·rfl
  have z2:(if p.1.fr∉s∧p.1.to∈s then p.2 else 0)=0:=by
   split
   ·rename_i hc
    have:¬ 1≤p.2:=fun h1=>hc.1 (k2 h1 hc.2)
    omega
   ·rfl
  rw[z1,z2];rfl
 ·intro h r hr h1 hin
  obtain⟨a,ha⟩:∃ a,N.arcs[r/2]?=some a:=⟨N.arcs[r/2]'(by omega),List.getElem?_eq_getElem (by omega)⟩
  have hx:f[r/2]?=some (f.getD (r/2) 0):=by rw[List.getD_eq_getElem?_getD,List.getElem?_eq_getElem (by have:=hf.len;omega)];rfl
  have hz:=eo ha hx
  have hzm:=List.mem_of_getElem? hz
  obtain⟨g1,g2⟩:=cT hz
  have hrg:=hf.all _ hzm
  have hs:=h _ (List.mem_map.2 ⟨_,hzm,rfl⟩)
  have he:bP N r=cL a r:=by unfold bP;rw[ha]
  rw[he] at hin ⊢
  simp only at g1 g2 hrg hs
  refine Classical.byContradiction fun hno=>?_
  by_cases hm:r%2=1
  ·have e:cL a r=(a.to,a.fr):=by unfold cL;rw[if_pos hm]
   rw[e] at hin hno
   simp only at hin hno
   rw[if_neg (fun hc=>hno hc.1),if_pos ⟨hno,hin⟩] at hs
   rw[show 2*(r/2)+1=r by omega] at g2
   rw[List.getD_eq_getElem?_getD,g2,Option.getD_some] at h1
   omega
  ·have e:cL a r=(a.fr,a.to):=by unfold cL;rw[if_neg hm]
   rw[e] at hin hno
   simp only at hin hno
   rw[if_pos ⟨hin,hno⟩,if_neg (fun hc=>hc.1 hin)] at hs
   rw[show 2*(r/2)=r by omega] at g1
   rw[List.getD_eq_getElem?_getD,g1,Option.getD_some] at h1
   omega
theorem se {N:a8} (hR:N.Right) {f:List Int} (hf:aH N f) {s:List Int} (hs:eq N s):ec s N.arcs=cY (N.arcs.zip f) N.snk↔po N f s:=by
 rw[pv hf.toRanged,← my,jj,lj hR hf hs,show (N.arcs.zip f).map (·.1)=N.arcs from List.map_fst_zip (by have:=hf.len;omega)]
 ·omega
 ·intro x hx
  obtain⟨p,hp,rfl⟩:=List.mem_map.1 hx
  have hr:=hf.all p hp
  split<;>split<;>omega
theorem jJ (l:List Bool) (is:Bool):∀ k,(bR l is k).Pairwise (·<·)
 |0=>by simp[bR]
 |k+1=>by
  rw[lL]
  split
  ·refine qx (jJ l is k) fun x hx=>?_
   obtain⟨v,h1,_,_,rfl⟩:=mr.1 hx
   omega
  ·rw[List.append_nil];exact jJ l is k
section
variable {N:a8} {f:List Int} {n:Nat} {l:List Bool}
theorem ic (hn:N.nodes=n) (hlr:∀ v:Nat,l[v]?=some true↔v≤n∧nv N (aM (N.arcs.zip f)) 1 v) {x:Int}:x∈bR l true (n+1)↔1≤x∧x≤N.nodes∧nv N (aM (N.arcs.zip f)) 1 x:=by
 rw[mr]
 constructor
 ·rintro⟨v,h1,h2,h3,rfl⟩;exact⟨by omega,by omega,((hlr v).1 h3).2⟩
 ·rintro⟨h1,h2,h3⟩
  have e:((x.toNat:Nat):Int)=x:=by omega
  exact⟨x.toNat,by omega,by omega,(hlr _).2 ⟨by omega,by rw[e];exact h3⟩,e.symm⟩
theorem uf (hR:N.Right) (hf:aH N f) (hn:N.nodes=n) (hno:¬ nv N (aM (N.arcs.zip f)) 1 N.snk) (hlr:∀ v:Nat,l[v]?=some true↔v≤n∧nv N (aM (N.arcs.zip f)) 1 v):eq N (bR l true (n+1))∧po N f (bR l true (n+1)):=by
 have hsr:=hR.src
 refine⟨⟨jJ _ _ _,fun x hx=>?_,(ic hn hlr).2 ⟨hsr.1,hsr.2,.src⟩,fun h=>hno ((ic hn hlr).1 h).2.2⟩,fun r hr h1 hin=>?_⟩
 ·have:=(ic hn hlr).1 hx;exact⟨this.1,this.2.1⟩
 ·have h2:=(ic hn hlr).1 hin
  have h3:=ff hR hr
  exact (ic hn hlr).2 ⟨h3.2.1,h3.2.2,.step _ r h2.2.2 (by rw[cv,List.length_zip,hf.len,Nat.min_self];exact hr) rfl h1⟩
end
theorem wa {N:a8} (hR:N.Right) {f s:List Int} (hf:aH N f) (hs:eq N s):cY (N.arcs.zip f) N.snk≤ec s N.arcs:=by
 have h1:=jj s (N.arcs.zip f)
 rw[← lj hR hf hs,show (N.arcs.zip f).map (·.1)=N.arcs from List.map_fst_zip (by have:=hf.len;omega)] at h1
 have h2:=eZ (jb s (N.arcs.zip f)) fun x hx=>by
  obtain⟨p,hp,rfl⟩:=List.mem_map.1 hx
  have hr:=hf.all p hp
  split<;>split<;>omega
 omega
theorem a8.Right.fits' {N:a8} (h:N.Right):N.Fits:=by
 have h1:=h.nodes
 have h2:=h.src
 have h3:=h.snk
 have h4:=h.len
 refine⟨by unfold bN;omega,by unfold bN;omega,by unfold bN;omega,by omega,fun a ha=>?_⟩
 have:=h.arc a ha
 have:=h.cap ha
 unfold bN
 omega
end Go.Proofs.YtpbmihpjgjbndaaGreatDoor
/- Graphs of two sides, and their networks. -/
set_option linter.unusedVariables false
set_option linter.unusedSimpArgs false
namespace Go.Proofs.YtpbmihpjgjbndaaGreatDoor
open Go.RowKit
structure zN where
 l:Int
 r:Int
structure Gr where
 left:Int
 right:Int
 edges:List zN
end Go.Proofs.YtpbmihpjgjbndaaGreatDoor
