/- The engine and the words that all chapters share: several texts in one. -/
import Derived.Test.YtpbmihpjgjbndaaGreatDoorQF
/- Chapter 14's flows of raw numbers. -/
set_option linter.unusedVariables false
set_option linter.unusedSimpArgs false
namespace Go.Proofs.YtpbmihpjgjbndaaGreatDoor
open Go.RowKit
def eX (N:a8) (f:List Int) (met:List Bool) (at_:Int) (k:Nat):List Int:=((List.range k).filter fun (i:Nat)=>match N.arcs[i]? with
 |some a=>decide (a.fr=at_∧met[a.to.toNat]?=some false∧f.getD i 0<a.cap)
 |none=>false).map fun (i:Nat)=>(i:Int)
theorem tv {N:a8} {f:List Int} {met:List Bool} {at_:Int} {k:Nat} {a:dK} (h:N.arcs[k]?=some a):eX N f met at_ (k+1)=eX N f met at_ k++(if a.fr=at_∧met[a.to.toNat]?=some false∧f.getD k 0<a.cap then [(k:Int)] else []):=by
 unfold eX
 rw[List.range_succ,List.filter_append,List.map_append]
 congr 1
 simp only[List.filter_cons,List.filter_nil,h,decide_eq_true_eq]
 split<;>rfl
theorem qr (N:a8) (f:List Int) (met:List Bool) (at_:Int) (k:Nat):(eX N f met at_ k).length≤k:=by
 unfold eX
 rw[List.length_map]
 exact Nat.le_trans (List.length_filter_le _ _) (by simp)
theorem w5 {N:a8} {f:List Int} {met:List Bool} {at_:Int} {k:Nat} {x:Int} (h:x∈eX N f met at_ k):∃ (i:Nat) (a:dK),x=i∧N.arcs[i]?=some a∧a.fr=at_∧met[a.to.toNat]?=some false∧f.getD i 0<a.cap:=by
 unfold eX at h
 obtain⟨i,hi,rfl⟩:=List.mem_map.1 h
 have hi2:=(List.mem_filter.1 hi).2
 cases ha:N.arcs[i]? with
 |none=>rw[ha] at hi2;simp at hi2
 |some a=>
  rw[ha] at hi2
  simp only[decide_eq_true_eq] at hi2
  exact⟨i,a,rfl,ha,hi2⟩
structure lg (N:a8) (f:List Int) (met:List Bool) (W:List Nat) (at_:Int):Prop where
 walk:lh N N.src W at_
 nodup:W.Nodup
 room:∀ i∈W,∃ r:dK,N.arcs[i]?=some r∧f.getD i 0<r.cap∧met[r.to.toNat]?=some true
theorem lg.step {N:a8} {f:List Int} {met:List Bool} {W:List Nat} {i:Nat} {a:dK} (h:lg N f met W a.fr) (ha:N.arcs[i]?=some a) (hm:met[a.to.toNat]?=some false) (hc:f.getD i 0<a.cap):lg N f (met.set a.to.toNat true) (W++[i]) a.to:=by
 have hlt:a.to.toNat<met.length:=(List.getElem?_eq_some_iff.1 hm).1
 refine⟨mq ha h.walk,?_,fun j hj=>?_⟩
 ·rw[List.nodup_append]
  refine⟨h.nodup,by simp,fun x hx y hy=>?_⟩
  rw[List.mem_singleton.1 hy]
  rintro rfl
  obtain⟨r,h1,_,h3⟩:=h.room x hx
  rw[ha] at h1
  simp only[Option.some.injEq] at h1
  rw[← h1,hm] at h3
  simp at h3
 ·rcases List.mem_append.1 hj with hj|hj
  ·obtain⟨r,h1,h2,h3⟩:=h.room j hj
   exact⟨r,h1,h2,fB h3⟩
  ·rw[List.mem_singleton.1 hj]
   exact⟨a,ha,hc,by rw[List.getElem?_set_self hlt]⟩
theorem wy {a b:Int} (ha:bN a) (hb:0<b):bN (a.tdiv b):=by
 have key:∀ M:Int,0≤M→0≤M.tdiv b∧M.tdiv b≤M:=fun M hM=>by
  rw[Int.tdiv_eq_ediv_of_nonneg hM]
  exact⟨Int.ediv_nonneg hM (by omega),Int.ediv_le_self _ hM⟩
 unfold bN at ha ⊢
 by_cases h:0≤a
 ·have:=key a h
  omega
 ·have:=key (-a) (by omega)
  rw[Int.neg_tdiv] at this
  omega
end Go.Proofs.YtpbmihpjgjbndaaGreatDoor
/- Chapter 14's flows of raw numbers: the whole. -/
set_option linter.unusedVariables false
set_option linter.unusedSimpArgs false
namespace Go.Proofs.YtpbmihpjgjbndaaGreatDoor
open Go.RowKit
theorem pR (m:Int) (i:Nat):∀ (W:List Nat) (f:List Int),ge m (W++[i]) f=(ge m W f).set i ((ge m W f).getD i 0+m)
 |[],_=>rfl
 |j::W,f=>by simp only[List.cons_append,ge];exact pR m i W _
end Go.Proofs.YtpbmihpjgjbndaaGreatDoor
/- Whether a flow and a cut prove one another: of a right network, a flow and a cut. -/
set_option linter.unusedVariables false
set_option linter.unusedSimpArgs false
namespace Go.Proofs.YtpbmihpjgjbndaaGreatDoor
open Go.RowKit
end Go.Proofs.YtpbmihpjgjbndaaGreatDoor
