/- The engine and the words that all chapters share: several texts in one. -/
import Derived.Test.YtpbmihpjgjbndaaGreatDoorQX31
/- What a network's text says: read by its words. -/
set_option linter.unusedVariables false
set_option linter.unusedSimpArgs false
namespace Go.Proofs.YtpbmihpjgjbndaaGreatDoor
open Lib
end Go.Proofs.YtpbmihpjgjbndaaGreatDoor
/- What a written network says. -/
set_option linter.unusedVariables false
set_option linter.unusedSimpArgs false
namespace Go.Proofs.YtpbmihpjgjbndaaGreatDoor
open Lib
theorem wD (f:List UInt8) (n:Int) (l:List Int):pd f (n::l)=pd (f++32::itoa n) l:=by
 rw[ie,ie];simp
theorem pZ:∀ (ls:List (List UInt8)),(∀ x∈ls,∀ b∈x,b≠10)→bg ((ls.map fun x=>x++[10]).flatten)=ls
 |[],_=>rfl
 |x::ls,h=>by
  rw[List.map_cons,List.flatten_cons,List.append_assoc]
  show bg (x++10::_)=_
  rw[uA (h x (by simp))]
  exact congrArg (x::·) (pZ ls fun y hy=>h y (by simp[hy]))
theorem si:∀ {l:List Int} {x:Int},(∀ y∈l,0≤y)→x∈l→x≤l.sum
 |[],_,_,h=>absurd h List.not_mem_nil
 |y::l,x,h,hx=>by
  have h1:=uP (l:=l) fun z hz=>h z (by simp[hz])
  have h2:=h y (by simp)
  rw[List.sum_cons]
  rcases List.mem_cons.1 hx with rfl|hx
  ·omega
  ·have:=si (fun z hz=>h z (by simp[hz])) hx
   omega
theorem yx {N:a8} (hR:N.Right) {a:dH} (ha:a∈N.arcs):a.cap≤4611686018427387903:=by
 have:=si (l:=N.arcs.map (·.cap)) (fun y hy=>by
  obtain⟨b,hb,rfl⟩:=List.mem_map.1 hy
  exact (hR.arc b hb).2.2) (List.mem_map.2 ⟨a,ha,rfl⟩)
 have:=hR.sum
 omega
end Go.Proofs.YtpbmihpjgjbndaaGreatDoor
