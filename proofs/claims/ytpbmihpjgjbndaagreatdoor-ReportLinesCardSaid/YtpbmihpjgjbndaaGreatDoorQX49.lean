/- The engine and the words that all chapters share: several texts in one. -/
import Derived.Test.YtpbmihpjgjbndaaGreatDoorQX20
import Derived.Test.YtpbmihpjgjbndaaGreatDoorQX36
import Derived.Test.YtpbmihpjgjbndaaGreatDoorQC
/- A text of one arc that stands many times: what it says. -/
set_option linter.unusedVariables false
set_option linter.unusedSimpArgs false
namespace Go.Proofs.YtpbmihpjgjbndaaGreatDoor
open Lib
theorem mM {n:Int} (h:0≤n):itoa n=decDigits n.toNat:=by
 unfold itoa;rw[if_neg (by omega)]
theorem sN {b:UInt8} (h:kW b=true):b≠10∧lq b=false:=by
 unfold kW at h
 have h':=of_decide_eq_true h
 refine⟨fun e=>?_,?_⟩
 ·subst e;simp at h'
 ·unfold lq
  have h1:b.toNat≠32:=by omega
  have h2:b.toNat≠9:=by omega
  have h3:b.toNat≠13:=by omega
  simp[h1,h2,h3]
theorem vg {n:Int} (h:0≤n):∀ b∈itoa n,b≠10∧lq b=false:=by
 intro b hb
 rw[mM h] at hb
 exact sN (List.all_eq_true.1 (mS _) b hb)
theorem tZ {m:List UInt8} (h:∀ b∈m,b≠10) (t:List UInt8):bc (m++10::t)=m::bc t:=by
 rw[tW,fL,iC 10 m [] h];rfl
theorem tw {m:List UInt8} (h:∀ b∈m,lq b=false) (hne:m≠[]):bx m=[m]:=by
 unfold bx
 have:=iw m [] [] h
 rw[List.append_nil] at this
 rw[this]
 simp[bM,hne]
end Go.Proofs.YtpbmihpjgjbndaaGreatDoor
/- A network's text: written. -/
set_option linter.unusedVariables false
set_option linter.unusedSimpArgs false
namespace Go.Proofs.YtpbmihpjgjbndaaGreatDoor
open Go.RowKit
open Lib
end Go.Proofs.YtpbmihpjgjbndaaGreatDoor
/- What a network's text says: read by its words. -/
set_option linter.unusedVariables false
set_option linter.unusedSimpArgs false
namespace Go.Proofs.YtpbmihpjgjbndaaGreatDoor
open Lib
end Go.Proofs.YtpbmihpjgjbndaaGreatDoor
/- What a written network says. -/
set_option linter.unusedVariables false
set_option linter.unusedSimpArgs false
namespace Go.Proofs.YtpbmihpjgjbndaaGreatDoor
open Lib
theorem wL (f:List UInt8) (n:Int) (l:List Int):nu f (n::l)=nu (f++32::itoa n) l:=by
 rw[jW,jW];simp
theorem mP:∀ (ls:List (List UInt8)),(∀ x∈ls,∀ b∈x,b≠10)→bc ((ls.map fun x=>x++[10]).flatten)=ls
 |[],_=>rfl
 |x::ls,h=>by
  rw[List.map_cons,List.flatten_cons,List.append_assoc]
  show bc (x++10::_)=_
  rw[tZ (h x (by simp))]
  exact congrArg (x::·) (mP ls fun y hy=>h y (by simp[hy]))
theorem tf:∀ {l:List Int} {x:Int},(∀ y∈l,0≤y)→x∈l→x≤l.sum
 |[],_,_,h=>absurd h List.not_mem_nil
 |y::l,x,h,hx=>by
  have h1:=vH (l:=l) fun z hz=>h z (by simp[hz])
  have h2:=h y (by simp)
  rw[List.sum_cons]
  rcases List.mem_cons.1 hx with rfl|hx
  ·omega
  ·have:=tf (fun z hz=>h z (by simp[hz])) hx
   omega
theorem yE {N:a8} (hR:N.Right) {a:dK} (ha:a∈N.arcs):a.cap≤4611686018427387903:=by
 have:=tf (l:=N.arcs.map (·.cap)) (fun y hy=>by
  obtain⟨b,hb,rfl⟩:=List.mem_map.1 hy
  exact (hR.arc b hb).2.2) (List.mem_map.2 ⟨a,ha,rfl⟩)
 have:=hR.sum
 omega
end Go.Proofs.YtpbmihpjgjbndaaGreatDoor
