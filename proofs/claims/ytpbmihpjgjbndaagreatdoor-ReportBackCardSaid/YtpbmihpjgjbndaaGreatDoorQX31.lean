/- The engine and the words that all chapters share: several texts in one. -/
import Derived.Test.YtpbmihpjgjbndaaGreatDoorQX20
import Derived.Test.YtpbmihpjgjbndaaGreatDoorQX35
import Derived.Test.YtpbmihpjgjbndaaGreatDoorQC
/- A text of one arc that stands many times: what it says. -/
set_option linter.unusedVariables false
set_option linter.unusedSimpArgs false
namespace Go.Proofs.YtpbmihpjgjbndaaGreatDoor
open Lib
theorem mu {n:Int} (h:0≤n):itoa n=decDigits n.toNat:=by
 unfold itoa;rw[if_neg (by omega)]
theorem rW {b:UInt8} (h:kK b=true):b≠10∧kX b=false:=by
 unfold kK at h
 have h':=of_decide_eq_true h
 refine⟨fun e=>?_,?_⟩
 ·subst e;simp at h'
 ·unfold kX
  have h1:b.toNat≠32:=by omega
  have h2:b.toNat≠9:=by omega
  have h3:b.toNat≠13:=by omega
  simp[h1,h2,h3]
theorem u7 {n:Int} (h:0≤n):∀ b∈itoa n,b≠10∧kX b=false:=by
 intro b hb
 rw[mu h] at hb
 exact rW (List.all_eq_true.1 (ma _) b hb)
theorem uA {m:List UInt8} (h:∀ b∈m,b≠10) (t:List UInt8):bg (m++10::t)=m::bg t:=by
 rw[ul,fJ,ik 10 m [] h];rfl
theorem uB {m:List UInt8} (h:∀ b∈m,kX b=false) (hne:m≠[]):bB m=[m]:=by
 unfold bB
 have:=iu m [] [] h
 rw[List.append_nil] at this
 rw[this]
 simp[bK,hne]
end Go.Proofs.YtpbmihpjgjbndaaGreatDoor
/- A network's text: written. -/
set_option linter.unusedVariables false
set_option linter.unusedSimpArgs false
namespace Go.Proofs.YtpbmihpjgjbndaaGreatDoor
open Go.RowKit
open Lib
end Go.Proofs.YtpbmihpjgjbndaaGreatDoor
