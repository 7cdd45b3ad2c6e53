/- The engine and the words that all chapters share: several texts in one. -/
import Derived.Test.YtpbmihpjgjbndaaGreatDoorQX29
import Derived.Test.YtpbmihpjgjbndaaGreatDoorQX17
import Derived.Test.YtpbmihpjgjbndaaGreatDoorQX27
/- One flow blocks, in plain terms: the search finds but one thing. -/
set_option linter.unusedVariables false
set_option linter.unusedSimpArgs false
namespace Go.Proofs.YtpbmihpjgjbndaaGreatDoor
open Go.RowKit
end Go.Proofs.YtpbmihpjgjbndaaGreatDoor
/- Chapter 12's example, in plain terms; phases find but one thing. -/
set_option linter.unusedVariables false
set_option linter.unusedSimpArgs false
namespace Go.Proofs.YtpbmihpjgjbndaaGreatDoor
open Go.RowKit
end Go.Proofs.YtpbmihpjgjbndaaGreatDoor
/- Networks with arcs more, and with more capacity, in plain terms. -/
set_option linter.unusedVariables false
set_option linter.unusedSimpArgs false
namespace Go.Proofs.YtpbmihpjgjbndaaGreatDoor
open Go.RowKit
theorem lS:∀ (l:List dK) (v:Int),cY (l.zip (List.replicate l.length 0)) v=0
 |[],_=>rfl
 |a::l,v=>by
  have:=lS l v
  unfold cY at this ⊢
  simp only[List.length_cons,List.replicate_succ,List.zip_cons_cons,List.map_cons,List.sum_cons,ite_self]
  omega
end Go.Proofs.YtpbmihpjgjbndaaGreatDoor
