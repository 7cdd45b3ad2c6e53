/- The engine and the words that all chapters share: several texts in one. -/
import Derived.Test.YtpbmihpjgjbndaaGreatDoorQX25
import Derived.Test.YtpbmihpjgjbndaaGreatDoorQX41
/- Networks read line by line: the whole text. -/
set_option linter.unusedVariables false
set_option linter.unusedSimpArgs false
namespace Go.Proofs.YtpbmihpjgjbndaaGreatDoor
open Go.RowKit
theorem fy:∀ (l cur:List UInt8),∀ x∈bM cur l,x.length≤cur.length+l.length
 |[],cur,x,hx=>by
  unfold bM at hx
  split at hx
  ·cases hx
  ·obtain rfl:=List.mem_singleton.1 hx;simp
 |b::l,cur,x,hx=>by
  unfold bM at hx
  rw[List.length_cons]
  split at hx
  ·split at hx
   ·have:=fy l [] x hx
    simp at this;omega
   ·rcases List.mem_cons.1 hx with rfl|hx
    ·omega
    ·have:=fy l [] x hx
     simp at this;omega
  ·have:=fy l _ x hx
   simp at this;omega
theorem rQ (l:List UInt8):∀ x∈bx l,x.length≤l.length:=fun x hx=>by
 have:=fy l [] x hx
 simpa using this
theorem iz (c:UInt8):∀ (l cur:List UInt8),∀ x∈br c cur l,x.length≤cur.length+l.length
 |[],cur,x,hx=>by
  obtain rfl:=List.mem_singleton.1 hx;simp
 |b::l,cur,x,hx=>by
  unfold br at hx
  rw[List.length_cons]
  split at hx
  ·rcases List.mem_cons.1 hx with rfl|hx
   ·omega
   ·have:=iz c l [] x hx
    simp at this;omega
  ·have:=iz c l _ x hx
   simp at this;omega
theorem rn (l:List UInt8):∀ x∈bc l,x.length≤l.length:=fun x hx=>by
 unfold bc at hx
 split at hx
 ·cases hx
 ·have h1:=iz 10 _ [] x hx
  have h2:(Lib.trimSuffix l [10]).length≤l.length:=by
   unfold Lib.trimSuffix
   split<;>simp
  simp at h1;omega
end Go.Proofs.YtpbmihpjgjbndaaGreatDoor
/- A network's text: its lines. -/
set_option linter.unusedVariables false
set_option linter.unusedSimpArgs false
namespace Go.Proofs.YtpbmihpjgjbndaaGreatDoor
open Go.RowKit
open Lib
def nu (f:List UInt8) (l:List Int):List UInt8:=join (f::l.map itoa) [32]
theorem tC (x:List UInt8) (xs:List (List UInt8)) (sep:List UInt8):join (x::xs) sep=x++(xs.map fun y=>sep++y).flatten:=by
 unfold join
 induction xs generalizing x with
 |nil=>simp[List.intercalate]
 |cons y r ih=>
  have:=ih y
  simp only[List.intercalate] at this ⊢
  rw[List.intersperse_cons_cons]
  simp only[List.flatten_cons,List.map_cons]
  rw[this]
  simp
theorem jW (f:List UInt8) (l:List Int):nu f l=f++(l.map fun n=>32::itoa n).flatten:=by
 unfold nu
 rw[tC,List.map_map]
 rfl
theorem l6 (f:List UInt8) (l:List Int) (hl:∀ n∈l,bN n):(nu f l).length≤f.length+l.length*21:=by
 rw[jW,List.length_append]
 have:((l.map fun n=>32::itoa n).flatten).length≤l.length*21:=by
  induction l with
  |nil=>simp
  |cons n r ih=>
   have h1:=hl n (by simp)
   unfold bN at h1
   have h2:=(wO n (by omega)).2
   have h3:=ih fun x hx=>hl x (by simp[hx])
   simp only[List.map_cons,List.flatten_cons,List.length_append,List.length_cons]
   omega
 omega
end Go.Proofs.YtpbmihpjgjbndaaGreatDoor
