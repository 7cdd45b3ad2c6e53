/- The engine and the words that all chapters share: several texts in one. -/
import Derived.Test.YtpbmihpjgjbndaaGreatDoorQX46
import Derived.Test.YtpbmihpjgjbndaaGreatDoorQF
import Derived.Test.YtpbmihpjgjbndaaGreatDoorQX28
import Derived.Test.YtpbmihpjgjbndaaGreatDoorQB
/- The first room of the halves. -/
set_option linter.unusedVariables false
set_option linter.unusedSimpArgs false
namespace Go.Proofs.YtpbmihpjgjbndaaGreatDoor
open Go.RowKit
theorem nb:∀ {l:List dK},(∀ a∈l,0≤a.cap)→∀ {a:dK},a∈l→a.cap≤(l.map (·.cap)).sum
 |[],_,_,h=>by simp at h
 |b::l,hp,a,h=>by
  have h0:=hp b (by simp)
  have hs:0≤(l.map (·.cap)).sum:=eZ _ fun x hx=>by
   obtain⟨d,hd,rfl⟩:=List.mem_map.1 hx
   exact hp d (by simp[hd])
  simp only[List.map_cons,List.sum_cons]
  rcases List.mem_cons.1 h with rfl|h
  ·omega
  ·have:=nb (fun d hd=>hp d (by simp[hd])) h
   omega
theorem wi {N:a8} (hR:N.Right) (k:Nat):0≤mQ (N.arcs.take k)∧mQ (N.arcs.take k)≤4611686018427387903:=by
 obtain⟨h1,h2,h3⟩:=mp (N.arcs.take k) 0 fun a ha=>(hR.arc a (List.mem_of_mem_take ha)).2.2
 refine⟨h1,?_⟩
 unfold mQ
 rcases h3 with h|⟨a,ha,h⟩
 ·rw[h];decide
 ·rw[h]
  have hs:=hR.sum
  have:=nb (fun d hd=>(hR.arc d hd).2.2) (List.mem_of_mem_take ha)
  omega
end Go.Proofs.YtpbmihpjgjbndaaGreatDoor
/- The greatest value by halves: scale.Max. -/
set_option linter.unusedVariables false
set_option linter.unusedSimpArgs false
namespace Go.Proofs.YtpbmihpjgjbndaaGreatDoor
open Go.RowKit
def zk (t:nA):List Value:=[.int .i64 t.least,.int .i64 t.p,.int .i64 t.w,.int .i64 t.v]
def ze (ts:List nA):List Value:=ts.flatMap zk
theorem sd {x:Int} (h0:0≤x) (h1:x≤4611686018427387903):∃ nr,nr≤62∧mf x=eg nr 0∧(nr=0↔x=0):=by
 unfold mf
 by_cases h:x<1
 ·rw[if_pos h]
  exact⟨0,by decide,by rw[ur (Nat.le_refl _)],by simp;omega⟩
 ·rw[if_neg h]
  have hp:0<x.toNat:=by omega
  have h2:=rI hp
  have h3:=uF hp
  refine⟨jQ x.toNat,?_,?_,?_⟩
  ·have:jQ x.toNat-1<62:=(Nat.pow_lt_pow_iff_right (by decide:1<2)).1 (Nat.lt_of_le_of_lt h3 (by omega))
   omega
  ·unfold eg
   rw[if_pos (by omega),Nat.sub_zero]
  ·omega
end Go.Proofs.YtpbmihpjgjbndaaGreatDoor
/- Two rows that are the same. -/
set_option linter.unusedVariables false
set_option linter.unusedSimpArgs false
namespace Go.Proofs.YtpbmihpjgjbndaaGreatDoor
open Go.RowKit
theorem a8.Right.fits2 {N:a8} (h:N.Right):N.Fits:=by
 have h1:=h.nodes
 have h2:=h.src
 have h3:=h.snk
 have h4:=h.len
 refine⟨by unfold bN;omega,by unfold bN;omega,by unfold bN;omega,by omega,fun a ha=>?_⟩
 have:=h.arc a ha
 have:=h.cap ha
 unfold bN
 omega
end Go.Proofs.YtpbmihpjgjbndaaGreatDoor
/- Chapter 13's example, step by step. -/
set_option linter.unusedVariables false
set_option linter.unusedSimpArgs false
namespace Go.Proofs.YtpbmihpjgjbndaaGreatDoor
open Go.RowKit
end Go.Proofs.YtpbmihpjgjbndaaGreatDoor
/- Chapter 13's networks of raw numbers. -/
set_option linter.unusedVariables false
set_option linter.unusedSimpArgs false
namespace Go.Proofs.YtpbmihpjgjbndaaGreatDoor
open Go.RowKit
end Go.Proofs.YtpbmihpjgjbndaaGreatDoor
/- What the laws of the halves need of turns. -/
set_option linter.unusedVariables false
set_option linter.unusedSimpArgs false
namespace Go.Proofs.YtpbmihpjgjbndaaGreatDoor
open Go.RowKit
end Go.Proofs.YtpbmihpjgjbndaaGreatDoor
