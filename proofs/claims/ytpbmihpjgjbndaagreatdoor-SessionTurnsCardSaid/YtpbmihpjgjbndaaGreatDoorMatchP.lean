/- The greatest flow of a graph's network, and its matchings. -/
import Derived.Test.YtpbmihpjgjbndaaGreatDoorQX38
import Derived.Test.YtpbmihpjgjbndaaGreatDoorRightN
set_option linter.unusedVariables false
set_option linter.unusedSimpArgs false
namespace Go.Proofs.YtpbmihpjgjbndaaGreatDoor
/-! ### Sums by place -/
theorem w8 {N:bc} (hR:N.Right) {f:List Int} (hf:eY N f):∃ s,eP N s∧mX N f s:=by
 have hnn:=hR.nodes
 obtain⟨n,hn⟩:∃ n:Nat,N.nodes=n:=⟨N.nodes.toNat,by omega⟩
 have hlr:∀ v:Nat,((List.range (n+1)).map fun (v:Nat)=>dv (l0 N (aP (N.arcs.zip f)) 1 v))[v]?=some true↔v≤n∧l0 N (aP (N.arcs.zip f)) 1 v:=by
  intro v
  rw[List.getElem?_map]
  by_cases hv:v<n+1
  ·rw[List.getElem?_range hv]
   show some (dv _)=some true↔_
   by_cases hr:l0 N (aP (N.arcs.zip f)) 1 v
   ·rw[aA hr];exact⟨fun _=>⟨by omega,hr⟩,fun _=>rfl⟩
   ·rw[aB hr];exact⟨fun h=>(by cases h),fun h=>absurd h.2 hr⟩
  ·rw[List.getElem?_eq_none (by simp;omega)]
   simp;omega
 exact⟨_,oo hR hf.1 hn hf.2 hlr⟩
theorem lI {N:bc} (hR:N.Right) {f f':List Int} (hf:eY N f) (hf':aN N f'):dg (N.arcs.zip f') N.snk≤dg (N.arcs.zip f) N.snk:=by
 obtain⟨s,hs,hc⟩:=w8 hR hf
 rw[← (mR hR hf.1 hs).2 hc]
 exact qU hR hf' hs
/-! ### The arcs of a graph's network -/
section
variable {g:Gr} {nl nr:Nat}
end
/-! ### A matching is a flow -/
section
variable {g:Gr} {nl nr:Nat}
end
/-! ### A flow is a matching -/
section
variable {g:Gr} {nl nr:Nat} {f:List Int}
end
end Go.Proofs.YtpbmihpjgjbndaaGreatDoor
