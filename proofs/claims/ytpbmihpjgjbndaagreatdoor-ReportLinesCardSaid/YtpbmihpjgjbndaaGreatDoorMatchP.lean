/- The greatest flow of a graph's network, and its matchings. -/
import Derived.Test.YtpbmihpjgjbndaaGreatDoorQX34
import Derived.Test.YtpbmihpjgjbndaaGreatDoorRightN
set_option linter.unusedVariables false
set_option linter.unusedSimpArgs false
namespace Go.Proofs.YtpbmihpjgjbndaaGreatDoor
/-! ### Sums by place -/
section
variable {g:Gr} {nl nr:Nat}
end
/-! ### A matching is a flow -/
section
variable {g:Gr} {nl nr:Nat}
end
/-! ### A flow is a matching -/
section
variable {g:Gr} {nl nr:Nat} {f:List Int}
end
end Go.Proofs.YtpbmihpjgjbndaaGreatDoor
