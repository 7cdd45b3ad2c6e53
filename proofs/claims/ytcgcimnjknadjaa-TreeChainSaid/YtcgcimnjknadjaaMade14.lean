
/- Chapter 14's networks of raw numbers. -/
import Derived.Test.YtcgcimnjknadjaaQB
set_option linter.unusedVariables false
set_option linter.unusedSimpArgs false
namespace Go.Proofs.Ytcgcimnjknadjaa
open Go.RowKit
end Go.Proofs.Ytcgcimnjknadjaa
