/- Marking a slice of ints, in the words of the laws. -/
import Derived.Test.YtchlacepeckeaaaDoorSpan
import Derived.Test.YtchlacepeckeaaaDoorExI
namespace Go.Proofs.YtchlacepeckeaaaDoor
open Go.RowKit
set_option linter.unusedSimpArgs false
set_option linter.unusedVariables false
end Go.Proofs.YtchlacepeckeaaaDoor
