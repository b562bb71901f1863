/- Functions that compare two slices: what they return (made by gen_eq.py). -/
import Derived.Test.YtchlacepeckeaaaDoorSemPlain
import Derived.Test.YtchlacepeckeaaaDoorWant
namespace Go.Proofs.YtchlacepeckeaaaDoor
open Go.RowKit
set_option linter.unusedSimpArgs false
set_option linter.unusedVariables false
end Go.Proofs.YtchlacepeckeaaaDoor
