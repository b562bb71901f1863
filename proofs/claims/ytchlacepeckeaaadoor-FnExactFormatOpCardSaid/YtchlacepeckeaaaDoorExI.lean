/- The exact laws' helpers on slices of ints: what they do. -/
import Derived.Test.YtchlacepeckeaaaDoorOwn2
import Derived.Test.YtchlacepeckeaaaDoorEq
import Derived.Test.YtchlacepeckeaaaDoorInfo
import Derived.Deep.RegionHeld3
import Derived.Deep.DrawnRows
import Derived.Deep.LoopGhost
namespace Go.Proofs.YtchlacepeckeaaaDoor
open Go.RowKit
set_option linter.unusedSimpArgs false
set_option linter.unusedVariables false
end Go.Proofs.YtchlacepeckeaaaDoor
