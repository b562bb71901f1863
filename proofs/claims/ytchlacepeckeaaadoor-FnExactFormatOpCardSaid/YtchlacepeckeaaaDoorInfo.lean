/- The rows of the program's table of types that the laws of append ask for. -/
import Derived.Test.YtchlacepeckeaaaDoorBase
namespace Go.Proofs.YtchlacepeckeaaaDoor
theorem info_int : (Tryd.prog.info? 3).map (fun i => (i.zero, i.size, i.bytes)) = some (some (.int .i64 0), 1, 8) := by kernel_rfl
end Go.Proofs.YtchlacepeckeaaaDoor
