/- The rows of the program's table of types that the laws of append ask for. -/
import Derived.Test.YtmmkbiljjhigfaaBase
namespace Go.Proofs.Ytmmkbiljjhigfaa
theorem info_int : (Try.prog.info? 3).map (fun i => (i.zero, i.size, i.bytes)) = some (some (.int .i64 0), 1, 8) := by kernel_rfl
theorem info_W : (Try.prog.info? 62).map (fun i => (i.zero, i.size, i.bytes)) = some (some (.agg #[.int .i64 0, .int .i64 0]), 2, 16) := by kernel_rfl
end Go.Proofs.Ytmmkbiljjhigfaa
