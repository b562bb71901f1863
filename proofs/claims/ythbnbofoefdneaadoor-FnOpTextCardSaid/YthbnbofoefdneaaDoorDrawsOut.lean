/- Behind a draw with a reader of its own. -/
import Derived.Test.YthbnbofoefdneaaDoorG1
namespace Go.Proofs.YthbnbofoefdneaaDoor
open Go.RowKit
set_option linter.unusedSimpArgs false
set_option linter.unusedVariables false
/-- What a function draws by a reader of its own: nothing that was there has turned. -/
theorem Dr.out {B b N : Nat} {w w1 w2 : World} (hb : Below B w w1) (h : Dr w1 b N w2) (hB : B ≤ b) : Below B w w2 :=
  hb.grown h.g (Nat.le_trans hB (Nat.le_of_lt h.lt)) (fun k e => by cases e; exact hB)
end Go.Proofs.YthbnbofoefdneaaDoor
