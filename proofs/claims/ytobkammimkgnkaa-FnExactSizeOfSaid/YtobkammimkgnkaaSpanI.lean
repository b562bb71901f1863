/- Marking a slice of ints, in the words of the laws. -/
import Derived.Test.YtobkammimkgnkaaSpan
import Derived.Test.YtobkammimkgnkaaExI
namespace Go.Proofs.Ytobkammimkgnkaa
open Go.RowKit
set_option linter.unusedSimpArgs false
set_option linter.unusedVariables false
end Go.Proofs.Ytobkammimkgnkaa
