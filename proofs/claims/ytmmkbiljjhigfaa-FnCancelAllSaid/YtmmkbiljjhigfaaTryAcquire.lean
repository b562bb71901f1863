/- Functions on semaphores: what they return (made by gen_sem.py). -/
import Derived.Test.YtmmkbiljjhigfaaServe
import Derived.Test.YtmmkbiljjhigfaaSemValidS
import Derived.Test.YtmmkbiljjhigfaaSemRes
import Derived.Test.YtmmkbiljjhigfaaBase2
namespace Go.Proofs.Ytmmkbiljjhigfaa
open Go.RowKit
set_option linter.unusedSimpArgs false
set_option linter.unusedVariables false
end Go.Proofs.Ytmmkbiljjhigfaa
