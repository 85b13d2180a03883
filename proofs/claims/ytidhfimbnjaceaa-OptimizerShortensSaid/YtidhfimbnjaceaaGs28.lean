/- A part of the proof of OptimizerShortens: Pa. No condition. -/
import Derived.Test.YtidhfimbnjaceaaGs01
import Derived.Test.YtidhfimbnjaceaaGs20
import Derived.Test.YtidhfimbnjaceaaGs03
import Derived.Test.YtidhfimbnjaceaaGs14
set_option linter.unusedSimpArgs false
set_option linter.unusedVariables false
set_option linter.constructorNameAsVariable false
set_option maxRecDepth 100000
set_option maxHeartbeats 4000000
namespace Go.Proofs.Ytidhfimbnjaceaa
open Go.RowKit
end Go.Proofs.Ytidhfimbnjaceaa