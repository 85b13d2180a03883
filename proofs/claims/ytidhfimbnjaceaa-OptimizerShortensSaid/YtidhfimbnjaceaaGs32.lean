/- A part of the proof of OptimizerShortens: RcA. No condition. -/
import Derived.Test.YtidhfimbnjaceaaGs24
import Derived.Test.YtidhfimbnjaceaaGs30
import Derived.Test.YtidhfimbnjaceaaGs31
set_option linter.unusedSimpArgs false
set_option linter.unusedVariables false
set_option linter.constructorNameAsVariable false
set_option maxRecDepth 100000
set_option maxHeartbeats 4000000
namespace Go.Proofs.Ytidhfimbnjaceaa
open Go.RowKit
end Go.Proofs.Ytidhfimbnjaceaa