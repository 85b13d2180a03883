/- A part of the proof of OptimizerShortens: T0. No condition. -/
import Derived.Laws.MakeOwn
import Derived.Lib.SliceRun
import Derived.Test.YtidhfimbnjaceaaGs15
import Derived.Test.YtidhfimbnjaceaaGs18
set_option linter.unusedSimpArgs false
set_option linter.unusedVariables false
set_option linter.constructorNameAsVariable false
set_option maxRecDepth 100000
set_option maxHeartbeats 4000000
namespace Go.Proofs.Ytidhfimbnjaceaa
open Go.RowKit
end Go.Proofs.Ytidhfimbnjaceaa