/- A part of the proof of OptimizerShortens: Ow. No condition. -/
import Derived.Below
import Derived.ChangeBook
import Derived.ChangeCalls
import Derived.ChangeOld
import Derived.ChangeStays
import Derived.Deep.Fields
import Derived.Deep.Slices
import Derived.Laws.BytesArg
import Derived.Lib.SlBytesRow
import Derived.Lib.SmallJoins
import Derived.OpenShut
import Derived.ProofKit
import Derived.ShutString
import Derived.Test.YtidhfimbnjaceaaGs03
set_option linter.unusedSimpArgs false
set_option linter.unusedVariables false
set_option linter.constructorNameAsVariable false
set_option maxRecDepth 100000
set_option maxHeartbeats 4000000
namespace Go.Proofs.Ytidhfimbnjaceaa
open Go.RowKit
end Go.Proofs.Ytidhfimbnjaceaa