/- A part of the proof of AllocateNeeds: D E0 Rb. No condition. -/
import Derived.Carry
import Derived.Lib.Hide
import Derived.Test.YteopfmnnhlhbmaaHn25
import Derived.Test.YteopfmnnhlhbmaaHn10
import Derived.Test.YteopfmnnhlhbmaaHn03
set_option linter.unusedSimpArgs false
set_option linter.unusedVariables false
set_option linter.constructorNameAsVariable false
set_option maxRecDepth 100000
set_option maxHeartbeats 4000000
namespace Go.Proofs.Yteopfmnnhlhbmaa
open Go.RowKit
end Go.Proofs.Yteopfmnnhlhbmaa