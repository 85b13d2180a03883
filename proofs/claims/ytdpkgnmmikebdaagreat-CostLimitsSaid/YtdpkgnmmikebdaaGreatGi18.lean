/- A part of the proof of CostLimits. No condition. -/
import Derived.Test.YtdpkgnmmikebdaaGreatGi17
import Derived.Test.YtdpkgnmmikebdaaGreatGi15
import Derived.Test.YtdpkgnmmikebdaaGreatGi16
set_option linter.unusedSimpArgs false
set_option linter.unusedVariables false
set_option linter.constructorNameAsVariable false
set_option maxRecDepth 100000
set_option maxHeartbeats 4000000
namespace Go.Proofs.YtdpkgnmmikebdaaGreat
open Go.RowKit
end Go.Proofs.YtdpkgnmmikebdaaGreat