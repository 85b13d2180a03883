/- A part of the proof of CostLimits. No condition. -/
import Derived.MapKept
import Derived.Test.YtdpkgnmmikebdaaGreatGi03
set_option linter.unusedSimpArgs false
set_option linter.unusedVariables false
set_option linter.constructorNameAsVariable false
set_option maxRecDepth 100000
set_option maxHeartbeats 4000000
namespace Go.Proofs.YtdpkgnmmikebdaaGreat
open Go.RowKit Go.MapKept
def EY:Value->Option Int| .int .i64 n=>some n|_=>none
def Fx(k:Int):List MapEntry->Bool
 |[]=>true
 |e::es=>(match EY e.key with|some n=>n != k|none=>false)&&Fx k es
section
variable {P:Program} {T K E:TypeId} (hT:P.underlying T=some (.map K E)) (hK:P.underlying K=some (.int .i64))
include hT hK
end
attribute [go_sem] Fx EY
section
variable {P:Program} {T K E:TypeId} (hT:P.underlying T=some (.map K E)) (hK:P.underlying K=some (.int .i64))
include hT hK
end
end Go.Proofs.YtdpkgnmmikebdaaGreat