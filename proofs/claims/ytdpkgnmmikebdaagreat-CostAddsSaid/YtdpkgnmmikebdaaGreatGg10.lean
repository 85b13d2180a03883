/- A part of the proof of CostAdds: Map Map2. No condition. -/
import Derived.MapKept
import Derived.Test.YtdpkgnmmikebdaaGreatGg03
set_option linter.unusedSimpArgs false
set_option linter.unusedVariables false
set_option linter.constructorNameAsVariable false
set_option maxRecDepth 100000
set_option maxHeartbeats 4000000
namespace Go.Proofs.YtdpkgnmmikebdaaGreat
open Go.RowKit Go.MapKept
def yV:Value->Option Int| .int .i64 n=>some n|_=>none
def zx(k:Int):List MapEntry->Bool
 |[]=>true
 |e::es=>(match yV e.key with|some n=>n != k|none=>false)&&zx k es
section
variable {P:Program} {T K E:TypeId} (hT:P.underlying T=some (.map K E)) (hK:P.underlying K=some (.int .i64))
include hT hK
end
attribute [go_sem] zx yV
end Go.Proofs.YtdpkgnmmikebdaaGreat
namespace Go.Proofs.YtdpkgnmmikebdaaGreat
open Go.RowKit Go.MapKept
section
variable {P:Program} {T K E:TypeId} (hT:P.underlying T=some (.map K E)) (hK:P.underlying K=some (.int .i64))
include hT hK
end
end Go.Proofs.YtdpkgnmmikebdaaGreat