/- A part of the proof of CostGrows: Map Map2. No condition. -/
import Derived.MapKept
import Derived.Test.YtdpkgnmmikebdaaGreatGf03
set_option linter.unusedSimpArgs false
set_option linter.unusedVariables false
set_option linter.constructorNameAsVariable false
set_option maxRecDepth 100000
set_option maxHeartbeats 4000000
namespace Go.Proofs.YtdpkgnmmikebdaaGreat
open Go.RowKit Go.MapKept
def y6:Value->Option Int| .int .i64 n=>some n|_=>none
def zF(k:Int):List MapEntry->Bool
 |[]=>true
 |e::es=>(match y6 e.key with|some n=>n != k|none=>false)&&zF k es
section
variable {P:Program} {T K E:TypeId} (hT:P.underlying T=some (.map K E)) (hK:P.underlying K=some (.int .i64))
include hT hK
end
attribute [go_sem] zF y6
end Go.Proofs.YtdpkgnmmikebdaaGreat
namespace Go.Proofs.YtdpkgnmmikebdaaGreat
open Go.RowKit Go.MapKept
section
variable {P:Program} {T K E:TypeId} (hT:P.underlying T=some (.map K E)) (hK:P.underlying K=some (.int .i64))
include hT hK
end
end Go.Proofs.YtdpkgnmmikebdaaGreat