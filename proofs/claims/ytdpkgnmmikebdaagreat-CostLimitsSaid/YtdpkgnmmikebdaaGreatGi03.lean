/- A part of the proof of CostLimits. No condition. -/
import Derived.Deep.AppendLies
import Derived.Test.YtdpkgnmmikebdaaGreatGi02
set_option linter.unusedSimpArgs false
set_option linter.unusedVariables false
set_option linter.constructorNameAsVariable false
set_option maxRecDepth 100000
set_option maxHeartbeats 4000000
namespace Go.Proofs.YtdpkgnmmikebdaaGreat
open Go.RowKit
theorem uP(w:World)(o1:Obj):(w.alloc o1).heap[w.heap.size]? =some o1:=heap_alloc_new w o1
theorem mU{P:Program}{f:FuncId}{fn:Func}(hf:P.funcs[f]? =some fn)(hname:(fn.name== "runtime.NumGoroutine")=false)(hb:fn.body.isNone=false)(args:Array Value)(w:World):
  (callFunc f args).run P w= .ok (.enter f args) w:=by
 have h1:fn.name≠ "runtime.NumGoroutine" :=by simpa using hname
 cases hc:fn.body with
 |none=>rw[hc] at hb;cases hb
 |some c=>simp[callFunc,hf,h1,hc]
end Go.Proofs.YtdpkgnmmikebdaaGreat