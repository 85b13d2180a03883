/- A part of the proof of AllocateNeeds: CkB. No condition. -/
import Derived.Test.YteopfmnnhlhbmaaHn16
import Derived.Test.YteopfmnnhlhbmaaHn31
set_option linter.unusedSimpArgs false
set_option linter.unusedVariables false
set_option linter.constructorNameAsVariable false
set_option maxRecDepth 100000
set_option maxHeartbeats 4000000
namespace Go.Proofs.Yteopfmnnhlhbmaa
open Go.RowKit
abbrev fy(la:List (Bool×Int))(regs par:Int)(cs:List In):Int×Int:=bA (la.map jN) regs par (cs.map bq)
theorem j9(la:List (Bool×Int))(regs par:Int)(cs:List In)(hla:la.length<1000000)(hcs:cs.length<1000000)(harg:∀x ∈ cs,0<=x.2.2.2.2/\x.2.2.2.2<4294967296):
  bR Try.prog 27 [aP la.length (aC la) regs par cs] [.v (.n .i64 (fy la regs par cs).1),.v (.n .i64 (fy la regs par cs).2)]:=by
 refine qC ⟨_,Try.func27,by kernel_rfl,by kernel_rfl⟩ (λφ w args' hφ ha=>?_)
 obtain⟨a1,c1,a2,c2,rfl,r1,r2⟩:=qW hφ ha
 refine(wi a1 a2 c1 c2 (la.map jN) regs par (cs.map bq) w r1 r2 (by rw[List.length_map];omega) (by rw[List.length_map];omega) ?_).mono (λe w' hq=>hq)
 intro i hi
 obtain⟨x,hx,rfl⟩:=List.mem_map.1 hi
 exact harg x hx
end Go.Proofs.Yteopfmnnhlhbmaa