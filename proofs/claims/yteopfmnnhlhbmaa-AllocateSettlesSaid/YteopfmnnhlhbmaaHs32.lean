/- A part of the proof of AllocateSettles: CkB. No condition. -/
import Derived.Test.YteopfmnnhlhbmaaHs16
import Derived.Test.YteopfmnnhlhbmaaHs31
set_option linter.unusedSimpArgs false
set_option linter.unusedVariables false
set_option linter.constructorNameAsVariable false
set_option maxRecDepth 100000
set_option maxHeartbeats 4000000
namespace Go.Proofs.Yteopfmnnhlhbmaa
open Go.RowKit
abbrev dM(la:List (Bool×Int))(regs par:Int)(cs:List In):Int×Int:=bv (la.map iY) regs par (cs.map bo)
theorem nN(la:List (Bool×Int))(regs par:Int)(cs:List In)(hla:la.length<1000000)(hcs:cs.length<1000000)(harg:∀x ∈ cs,0<=x.2.2.2.2/\x.2.2.2.2<4294967296):
  bS Try.prog 27 [aB la.length (aC la) regs par cs] [.v (.n .i64 (dM la regs par cs).1),.v (.n .i64 (dM la regs par cs).2)]:=by
 refine qt ⟨_,Try.func27,by kernel_rfl,by kernel_rfl⟩ (λφ w args' hφ ha=>?_)
 obtain⟨a1,c1,a2,c2,rfl,r1,r2⟩:=qO hφ ha
 refine(wc a1 a2 c1 c2 (la.map iY) regs par (cs.map bo) w r1 r2 (by rw[List.length_map];omega) (by rw[List.length_map];omega) ?_).mono (λe w' hq=>hq)
 intro i hi
 obtain⟨x,hx,rfl⟩:=List.mem_map.1 hi
 exact harg x hx
end Go.Proofs.Yteopfmnnhlhbmaa