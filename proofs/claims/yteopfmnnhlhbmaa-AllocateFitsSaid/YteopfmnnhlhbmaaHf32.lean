/- A part of the proof of AllocateFits: CkB. No condition. -/
import Derived.Test.YteopfmnnhlhbmaaHf16
import Derived.Test.YteopfmnnhlhbmaaHf31
set_option linter.unusedSimpArgs false
set_option linter.unusedVariables false
set_option linter.constructorNameAsVariable false
set_option maxRecDepth 100000
set_option maxHeartbeats 4000000
namespace Go.Proofs.Yteopfmnnhlhbmaa
open Go.RowKit
abbrev dw(la:List (Bool×Int))(regs par:Int)(cs:List In):Int×Int:=bw (la.map jb) regs par (cs.map bp)
theorem ip(la:List (Bool×Int))(regs par:Int)(cs:List In)(hla:la.length<1000000)(hcs:cs.length<1000000)(harg:∀x ∈ cs,0<=x.2.2.2.2/\x.2.2.2.2<4294967296):
  bR Try.prog 27 [aL la.length (aC la) regs par cs] [.v (.n .i64 (dw la regs par cs).1),.v (.n .i64 (dw la regs par cs).2)]:=by
 refine qU ⟨_,Try.func27,by kernel_rfl,by kernel_rfl⟩ (λφ w args' hφ ha=>?_)
 obtain⟨a1,c1,a2,c2,rfl,r1,r2⟩:=rA hφ ha
 refine(wG a1 a2 c1 c2 (la.map jb) regs par (cs.map bp) w r1 r2 (by rw[List.length_map];omega) (by rw[List.length_map];omega) ?_).mono (λe w' hq=>hq)
 intro i hi
 obtain⟨x,hx,rfl⟩:=List.mem_map.1 hi
 exact harg x hx
end Go.Proofs.Yteopfmnnhlhbmaa