/- A part of the proof of AllocateNeeds: T0. No condition. -/
import Derived.Laws.MakeOwn
import Derived.Lib.SliceRun
import Derived.Test.YteopfmnnhlhbmaaHn10
import Derived.Test.YteopfmnnhlhbmaaHn26
set_option linter.unusedSimpArgs false
set_option linter.unusedVariables false
set_option linter.constructorNameAsVariable false
set_option maxRecDepth 100000
set_option maxHeartbeats 4000000
namespace Go.Proofs.Yteopfmnnhlhbmaa
open Go.RowKit
theorem Try.elInt:R0 Try.prog 39 3 (.int .i64 0) 1 8:=⟨Try.underlying39,by kernel_rfl,rfl,by decide,by decide⟩
theorem mX(z:Value)(n:Nat):madeCells #[z] n=(List.replicate n z).toArray:=by
 apply Array.ext
 ·simp[madeCells]
 ·intro i h1 h2
  simp[madeCells] at h1
  simp[madeCells]
  have:i%1=0:=Nat.mod_one i
  simp[this]
theorem ot(n:Nat)(hn:n<=65536)(w:World):
  (Instr.makeSlice 39 (.int .i64 (n:Int)) (.int .i64 (n:Int))).run Try.prog w= .ok (.slice (some ⟨w.heap.size,0,none⟩) n n) (w.alloc (.cells (ft (List.replicate n 0)).toArray 3)):=by
 obtain⟨i,hi,hz,h2,h3⟩:=info_parts Try.elInt.info
 rw[run_make w _ _ i (.int .i64 0) Try.underlying39 hi hz .i64 .i64 n n (by omega) (by omega) (by rw[h3];omega) (by omega)]
 simp only[Int.toNat_natCast,h2,Nat.mul_one,ft,List.map_replicate]
 have:(Value.int .i64 0).cells= #[.int .i64 0]:=rfl
 rw[this,mX]
 rfl
end Go.Proofs.Yteopfmnnhlhbmaa