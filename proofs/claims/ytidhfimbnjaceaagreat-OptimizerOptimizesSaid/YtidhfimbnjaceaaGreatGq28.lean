/- A part of the proof of OptimizerOptimizes: Pa. No condition. -/
import Derived.Test.YtidhfimbnjaceaaGreatGq01
import Derived.Test.YtidhfimbnjaceaaGreatGq20
import Derived.Test.YtidhfimbnjaceaaGreatGq03
import Derived.Test.YtidhfimbnjaceaaGreatGq14
set_option linter.unusedSimpArgs false
set_option linter.unusedVariables false
set_option linter.constructorNameAsVariable false
set_option maxRecDepth 100000
set_option maxHeartbeats 4000000
namespace Go.Proofs.YtidhfimbnjaceaaGreat
open Go.RowKit
theorem eh(n:Int)(used:Bool)(regs:Int)(w:World):
  Calls Tryz.prog 93 #[.int .i64 n,.bool used,.int .i64 regs] w λe w'=>e= .returned (.bool (aE regs n used))/\w'=w:=by
 cases used with
 |false=>
  go_enter Tryz.func93,Tryz.ntmps93
  go_wp2
  go_ret
  exact⟨by simp[aE];rfl,rfl⟩
 |true=>
  by_cases h:0<=n
  ·go_enter Tryz.func93,Tryz.ntmps93
   go_wp2
   go_ret
   exact⟨by simp[aE,h],rfl⟩
  ·have h':n<0:=by omega
   have q:decide (0<=n)=false:=by simp;omega
   go_enter Tryz.func93,Tryz.ntmps93
   go_wp2
   go_ret
   exact⟨by simp[aE];omega,rfl⟩
theorem X4{a b c d a' b' c' d':Bool}(h1:a'=a)(h2:b'=b)(h3:c'=c)(h4:d'=d):Ending.returned (.tuple #[.bool a,.bool b,.bool c,.bool d])= .returned (.tuple #[.bool a',.bool b',.bool c',.bool d']):=by
 subst h1 h2 h3 h4;rfl
theorem fx(op:Int)(w:World):
  Calls Tryz.prog 62 #[.int .i64 op] w λe w'=>e= .returned (.tuple #[.bool (cP op),.bool (ee op),.bool (eu op),.bool (dS op)])/\w'=w:=by
 go_enter Tryz.func62,Tryz.ntmps62
 go_wp2
 all_goals
  refine bodyPost_ret (by simp[results,Tryz.results62,go_sem];try rfl) rfl ?_
  refine⟨X4 ?_ ?_ ?_ ?_,rfl⟩
  all_goals
   simp only[beq_iff_eq,beq_eq_false_iff_ne,ne_eq,decide_eq_true_eq,decide_eq_false_iff_not,Int.not_le] at*
   first
    |(apply decide_eq_true;omega)
    |(apply decide_eq_false;omega)
def i8(nA spills op:Int):Int:=bZ nA spills op+1
theorem gr(arsA codeA:Option Addr)(arsL arsC codeL codeC:Nat)(regs spills op:Int)(w:World):
  Calls Tryz.prog 94 #[.agg #[.slice arsA arsL arsC,.int .i64 regs,.int .i64 spills,.slice codeA codeL codeC],.int .i64 op] w λe w'=>e= .returned (.int .i64 (i8 arsL spills op))/\Below w.heap.size w w':=by
 go_enter Tryz.func94,Tryz.ntmps94
 go_wp2
 all_goals
  go_ret
  refine⟨congrArg (λn=>Ending.returned (.int .i64 n)) ?_,(Below.refl _ _).alloc (Nat.le_refl _) _⟩
  simp only[beq_iff_eq,beq_eq_false_iff_ne,ne_eq,decide_eq_true_eq,decide_eq_false_iff_not,Int.not_le] at*
  unfold i8 bZ
  simp_all
 all_goals trace_state
end Go.Proofs.YtidhfimbnjaceaaGreat