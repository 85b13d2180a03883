/- A part of the proof of AllocateNeeds: Pa. No condition. -/
import Derived.Test.YteopfmnnhlhbmaaHn01
import Derived.Test.YteopfmnnhlhbmaaHn28
import Derived.Test.YteopfmnnhlhbmaaHn03
import Derived.Test.YteopfmnnhlhbmaaHn25
set_option linter.unusedSimpArgs false
set_option linter.unusedVariables false
set_option linter.constructorNameAsVariable false
set_option maxRecDepth 100000
set_option maxHeartbeats 4000000
namespace Go.Proofs.Yteopfmnnhlhbmaa
open Go.RowKit
theorem dw(n:Int)(used:Bool)(regs:Int)(w:World):
  Calls Try.prog 92 #[.int .i64 n,.bool used,.int .i64 regs] w λe w'=>e= .returned (.bool (aF regs n used))/\w'=w:=by
 cases used with
 |false=>
  go_enter Try.func92,Try.ntmps92
  go_wp2
  go_ret
  exact⟨by simp[aF];rfl,rfl⟩
 |true=>
  by_cases h:0<=n
  ·go_enter Try.func92,Try.ntmps92
   go_wp2
   go_ret
   exact⟨by simp[aF,h],rfl⟩
  ·have h':n<0:=by omega
   have q:decide (0<=n)=false:=by simp;omega
   go_enter Try.func92,Try.ntmps92
   go_wp2
   go_ret
   exact⟨by simp[aF];omega,rfl⟩
theorem RA{a b c d a' b' c' d':Bool}(h1:a'=a)(h2:b'=b)(h3:c'=c)(h4:d'=d):Ending.returned (.tuple #[.bool a,.bool b,.bool c,.bool d])= .returned (.tuple #[.bool a',.bool b',.bool c',.bool d']):=by
 subst h1 h2 h3 h4;rfl
theorem et(op:Int)(w:World):
  Calls Try.prog 82 #[.int .i64 op] w λe w'=>e= .returned (.tuple #[.bool (cH op),.bool (dT op),.bool (ee op),.bool (dA op)])/\w'=w:=by
 go_enter Try.func82,Try.ntmps82
 go_wp2
 all_goals
  refine bodyPost_ret (by simp[results,Try.results82,go_sem];try rfl) rfl ?_
  refine⟨RA ?_ ?_ ?_ ?_,rfl⟩
  all_goals
   simp only[beq_iff_eq,beq_eq_false_iff_ne,ne_eq,decide_eq_true_eq,decide_eq_false_iff_not,Int.not_le] at*
   first
    |(apply decide_eq_true;omega)
    |(apply decide_eq_false;omega)
def ii(nA spills op:Int):Int:=ch nA spills op+1
theorem fv(arsA codeA:Option Addr)(arsL arsC codeL codeC:Nat)(regs spills op:Int)(w:World):
  Calls Try.prog 93 #[.agg #[.slice arsA arsL arsC,.int .i64 regs,.int .i64 spills,.slice codeA codeL codeC],.int .i64 op] w λe w'=>e= .returned (.int .i64 (ii arsL spills op))/\Below w.heap.size w w':=by
 go_enter Try.func93,Try.ntmps93
 go_wp2
 all_goals
  go_ret
  refine⟨congrArg (λn=>Ending.returned (.int .i64 n)) ?_,(Below.refl _ _).alloc (Nat.le_refl _) _⟩
  simp only[beq_iff_eq,beq_eq_false_iff_ne,ne_eq,decide_eq_true_eq,decide_eq_false_iff_not,Int.not_le] at*
  unfold ii ch
  simp_all
 all_goals trace_state
end Go.Proofs.Yteopfmnnhlhbmaa