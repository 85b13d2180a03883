/- A part of the proof of OptimizerPrunes: Pa. No condition. -/
import Derived.Test.YtidhfimbnjaceaaGreatGp01
import Derived.Test.YtidhfimbnjaceaaGreatGp22
import Derived.Test.YtidhfimbnjaceaaGreatGp03
import Derived.Test.YtidhfimbnjaceaaGreatGp16
set_option linter.unusedSimpArgs false
set_option linter.unusedVariables false
set_option linter.constructorNameAsVariable false
set_option maxRecDepth 100000
set_option maxHeartbeats 4000000
namespace Go.Proofs.YtidhfimbnjaceaaGreat
open Go.RowKit
set_option linter.unusedVariables false
theorem register_any (n : Int) (used : Bool) (regs : Int) (w : World) :
  Calls Tryz.prog 93 #[.int .i64 n, .bool used, .int .i64 regs] w fun e w' => e = .returned (.bool (rightReg regs n used)) ∧ w' = w := by
 cases used with
 |false =>
  go_enter Tryz.func93, Tryz.ntmps93
  go_wp2
  go_ret
  exact ⟨by simp [rightReg]; rfl, rfl⟩
 |true =>
  by_cases h : 0 ≤ n
  ·go_enter Tryz.func93, Tryz.ntmps93
   go_wp2
   go_ret
   exact ⟨by simp [rightReg, h], rfl⟩
  ·have h' : n < 0 := by omega
   have q : decide (0 ≤ n) = false := by simp; omega
   go_enter Tryz.func93, Tryz.ntmps93
   go_wp2
   go_ret
   exact ⟨by simp [rightReg]; omega, rfl⟩
theorem ret4 {a b c d a' b' c' d' : Bool} (h1 : a' = a) (h2 : b' = b) (h3 : c' = c) (h4 : d' = d) : Ending.returned (.tuple #[.bool a, .bool b, .bool c, .bool d]) = .returned (.tuple #[.bool a', .bool b', .bool c', .bool d']) := by
 subst h1 h2 h3 h4; rfl
theorem parts_any (op : Int) (w : World) :
  Calls Tryz.prog 62 #[.int .i64 op] w fun e w' => e = .returned (.tuple #[.bool (usesTo op), .bool (usesA op), .bool (usesB op), .bool (isOp op)]) ∧ w' = w := by
 go_enter Tryz.func62, Tryz.ntmps62
 go_wp2
 all_goals
  refine bodyPost_ret (by simp [results, Tryz.results62, go_sem]; try rfl) rfl ?_
  refine ⟨ret4 ?_ ?_ ?_ ?_, rfl⟩
  all_goals
   simp only [beq_iff_eq, beq_eq_false_iff_ne, ne_eq, decide_eq_true_eq, decide_eq_false_iff_not, Int.not_le] at *
   first
    |(apply decide_eq_true; omega)
    |(apply decide_eq_false; omega)
def limitOf (nA spills op : Int) : Int := mostArg nA spills op + 1
theorem limit_any (arsA codeA : Option Addr) (arsL arsC codeL codeC : Nat) (regs spills op : Int) (w : World) :
  Calls Tryz.prog 94 #[.agg #[.slice arsA arsL arsC, .int .i64 regs, .int .i64 spills, .slice codeA codeL codeC], .int .i64 op] w fun e w' => e = .returned (.int .i64 (limitOf arsL spills op)) ∧ Below w.heap.size w w' := by
 go_enter Tryz.func94, Tryz.ntmps94
 go_wp2
 all_goals
  go_ret
  refine ⟨congrArg (fun n => Ending.returned (.int .i64 n)) ?_, (Below.refl _ _).alloc (Nat.le_refl _) _⟩
  simp only [beq_iff_eq, beq_eq_false_iff_ne, ne_eq, decide_eq_true_eq, decide_eq_false_iff_not, Int.not_le] at *
  unfold limitOf mostArg
  simp_all
 all_goals trace_state
end Go.Proofs.YtidhfimbnjaceaaGreat
