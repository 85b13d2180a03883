/- A part of the proof of OptimizerPrunes: CkB. No condition. -/
import Derived.Test.YtidhfimbnjaceaaGreatGp13
import Derived.Test.YtidhfimbnjaceaaGreatGp25
set_option linter.unusedSimpArgs false
set_option linter.unusedVariables false
set_option linter.constructorNameAsVariable false
set_option maxRecDepth 100000
set_option maxHeartbeats 4000000
namespace Go.Proofs.YtidhfimbnjaceaaGreat
open Go.RowKit
set_option linter.unusedVariables false
abbrev chkD (la : List (Bool × Int)) (regs par : Int) (cs : List In) : Int × Int := chkCode (la.map toAr) regs par (cs.map toRI)
theorem check_has (la : List (Bool × Int)) (regs par : Int) (cs : List In) (hla : la.length < 1000000) (hcs : cs.length < 1000000) (harg : ∀ x ∈ cs, 0 ≤ x.2.2.2.2 ∧ x.2.2.2.2 < 4294967296) :
  Has Tryz.prog 54 [codeV la.length (aC la) regs par cs] [.v (.n .i64 (chkD la regs par cs).1), .v (.n .i64 (chkD la regs par cs).2)] := by
 refine has_old2 ⟨_, Tryz.func54, by kernel_rfl, by kernel_rfl⟩ (fun φ w args' hφ ha => ?_)
 obtain ⟨a1, c1, a2, c2, rfl, r1, r2⟩ := code_arg hφ ha
 refine (Check_any a1 a2 c1 c2 (la.map toAr) regs par (cs.map toRI) w r1 r2 (by rw [List.length_map]; omega) (by rw [List.length_map]; omega) ?_).mono (fun e w' hq => hq)
 intro i hi
 obtain ⟨x, hx, rfl⟩ := List.mem_map.1 hi
 exact harg x hx
end Go.Proofs.YtidhfimbnjaceaaGreat
