/- A part of the proof of MachineFeeds: Su. No condition. -/
import Derived.Test.YtefdnjhhaejgbaaGf35
import Derived.Test.YtefdnjhhaejgbaaGf25
set_option linter.unusedSimpArgs false
set_option linter.unusedVariables false
namespace Go.Proofs.Ytefdnjhhaejgbaa
open Go.RowKit
set_option linter.unusedVariables false
theorem mach_ok {ars : List Ar} {regs spills : Int} {cd : List RI} {arr : List (List Int)} {ctx : List Int} {input : Int} {ended : Bool} {F : Int} {s : PS} (h : machRun ars regs spills cd arr ctx input ended F = .ok s) :
    (chkCode ars regs spills cd).2 = 0 ∧ fitsB ars arr ctx.length = true ∧ (0 ≤ F ∧ F ≤ 281474976710656) ∧ mres (mkMC ars regs spills cd input ended F) ((mkMC ars regs spills cd input ended F).init arr ctx) = .ok s := by
  unfold machRun runRes at h
  split at h
  · cases h
  · rename_i h1
    split at h
    · cases h
    · rename_i h2
      split at h
      · cases h
      · rename_i h3
        exact ⟨by simpa using h1, by simpa using h2, by omega, h⟩
theorem mach_is {ars : List Ar} {regs spills : Int} {cd : List RI} {arr : List (List Int)} {ctx : List Int} {F : Int} (input : Int) (ended : Bool) (h1 : (chkCode ars regs spills cd).2 = 0) (h2 : fitsB ars arr ctx.length = true) (h3 : 0 ≤ F ∧ F ≤ 281474976710656) :
    machRun ars regs spills cd arr ctx input ended F = mres (mkMC ars regs spills cd input ended F) ((mkMC ars regs spills cd input ended F).init arr ctx) := by
  unfold machRun runRes
  rw [if_neg (by simpa using h1), if_neg (by simp [h2]), if_neg (by omega)]
theorem mach_fuel {ars : List Ar} {regs spills : Int} {cd : List RI} {arr : List (List Int)} {ctx : List Int} {input : Int} {ended : Bool} {F : Int} {s : PS} (harg : ∀ i ∈ cd, 0 ≤ i.arg ∧ i.arg < 4294967296) (ha : ∀ a ∈ arr, u32s a) (hc : u32s ctx) (hi : u32 input)
    (h : machRun ars regs spills cd arr ctx input ended F = .ok s) :
    0 ≤ s.steps ∧ s.steps ≤ F ∧ fitsB ars s.arr s.ctx.length = true ∧ (∀ a ∈ s.arr, u32s a) ∧ u32s s.ctx ∧ machRun ars regs spills cd arr ctx input ended s.steps = .ok s ∧ (0 < s.steps → machRun ars regs spills cd arr ctx input ended (s.steps - 1) = .error 19) := by
  obtain ⟨h1, h2, h3, h4⟩ := mach_ok h
  have G := chk_good h1
  obtain ⟨t, R⟩ := good_tree G harg input ended F
  have I := init_inv (input := input) (ended := ended) G h2 ha hc hi h3 t
  have hr := runs_mres R _ _ (Nat.le_refl _) I
  rw [h4] at hr
  have hfin := mrun_inv R _ _ _ I h4
  obtain ⟨f1, f2⟩ := hr.fuel
  have f1' : 0 ≤ s.steps := f1
  have hle := hfin.fine.st1
  have hle' : s.steps ≤ F := hle
  have other : ∀ f r, 0 ≤ f → f ≤ 281474976710656 → Runs ((mkMC ars regs spills cd input ended F).fu f) ((mkMC ars regs spills cd input ended F).init arr ctx) r → machRun ars regs spills cd arr ctx input ended f = r := by
    intro f r g1 g2 g3
    rw [mach_is input ended h1 h2 ⟨g1, g2⟩]
    obtain ⟨t', R'⟩ := good_tree G harg input ended f
    have I' := init_inv (input := input) (ended := ended) G h2 ha hc hi ⟨g1, g2⟩ t'
    exact (runs_mres R' _ _ (Nat.le_refl _) I').uniq g3
  refine ⟨f1', hle', hr.fits h2, hfin.fine.a32, hfin.fine.c32, other _ _ f1' (by omega) ((f2 s.steps).1 (Int.le_refl _)), fun h0 => other _ _ (by omega) (by omega) ((f2 (s.steps - 1)).2 (by show 0 ≤ s.steps - 1; omega) (by omega))⟩
end Go.Proofs.Ytefdnjhhaejgbaa
