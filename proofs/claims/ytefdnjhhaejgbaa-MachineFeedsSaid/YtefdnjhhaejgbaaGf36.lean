/- A part of the proof of MachineFeeds: Rk. No condition. -/
import Derived.Test.YtefdnjhhaejgbaaGf30
import Derived.Test.YtefdnjhhaejgbaaGf15
import Derived.Test.YtefdnjhhaejgbaaGf35
set_option linter.unusedSimpArgs false
set_option linter.unusedVariables false
namespace Go.Proofs.Ytefdnjhhaejgbaa
open Go.RowKit
set_option linter.unusedVariables false
theorem fits_nz {ars : List Ar} {regs spills : Int} {cd : List RI} {arr : List (List Int)} {n : Nat} (G : InOrd ars regs spills cd) (hf : fitsB ars arr n = true) : ∀ a ∈ arr, 0 < a.length ∧ a.length ≤ 65536 := fun a ha => by
  obtain ⟨h1, h2, h3⟩ := fits_lens hf
  obtain ⟨k, hk, rfl⟩ := List.getElem_of_mem ha
  have e := h3 k hk
  have hm := G.hars (ars.getD k default) (by rw [List.getD_eq_getElem?_getD, List.getElem?_eq_getElem (by omega)]; exact List.getElem_mem _)
  rw [List.getD_eq_getElem?_getD, List.getElem?_eq_getElem hk, Option.getD_some] at e
  omega
end Go.Proofs.Ytefdnjhhaejgbaa
