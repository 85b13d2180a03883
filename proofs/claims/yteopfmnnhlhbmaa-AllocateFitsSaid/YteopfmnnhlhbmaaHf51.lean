/-
  PROVED: 'Rows.AllocateFitsSaid': AllocateFits returns true for all code and numbers. No condition.
-/
import Derived.OpenShut
import Derived.ProofKit
import Derived.ShutString
import Derived.WalkKit
import Derived.Test.YteopfmnnhlhbmaaRows
import Derived.Test.YteopfmnnhlhbmaaHf47
import Derived.Test.YteopfmnnhlhbmaaHf50
set_option linter.unusedSimpArgs false
set_option linter.unusedVariables false
set_option linter.constructorNameAsVariable false
set_option maxRecDepth 100000
set_option maxHeartbeats 4000000
namespace Go.Proofs.Yteopfmnnhlhbmaa.allocateFits
open Go.ChangeShapes Go.WideShapes Go.ChangeAt Go.RowKit
open Go.ChangeMaps (open_string shut_string)
theorem own : ownKnob Try.prog.godebug = none := by kernel_rfl
theorem params_read : (Try.f8.params.toList.all fun t => Try.prog.readableRec t && decide (t < Try.prog.types.size)) = true := by kernel_rfl
theorem laid : laidOutB Try.prog = true := by kernel_rfl
theorem params_len : Try.f8.params.toList.length = 2 := by kernel_rfl
set_option maxRecDepth 100000 in
theorem lifted (os : Os) (started : os.Started) (H : Type) (enc : TypeId × Value → H) :
    ReturnsInHanded {} Try.checked os 8 .any (Rows.allocateFitsSpec.pre6 enc Try.prog Try.f8 Rows.allocateFitsRow.domain false) (Rows.allocateFitsSpec.post enc Try.prog Try.f8 false true false false) := by
  refine B1 (C := Try.checked) (k := 8) (f := Try.f8) (s := Rows.allocateFitsSpec) (tb := 4) own started (by kernel_rfl) Try.func8
    (ChangeSpec.witness6 (enc := enc) (C := Try.checked) false ⟨#[], #[.agg #[.slice none 0 0, .int .i64 0, .int .i64 0, .slice none 0 0], .int .u8 0], []⟩ 8 (by kernel_rfl) (by kernel_rfl) (by kernel_rfl) (by kernel_rfl))
    laid ?_ rfl ?_ (by kernel_rfl) Try.underlying4 ?_
  · intro t ht
    have := List.all_eq_true.1 params_read t ht
    rw [Bool.and_eq_true, decide_eq_true_eq] at this
    exact this
  · intro ds hds
    rw [params_len] at hds
    match ds, hds with
    | [a, b], _ => rfl
  · intro W base args ds p hval hA
    rw [Try.params8] at hA hval
    obtain ⟨v0, vs0, d0, ds0, p0, q0, hargs, rfl, rfl, h0, r0⟩ := trodAll_cons hA
    obtain ⟨v1, vs1, d1, ds1, p1, q1, rfl, rfl, rfl, h1, r1⟩ := trodAll_cons r0
    obtain ⟨rfl, rfl, rfl⟩ := trodAll_nil r1
    obtain rfl : args = #[v0, v1] := by cases args; simp_all
    obtain ⟨la, regs, par, cs, hh⟩ := sq (hval 0 _ v0 rfl rfl) h0
    obtain ⟨a1, rfl, rfl, rfl, w1⟩ := open_int Try.underlying5 (hval 1 _ v1 rfl rfl) h1
    have hb := GU w1
    obtain ⟨k, rfl⟩ : ∃ k : Nat, a1 = k := ⟨a1.toNat, by omega⟩
    exact qQ (B2 la regs par cs hh.2.1 hh.2.2.1.le hh.2.2.2.le k (by omega)) ((bz.nil.cons (VR.n .u8 (k : Int))).cons hh.1.hd)
theorem over : Rows.allocateFitsRow.holds Try.pinned (OpenSpec.ofChange Rows.allocateFitsSpec) :=
  OpenClaim.holds_of_wide 8 Try.f8 rfl rfl rfl rfl rfl rfl rfl ⟨rfl, rfl, rfl, rfl, rfl⟩ rfl rfl rfl rfl rfl (by kernel_rfl) Try.func8 (by kernel_rfl)
    (of_decide_eq_true (by kernel_rfl)) (by unfold Func.isWrapper; first | (rw [if_pos (by decide +kernel)]; kernel_rfl) | (rw [if_neg (by decide +kernel)]; exact ⟨rfl, rfl⟩))
    (fun os started H enc _ => lifted os started H enc)
/-- ████ THE STATEMENT ████ -/
theorem proved : Rows.AllocateFitsSaid :=
  over
#print axioms proved
end Go.Proofs.Yteopfmnnhlhbmaa.allocateFits