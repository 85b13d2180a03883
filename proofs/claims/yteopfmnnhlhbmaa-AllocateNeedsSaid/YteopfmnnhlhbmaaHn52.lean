/-
  PROVED: 'Rows.AllocateNeedsSaid': AllocateNeeds returns true for all code and numbers. No condition.
-/
import Derived.OpenShut
import Derived.ProofKit
import Derived.ShutString
import Derived.WalkKit
import Derived.Test.YteopfmnnhlhbmaaRows
import Derived.Test.YteopfmnnhlhbmaaHn48
import Derived.Test.YteopfmnnhlhbmaaHn51
set_option linter.unusedSimpArgs false
set_option linter.unusedVariables false
set_option linter.constructorNameAsVariable false
set_option maxRecDepth 100000
set_option maxHeartbeats 4000000
namespace Go.Proofs.Yteopfmnnhlhbmaa.allocateNeeds
open Go.ChangeShapes Go.WideShapes Go.ChangeAt Go.RowKit
open Go.ChangeMaps (open_string shut_string)
theorem own : ownKnob Try.prog.godebug = none := by kernel_rfl
theorem params_read : (Try.f7.params.toList.all fun t => Try.prog.readableRec t && decide (t < Try.prog.types.size)) = true := by kernel_rfl
theorem laid : laidOutB Try.prog = true := by kernel_rfl
theorem params_len : Try.f7.params.toList.length = 3 := by kernel_rfl
set_option maxRecDepth 100000 in
theorem lifted (os : Os) (started : os.Started) (H : Type) (enc : TypeId × Value → H) :
    ReturnsInHanded {} Try.checked os 7 .any (Rows.allocateNeedsSpec.pre6 enc Try.prog Try.f7 Rows.allocateNeedsRow.domain false) (Rows.allocateNeedsSpec.post enc Try.prog Try.f7 false true false false) := by
  refine Bl (C := Try.checked) (k := 7) (f := Try.f7) (s := Rows.allocateNeedsSpec) (tb := 4) own started (by kernel_rfl) Try.func7
    (ChangeSpec.witness6 (enc := enc) (C := Try.checked) false ⟨#[], #[.agg #[.slice none 0 0, .int .i64 0, .int .i64 0, .slice none 0 0], .int .u8 0, .int .u8 0], []⟩ 8 (by kernel_rfl) (by kernel_rfl) (by kernel_rfl) (by kernel_rfl))
    laid ?_ rfl ?_ (by kernel_rfl) Try.underlying4 ?_
  · intro t ht
    have := List.all_eq_true.1 params_read t ht
    rw [Bool.and_eq_true, decide_eq_true_eq] at this
    exact this
  · intro ds hds
    rw [params_len] at hds
    match ds, hds with
    | [a, b, c], _ => rfl
  · intro W base args ds p hval hA
    rw [Try.params7] at hA hval
    obtain ⟨v0, vs0, d0, ds0, p0, q0, hargs, rfl, rfl, h0, r0⟩ := trodAll_cons hA
    obtain ⟨v1, vs1, d1, ds1, p1, q1, rfl, rfl, rfl, h1, r1⟩ := trodAll_cons r0
    obtain ⟨v2, vs2, d2, ds2, p2, q2, rfl, rfl, rfl, h2, r2⟩ := trodAll_cons r1
    obtain ⟨rfl, rfl, rfl⟩ := trodAll_nil r2
    obtain rfl : args = #[v0, v1, v2] := by cases args; simp_all
    obtain ⟨la, regs, par, cs, hv, ok⟩ := rU (hval 0 _ v0 rfl rfl) h0
    obtain ⟨a1, rfl, rfl, rfl, w1⟩ := open_int Try.underlying5 (hval 1 _ v1 rfl rfl) h1
    obtain ⟨a2, rfl, rfl, rfl, w2⟩ := open_int Try.underlying5 (hval 2 _ v2 rfl rfl) h2
    have hb1 := wM w1
    have hb2 := wM w2
    obtain ⟨k1, rfl⟩ : ∃ k : Nat, a1 = k := ⟨a1.toNat, by omega⟩
    obtain ⟨k2, rfl⟩ : ∃ k : Nat, a2 = k := ⟨a2.toNat, by omega⟩
    exact qy (x7 la regs par cs ok k1 k2 (by omega) (by omega)) (((bw.nil.cons (VR.n .u8 (k2 : Int))).cons (VR.n .u8 (k1 : Int))).cons hv.hd)
theorem over : Rows.allocateNeedsRow.holds Try.pinned (OpenSpec.ofChange Rows.allocateNeedsSpec) :=
  OpenClaim.holds_of_wide 7 Try.f7 rfl rfl rfl rfl rfl rfl rfl ⟨rfl, rfl, rfl, rfl, rfl⟩ rfl rfl rfl rfl rfl (by kernel_rfl) Try.func7 (by kernel_rfl)
    (of_decide_eq_true (by kernel_rfl)) (by unfold Func.isWrapper; first | (rw [if_pos (by decide +kernel)]; kernel_rfl) | (rw [if_neg (by decide +kernel)]; exact ⟨rfl, rfl⟩))
    (fun os started H enc _ => lifted os started H enc)
/-- ████ THE STATEMENT ████ -/
theorem proved : Rows.AllocateNeedsSaid :=
  over
#print axioms proved
end Go.Proofs.Yteopfmnnhlhbmaa.allocateNeeds