/-
  PROVED: 'Rows.CostComparesSaid': CostCompares returns true for all limits. No condition.
-/
import Derived.OpenShut
import Derived.ProofKit
import Derived.ShutString
import Derived.WalkKit
import Derived.Test.YthehakngpbjgjaaGreatRows
import Derived.Test.YthehakngpbjgjaaGreatGa23
import Derived.Test.YthehakngpbjgjaaGreatGa24
set_option linter.unusedSimpArgs false
set_option linter.unusedVariables false
set_option linter.constructorNameAsVariable false
set_option maxRecDepth 100000
set_option maxHeartbeats 4000000
namespace Go.Proofs.YthehakngpbjgjaaGreat.costCompares
open Go.ChangeShapes Go.WideShapes Go.ChangeAt Go.RowKit Go.Deep Go.Joins
open Go.ChangeMaps (open_string shut_string)
theorem own : ownKnob Tryz.prog.godebug = none := by kernel_rfl
theorem params_read : (Tryz.f4.params.toList.all fun t => Tryz.prog.readableRec t && decide (t < Tryz.prog.types.size)) = true := by kernel_rfl
theorem laid : laidOutB Tryz.prog = true := by kernel_rfl
theorem params_len : Tryz.f4.params.toList.length = 2 := by kernel_rfl
set_option maxRecDepth 100000 in
theorem open_limits {H : Type} {enc : TypeId × Value → H} {w : World} {base : Nat} {spare : Nat → Bool} {held : Bool} {r : Reach} {b0 : Nat} {v : Value} {d : DataW H} {p : List MemPlace}
    (hv : Value.okWide Tryz.prog w r b0 34 v) (h : DataW.Trod enc Tryz.prog w base spare held 34 v d p) : ∃ m n, VR (Sg.data (kP w)) (aK m n) v := by
  obtain ⟨v0, v1, y0, y1, n, rfl, _, _, h0, h1⟩ := open_agg2 (P := Tryz.prog) Tryz.underlying34 (by kernel_rfl) (by kernel_rfl) hv h
  obtain ⟨m0, e0, _, w0⟩ := DataW.trod_int (k := .i64) (by kernel_rfl) h0
  obtain ⟨m1, e1, _, w1⟩ := DataW.trod_int (k := .i64) (by kernel_rfl) h1
  simp only [List.cons.injEq, and_true] at e0 e1
  subst e0 e1
  exact ⟨m0, m1, ((aq.nil.cons (VR.n .i64 m1)).cons (VR.n .i64 m0)).agg⟩
set_option maxRecDepth 100000 in
theorem lifted (os : Os) (started : os.Started) (H : Type) (enc : TypeId × Value → H) :
    ReturnsInHanded {} Tryz.checked os 4 .any (Rows.costComparesSpec.pre6 enc Tryz.prog Tryz.f4 Rows.costComparesRow.domain false) (Rows.costComparesSpec.post enc Tryz.prog Tryz.f4 false true false false) := by
  refine nV (C := Tryz.checked) (k := 4) (f := Tryz.f4) (s := Rows.costComparesSpec) (tb := 4) own started (by kernel_rfl) Tryz.func4
    (ChangeSpec.witness6 (enc := enc) (C := Tryz.checked) false ⟨#[], #[.agg #[.int .i64 0, .int .i64 0], .agg #[.int .i64 0, .int .i64 0]], []⟩ 8 (by kernel_rfl) (by kernel_rfl) (by kernel_rfl) (by kernel_rfl))
    laid ?_ rfl ?_ (by kernel_rfl) Tryz.underlying4 ?_
  · intro t ht
    have := List.all_eq_true.1 params_read t ht
    rw [Bool.and_eq_true, decide_eq_true_eq] at this
    exact this
  · intro ds hds
    rw [params_len] at hds
    match ds, hds with
    | [a, b], _ => rfl
  · intro W base args ds p hval hA
    rw [Tryz.params4] at hA hval
    obtain ⟨v0, vs0, d0, ds0, p0, q0, hargs, rfl, rfl, h0, r0⟩ := trodAll_cons hA
    obtain ⟨v1, vs1, d1, ds1, p1, q1, rfl, rfl, rfl, h1, r1⟩ := trodAll_cons r0
    obtain ⟨rfl, rfl, rfl⟩ := trodAll_nil r1
    obtain rfl : args = #[v0, v1] := by cases args; simp_all
    obtain ⟨a0, b0, w0⟩ := open_limits (hval 0 _ v0 rfl rfl) h0
    obtain ⟨a1, b1, w1⟩ := open_limits (hval 1 _ v1 rfl rfl) h1
    exact eR (ej a0 b0 a1 b1) ((aq.nil.cons w1).cons w0)
theorem over : Rows.costComparesRow.holds Tryz.pinned (OpenSpec.ofChange Rows.costComparesSpec) :=
  OpenClaim.holds_of_wide 4 Tryz.f4 rfl rfl rfl rfl rfl rfl rfl ⟨rfl, rfl, rfl, rfl, rfl⟩ rfl rfl rfl rfl rfl (by kernel_rfl) Tryz.func4 (by kernel_rfl)
    (of_decide_eq_true (by kernel_rfl)) (by unfold Func.isWrapper; first | (rw [if_pos (by decide +kernel)]; kernel_rfl) | (rw [if_neg (by decide +kernel)]; exact ⟨rfl, rfl⟩))
    (fun os started H enc _ => lifted os started H enc)
/-- ████ THE STATEMENT ████ -/
theorem proved : Rows.CostComparesSaid :=
  over
#print axioms proved
end Go.Proofs.YthehakngpbjgjaaGreat.costCompares