/-
  PROVED: 'Rows.CostOrdersSaid': CostOrders returns true for all numbers. No condition.
-/
import Derived.OpenShut
import Derived.ProofKit
import Derived.ShutString
import Derived.WalkKit
import Derived.Test.YthehakngpbjgjaaGreatRows
import Derived.Test.YthehakngpbjgjaaGreatGb23
import Derived.Test.YthehakngpbjgjaaGreatGb24
set_option linter.unusedSimpArgs false
set_option linter.unusedVariables false
set_option linter.constructorNameAsVariable false
set_option maxRecDepth 100000
set_option maxHeartbeats 4000000
namespace Go.Proofs.YthehakngpbjgjaaGreat.costOrders
open Go.ChangeShapes Go.WideShapes Go.ChangeAt Go.RowKit Go.Deep Go.Joins
open Go.ChangeMaps (open_string shut_string)
theorem own : ownKnob Tryz.prog.godebug = none := by kernel_rfl
theorem params_read : (Tryz.f5.params.toList.all fun t => Tryz.prog.readableRec t && decide (t < Tryz.prog.types.size)) = true := by kernel_rfl
theorem laid : laidOutB Tryz.prog = true := by kernel_rfl
theorem params_len : Tryz.f5.params.toList.length = 1 := by kernel_rfl
theorem array6 {cs : Array Value} (h : cs.size = 6) : ∃ a b c d e f, cs = #[a, b, c, d, e, f] := by
  obtain ⟨l⟩ := cs
  match l, h with
  | [a, b, c, d, e, f], _ => exact ⟨a, b, c, d, e, f, rfl⟩
theorem cell_in {H : Type} {enc : TypeId × Value → H} {w : World} {base : Nat} {spare : Nat → Bool} {held : Bool} {n : Nat} {c : Value} {o : Option (DataW H × List MemPlace)} {N : Nat} {xs : List (DataW H × List MemPlace)} {i : Nat} (hx : xs.length = N) (hi : i < N) (h : DataW.trod enc Tryz.prog w base spare held n 37 [c] = xs[i]?) : ∃ a, c = .int .u32 a ∧ aW a := by
  rw [List.getElem?_eq_getElem (by omega)] at h
  obtain ⟨m, e, _, w0⟩ := DataW.trod_int (k := .u32) (by kernel_rfl) h
  simp only [List.cons.injEq, and_true] at e
  have := nP w0
  exact ⟨m, e, by omega, by omega⟩
set_option maxRecDepth 100000 in
theorem open_six {H : Type} {enc : TypeId × Value → H} {w : World} {base : Nat} {spare : Nat → Bool} {held : Bool} {r : Reach} {b0 : Nat} {v : Value} {d : DataW H} {p : List MemPlace}
    (hv : Value.okWide Tryz.prog w r b0 39 v) (h : DataW.Trod enc Tryz.prog w base spare held 39 v d p) : ∃ a b c d p q, aW a ∧ aW b ∧ aW c ∧ aW d ∧ aW p ∧ aW q ∧ VR (Sg.data (lh w)) (.agg [.n .u32 a, .n .u32 b, .n .u32 c, .n .u32 d, .n .u32 p, .n .u32 q]) v := by
  have hu : Tryz.prog.underlying 39 = some (.array 3 38) := by kernel_rfl
  have hu2 : Tryz.prog.underlying 38 = some (.array 2 37) := by kernel_rfl
  have hc : Tryz.prog.cellsOf 39 = 6 := by kernel_rfl
  have hc2 : Tryz.prog.cellsOf 38 = 2 := by kernel_rfl
  have hc1 : Tryz.prog.cellsOf 37 = 1 := by kernel_rfl
  obtain ⟨cs, rfl, hsz⟩ : ∃ cs, v = .agg cs ∧ cs.size = 6 := by
    simp only [Value.okWide, hu] at hv
    obtain ⟨cs, h1, h2, _⟩ := hv
    exact ⟨cs, h1, h2.trans hc⟩
  obtain ⟨v0, v1, v2, v3, v4, v5, rfl⟩ := array6 hsz
  obtain ⟨fuel, hf⟩ := h
  obtain ⟨xs, m, rfl, _, _, hxs, hi⟩ := DataW.trod_array hu hf
  have key : ∀ i, i < 3 → ∃ (x y : Value) (a b : Int), (([v0, v1, v2, v3, v4, v5].drop (i * 2)).take 2) = [x, y] ∧ x = .int .u32 a ∧ y = .int .u32 b ∧ aW a ∧ aW b := fun i hlt => by
    have h2 := hi i hlt
    rw [hc2, List.getElem?_eq_getElem (by omega)] at h2
    obtain ⟨ys, m2, rfl, _, hl2, hys, hj⟩ := DataW.trod_array hu2 h2
    obtain ⟨x, y, exy⟩ : ∃ x y, (([v0, v1, v2, v3, v4, v5].drop (i * 2)).take 2) = [x, y] := by
      rcases (show i = 0 ∨ i = 1 ∨ i = 2 by omega) with rfl | rfl | rfl <;> exact ⟨_, _, rfl⟩
    have e0 := hj 0 (by omega)
    have e1 := hj 1 (by omega)
    change DataW.trod enc Tryz.prog w base spare held m2 37 ((((([v0, v1, v2, v3, v4, v5] : List Value).drop (i * 2)).take 2).drop (0 * Tryz.prog.cellsOf 37)).take (Tryz.prog.cellsOf 37)) = _ at e0
    change DataW.trod enc Tryz.prog w base spare held m2 37 ((((([v0, v1, v2, v3, v4, v5] : List Value).drop (i * 2)).take 2).drop (1 * Tryz.prog.cellsOf 37)).take (Tryz.prog.cellsOf 37)) = _ at e1
    rw [exy, hc1] at e0 e1
    obtain ⟨a, ea, ia⟩ := cell_in (o := none) hys (by omega) e0
    obtain ⟨b, eb, ib⟩ := cell_in (o := none) hys (by omega) e1
    exact ⟨x, y, a, b, exy, ea, eb, ia, ib⟩
  obtain ⟨x, y, a, b, e1, e2, e3, i1, i2⟩ := key 0 (by omega)
  obtain ⟨x', y', a', b', e1', e2', e3', i1', i2'⟩ := key 1 (by omega)
  obtain ⟨x2, y2, a2, b2, e12, e22, e32, i12, i22⟩ := key 2 (by omega)
  simp only [Nat.reduceMul, List.drop_zero, List.drop_succ_cons, List.take_succ_cons, List.take_zero, List.cons.injEq, and_true] at e1 e1' e12
  obtain ⟨rfl, rfl⟩ := e1
  obtain ⟨rfl, rfl⟩ := e1'
  obtain ⟨rfl, rfl⟩ := e12
  subst e2 e3 e2' e3' e22 e32
  exact ⟨a, b, a', b', a2, b2, i1, i2, i1', i2', i12, i22, (((((((ao.nil.cons (VR.n .u32 b2)).cons (VR.n .u32 a2)).cons (VR.n .u32 b')).cons (VR.n .u32 a')).cons (VR.n .u32 b)).cons (VR.n .u32 a))).agg⟩
set_option maxRecDepth 100000 in
theorem lifted (os : Os) (started : os.Started) (H : Type) (enc : TypeId × Value → H) :
    ReturnsInHanded {} Tryz.checked os 5 .any (Rows.costOrdersSpec.pre6 enc Tryz.prog Tryz.f5 Rows.costOrdersRow.domain false) (Rows.costOrdersSpec.post enc Tryz.prog Tryz.f5 false true false false) := by
  refine oq (C := Tryz.checked) (k := 5) (f := Tryz.f5) (s := Rows.costOrdersSpec) (tb := 4) own started (by kernel_rfl) Tryz.func5
    (ChangeSpec.witness6 (enc := enc) (C := Tryz.checked) false ⟨#[], #[.agg #[.int .u32 0, .int .u32 0, .int .u32 0, .int .u32 0, .int .u32 0, .int .u32 0]], []⟩ 8 (by kernel_rfl) (by kernel_rfl) (by kernel_rfl) (by kernel_rfl))
    laid ?_ rfl ?_ (by kernel_rfl) Tryz.underlying4 ?_
  · intro t ht
    have := List.all_eq_true.1 params_read t ht
    rw [Bool.and_eq_true, decide_eq_true_eq] at this
    exact this
  · intro ds hds
    rw [params_len] at hds
    match ds, hds with
    | [a], _ => rfl
  · intro W base args ds p hval hA
    rw [Tryz.params5] at hA hval
    obtain ⟨v0, vs0, d0, ds0, p0, q0, hargs, rfl, rfl, h0, r0⟩ := trodAll_cons hA
    obtain ⟨rfl, rfl, rfl⟩ := trodAll_nil r0
    obtain rfl : args = #[v0] := by cases args; simp_all
    obtain ⟨a, b, c, d, p, q, i1, i2, i3, i4, i5, i6, w0⟩ := open_six (hval 0 _ v0 rfl rfl) h0
    exact eX (fG a b c d p q i1 i2 i3 i4 i5 i6) (ao.nil.cons w0)
theorem over : Rows.costOrdersRow.holds Tryz.pinned (OpenSpec.ofChange Rows.costOrdersSpec) :=
  OpenClaim.holds_of_wide 5 Tryz.f5 rfl rfl rfl rfl rfl rfl rfl ⟨rfl, rfl, rfl, rfl, rfl⟩ rfl rfl rfl rfl rfl (by kernel_rfl) Tryz.func5 (by kernel_rfl)
    (of_decide_eq_true (by kernel_rfl)) (by unfold Func.isWrapper; first | (rw [if_pos (by decide +kernel)]; kernel_rfl) | (rw [if_neg (by decide +kernel)]; exact ⟨rfl, rfl⟩))
    (fun os started H enc _ => lifted os started H enc)
/-- ████ THE STATEMENT ████ -/
theorem proved : Rows.CostOrdersSaid :=
  over
#print axioms proved
end Go.Proofs.YthehakngpbjgjaaGreat.costOrders