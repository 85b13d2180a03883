/-
  PROVED: 'Rows.OptimizerPrunesSaid': OptimizerPrunes returns true for all code. No condition.
-/
import Derived.OpenShut
import Derived.ProofKit
import Derived.ShutString
import Derived.WalkKit
import Derived.Test.YtidhfimbnjaceaaGreatGp42
import Derived.Test.YtidhfimbnjaceaaGreatGp43
import Derived.Test.YtidhfimbnjaceaaGreatGp45
import Derived.Test.YtidhfimbnjaceaaGreatRows
set_option linter.unusedSimpArgs false
set_option linter.unusedVariables false
set_option linter.constructorNameAsVariable false
set_option maxRecDepth 100000
set_option maxHeartbeats 4000000
namespace Go.Proofs.YtidhfimbnjaceaaGreat
open Go.RowKit
set_option linter.unusedVariables false
theorem rPrune_full {la : List (Bool × Int)} {regs : Nat} {par : Int} {cs : List In} (hz : (chkD la regs par cs).2 = 0) (ha : argOk cs) : Has Tryz.prog 18 [codeV la.length (aC la) regs par cs] [.v (codeV la.length (aC la) regs par (pruC (livF regs cs) regs cs)), .v (.n .i64 0)] := by
 have h := chk_ok hz
 have hn := h.ncs
 have hA := h.nA
 have hr := h.nregs
 obtain ⟨hp, hpl, hsh, t, ht, hw, he⟩ := h.pt
 obtain ⟨L, hL⟩ := liv_some regs cs
 have hck := rcheck_has la regs par cs (by omega) (by omega) ha
 rw [hz] at hck
 have hpt := rpart_has cs t ht hw hn
 rw [← he] at hpt
 have hlv := rlive_has (na := la.length) (ra := aC la) (par := par) (Lf := L) (by omega) (by omega) hpt hpl (h.inOk ha) h.ptr (fun i hi => follow_in hi (h.ptr i hi).1) (by rw [liv_eq]; exact hL)
 have hf : pruC (livF regs cs) regs cs = dels (prGo L cs 0).length (prGo L cs 0) := by unfold pruC; rw [hL]
 rw [hf]
 exact rPrune_has (by omega) cC_aC (by omega) (by omega) hck hlv (fun x hx hi => idle_to (h.inC x hx) hi)
theorem lawPrunes (la : List (Bool × Int)) (regs par : Int) (cs : List In) (ha : argOk cs) : Has Tryz.prog 6 [codeV la.length (aC la) regs par cs] [.v (.b true)] := by
 refine lawPrunes_of ha fun hf hz => ?_
 have h := chk_ok hz
 have hr := h.nregs
 have hn := h.ncs
 have hA := h.nA
 obtain ⟨n, rfl⟩ : ∃ n : Nat, regs = (n : Int) := ⟨regs.toNat, by omega⟩
 obtain ⟨L, hL⟩ := liv_some n cs
 refine goodPrunes hf (Prune_full (livF n cs) hz ha hL fun _ => del_ok) (rPrune_full hz ha) ?_
 have := same_any la (by omega) n par (pruC (livF n cs) n cs) (pruC (livF n cs) n cs) (by have := pruC_len (fuel := livF n cs) (regs := n) (cs := cs); omega)
 rw [decide_eq_true rfl] at this
 exact this
end Go.Proofs.YtidhfimbnjaceaaGreat

namespace Go.Proofs.YtidhfimbnjaceaaGreat.optimizerPrunes
open Go.ChangeShapes Go.WideShapes Go.ChangeAt Go.RowKit
open Go.ChangeMaps (open_string shut_string)
set_option linter.unusedVariables false

theorem own : ownKnob Tryz.prog.godebug = none := by kernel_rfl
theorem params_read : (Tryz.f6.params.toList.all fun t => Tryz.prog.readableRec t && decide (t < Tryz.prog.types.size)) = true := by kernel_rfl
theorem laid : laidOutB Tryz.prog = true := by kernel_rfl
theorem params_len : Tryz.f6.params.toList.length = 1 := by kernel_rfl

set_option maxRecDepth 100000 in
theorem lifted (os : Os) (started : os.Started) (H : Type) (enc : TypeId × Value → H) :
    ReturnsInHanded {} Tryz.checked os 6 .any (Rows.optimizerPrunesSpec.pre6 enc Tryz.prog Tryz.f6 Rows.optimizerPrunesRow.domain false) (Rows.optimizerPrunesSpec.post enc Tryz.prog Tryz.f6 false true false false) := by
  refine law_row (C := Tryz.checked) (k := 6) (f := Tryz.f6) (s := Rows.optimizerPrunesSpec) (tb := 4) own started (by kernel_rfl) Tryz.func6
    (ChangeSpec.witness6 (enc := enc) (C := Tryz.checked) false ⟨#[], #[.agg #[.slice none 0 0, .int .i64 0, .int .i64 0, .slice none 0 0]], []⟩ 8 (by kernel_rfl) (by kernel_rfl) (by kernel_rfl) (by kernel_rfl))
    laid ?_ rfl ?_ (by kernel_rfl) Tryz.underlying4 ?_
  · intro t ht
    have := List.all_eq_true.1 params_read t ht
    rw [Bool.and_eq_true, decide_eq_true_eq] at this
    exact this
  · intro ds hds
    rw [params_len] at hds
    match ds, hds with
    | [a], _ => rfl
  · intro W base args ds p hval hA
    rw [Tryz.params6] at hA hval
    obtain ⟨v0, vs0, d0, ds0, p0, q0, hargs, rfl, rfl, h0, r0⟩ := trodAll_cons hA
    obtain ⟨rfl, rfl, rfl⟩ := trodAll_nil r0
    obtain rfl : args = #[v0] := by cases args; simp_all
    obtain ⟨la, regs, par, cs, hv, ok⟩ := open_codeD (hval 0 _ v0 rfl rfl) h0
    exact law_of_has (lawPrunes la regs par cs ok) hv

theorem over : Rows.optimizerPrunesRow.holds Tryz.pinned (OpenSpec.ofChange Rows.optimizerPrunesSpec) :=
  OpenClaim.holds_of_wide 6 Tryz.f6 rfl rfl rfl rfl rfl rfl rfl ⟨rfl, rfl, rfl, rfl, rfl⟩ rfl rfl rfl rfl rfl (by kernel_rfl) Tryz.func6 (by kernel_rfl)
    (of_decide_eq_true (by kernel_rfl)) (by unfold Func.isWrapper; first | (rw [if_pos (by decide +kernel)]; kernel_rfl) | (rw [if_neg (by decide +kernel)]; exact ⟨rfl, rfl⟩))
    (fun os started H enc _ => lifted os started H enc)

/-- ████ THE STATEMENT ████ -/
theorem proved : Rows.OptimizerPrunesSaid :=
  over
#print axioms proved
end Go.Proofs.YtidhfimbnjaceaaGreat.optimizerPrunes
