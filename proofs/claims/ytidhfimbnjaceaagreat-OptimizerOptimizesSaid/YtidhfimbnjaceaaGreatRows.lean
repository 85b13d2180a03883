/-
  No cell of these rows narrows 'for every input' (looked for: loops, veiled, ifaces, maps, wideKeys, modest, calm, conditions, laid).
  DERIVED. THE GIVEN ROWS OF THIS SEAT. 5 by the template 'for every input the law returns true; each argument reads behind the call as it read before'; 0 by the template 'total and deterministic' (their statements: YtidhfimbnjaceaaGreatTotals.lean).
  GIVEN WITH THE SEED: the statements are not yours to turn. If you find one false, say at which input.
  Laid BY PROGRAM, IN A SANDBOX (cutbox-rows.mjs): the forced cells as the released guide's own fill.sh prints them over the translation 0f5e620a331b3990… (all of the seat's roots in one cut). By AI agents, Wed Nov 11 2026. No macro, syntax, notation, axiom, sorry.
-/
import Derived.Test.YtidhfimbnjaceaaGreatChecked
import GoSem.Claim
import GoSem.ClaimJoined
import GoSem.ClaimMapViews
import Derived.JoinedTies
import Derived.KernelRfl
namespace Go.Proofs.YtidhfimbnjaceaaGreat
/- THE CELL 'sum', in the pinned program and in every row, IS THE sha256 OF THE DUMP (.gsa) THAT YtidhfimbnjaceaaGreatProg.lean LOADS. Nothing in Lean hashes anything: it is a label: what it is worth is what the hold of that sum in a sandbox is worth. -/
noncomputable def Tryz.pinned : Pinned := { name := "ytidhfimbnjaceaagreat", sum := "0f5e620a331b39905046a43a7893cd11ff1911da0cd1d6bb596e64ad990bb57c", checked := Tryz.checked }
namespace Rows
def none {H : Type} : Left H := { results := [], args := [] }

/-- 'compactorlaw24.OptimizerFolds': WHATEVER THE INPUT: true; the input reads as it did. -/
def optimizerFoldsSpec : ChangeSpec := { name := "optimizerFolds", fn := fun _ => fun
  | [d] => { results := [.lit (.bool true)], args := [d] }
  | _ => none }
def optimizerFoldsRow : OpenClaim := { program := "ytidhfimbnjaceaagreat", sum := "0f5e620a331b39905046a43a7893cd11ff1911da0cd1d6bb596e64ad990bb57c", func := "compactor/compactorlaw24.OptimizerFolds", spec := "optimizerFolds", unfollowed := true, recurses := true, apart := false }
def OptimizerFoldsSaid : Prop := optimizerFoldsRow.holds Tryz.pinned (OpenSpec.ofChange optimizerFoldsSpec)

/-- ITS FALSE NEIGHBOUR: 'it returns false'. Refute it at one input. -/
def optimizerFoldsWrong : ChangeSpec := { name := "optimizerFolds", fn := fun _ => fun
  | [d] => { results := [.lit (.bool false)], args := [d] }
  | _ => none }
def OptimizerFoldsWrongFalsely : Prop := optimizerFoldsRow.holds Tryz.pinned (OpenSpec.ofChange optimizerFoldsWrong)

/-- 'compactorlaw24.OptimizerCopies': WHATEVER THE INPUT: true; the input reads as it did. -/
def optimizerCopiesSpec : ChangeSpec := { name := "optimizerCopies", fn := fun _ => fun
  | [d] => { results := [.lit (.bool true)], args := [d] }
  | _ => none }
def optimizerCopiesRow : OpenClaim := { program := "ytidhfimbnjaceaagreat", sum := "0f5e620a331b39905046a43a7893cd11ff1911da0cd1d6bb596e64ad990bb57c", func := "compactor/compactorlaw24.OptimizerCopies", spec := "optimizerCopies", unfollowed := true, recurses := true, apart := false }
def OptimizerCopiesSaid : Prop := optimizerCopiesRow.holds Tryz.pinned (OpenSpec.ofChange optimizerCopiesSpec)

/-- ITS FALSE NEIGHBOUR: 'it returns false'. Refute it at one input. -/
def optimizerCopiesWrong : ChangeSpec := { name := "optimizerCopies", fn := fun _ => fun
  | [d] => { results := [.lit (.bool false)], args := [d] }
  | _ => none }
def OptimizerCopiesWrongFalsely : Prop := optimizerCopiesRow.holds Tryz.pinned (OpenSpec.ofChange optimizerCopiesWrong)

/-- 'compactorlaw24.OptimizerShares': WHATEVER THE INPUT: true; the input reads as it did. -/
def optimizerSharesSpec : ChangeSpec := { name := "optimizerShares", fn := fun _ => fun
  | [d] => { results := [.lit (.bool true)], args := [d] }
  | _ => none }
def optimizerSharesRow : OpenClaim := { program := "ytidhfimbnjaceaagreat", sum := "0f5e620a331b39905046a43a7893cd11ff1911da0cd1d6bb596e64ad990bb57c", func := "compactor/compactorlaw24.OptimizerShares", spec := "optimizerShares", unfollowed := true, recurses := true, apart := false }
def OptimizerSharesSaid : Prop := optimizerSharesRow.holds Tryz.pinned (OpenSpec.ofChange optimizerSharesSpec)

/-- ITS FALSE NEIGHBOUR: 'it returns false'. Refute it at one input. -/
def optimizerSharesWrong : ChangeSpec := { name := "optimizerShares", fn := fun _ => fun
  | [d] => { results := [.lit (.bool false)], args := [d] }
  | _ => none }
def OptimizerSharesWrongFalsely : Prop := optimizerSharesRow.holds Tryz.pinned (OpenSpec.ofChange optimizerSharesWrong)

/-- 'compactorlaw24.OptimizerPrunes': WHATEVER THE INPUT: true; the input reads as it did. -/
def optimizerPrunesSpec : ChangeSpec := { name := "optimizerPrunes", fn := fun _ => fun
  | [d] => { results := [.lit (.bool true)], args := [d] }
  | _ => none }
def optimizerPrunesRow : OpenClaim := { program := "ytidhfimbnjaceaagreat", sum := "0f5e620a331b39905046a43a7893cd11ff1911da0cd1d6bb596e64ad990bb57c", func := "compactor/compactorlaw24.OptimizerPrunes", spec := "optimizerPrunes", unfollowed := true, recurses := true, apart := false }
def OptimizerPrunesSaid : Prop := optimizerPrunesRow.holds Tryz.pinned (OpenSpec.ofChange optimizerPrunesSpec)

/-- ITS FALSE NEIGHBOUR: 'it returns false'. Refute it at one input. -/
def optimizerPrunesWrong : ChangeSpec := { name := "optimizerPrunes", fn := fun _ => fun
  | [d] => { results := [.lit (.bool false)], args := [d] }
  | _ => none }
def OptimizerPrunesWrongFalsely : Prop := optimizerPrunesRow.holds Tryz.pinned (OpenSpec.ofChange optimizerPrunesWrong)

/-- 'compactorlaw24.OptimizerOptimizes': WHATEVER THE INPUT: true; the input reads as it did. -/
def optimizerOptimizesSpec : ChangeSpec := { name := "optimizerOptimizes", fn := fun _ => fun
  | [d] => { results := [.lit (.bool true)], args := [d] }
  | _ => none }
def optimizerOptimizesRow : OpenClaim := { program := "ytidhfimbnjaceaagreat", sum := "0f5e620a331b39905046a43a7893cd11ff1911da0cd1d6bb596e64ad990bb57c", func := "compactor/compactorlaw24.OptimizerOptimizes", spec := "optimizerOptimizes", unfollowed := true, recurses := true, apart := false }
def OptimizerOptimizesSaid : Prop := optimizerOptimizesRow.holds Tryz.pinned (OpenSpec.ofChange optimizerOptimizesSpec)

/-- ITS FALSE NEIGHBOUR: 'it returns false'. Refute it at one input. -/
def optimizerOptimizesWrong : ChangeSpec := { name := "optimizerOptimizes", fn := fun _ => fun
  | [d] => { results := [.lit (.bool false)], args := [d] }
  | _ => none }
def OptimizerOptimizesWrongFalsely : Prop := optimizerOptimizesRow.holds Tryz.pinned (OpenSpec.ofChange optimizerOptimizesWrong)

/- THE SECOND FORM. 'bulk': how many values and letters a reading holds, each counted each time it is reached (what is shared counts as often as it is met; a slice's spare places count too). A statement '..UptoSaid' is the law's where the arguments, and the package variables that the reading takes, are together of bulk at most 1048576: NARROWER than '..Said'. Prove '..Said' where nothing that the law and all that it calls make is longer than what came in: it says more and counts as full. Else prove '..UptoSaid'. A law counts once. -/
mutual
def uptoBulk {H : Type} : DataW H → Nat
  | .lit (.string bytes) => bytes.length + 1
  | .lit _ => 1
  | .nil => 1
  | .ptr d => uptoBulk d + 1
  | .slice elems spare => uptoBulkAll elems + uptoBulkAll spare + 1
  | .agg parts => uptoBulkAll parts + 1
  | .iface _ d => uptoBulk d + 1
  | .map entries => uptoBulkEntries entries + 1
  | .held _ => 1
def uptoBulkAll {H : Type} : List (DataW H) → Nat
  | [] => 0
  | d :: r => uptoBulk d + uptoBulkAll r
def uptoBulkEntries {H : Type} : List (Lit × DataW H) → Nat
  | [] => 0
  | x :: r => uptoBulkEntry x + uptoBulkEntries r
def uptoBulkEntry {H : Type} : Lit × DataW H → Nat
  | (.string bytes, d) => bytes.length + uptoBulk d + 1
  | (_, d) => uptoBulk d + 1
 end
def uptoSmall : (H : Type) → List (DataW H) → Bool := fun _ ds => decide (uptoBulkAll ds ≤ 1048576)
def OpenSpec.upto (s : _root_.Go.ChangeSpec) : _root_.Go.OpenSpec := { _root_.Go.OpenSpec.ofChange s with cond := some uptoSmall }

/-- 'compactorlaw24.OptimizerFolds', WHERE WHAT IT READS IS OF BULK AT MOST 1048576: true; the input reads as it did. -/
def optimizerFoldsUptoRow : OpenClaim := { program := "ytidhfimbnjaceaagreat", sum := "0f5e620a331b39905046a43a7893cd11ff1911da0cd1d6bb596e64ad990bb57c", func := "compactor/compactorlaw24.OptimizerFolds", spec := "optimizerFolds", unfollowed := true, recurses := true, apart := false, narrowed := true }
def OptimizerFoldsUptoSaid : Prop := optimizerFoldsUptoRow.holds Tryz.pinned (OpenSpec.upto optimizerFoldsSpec)

/-- 'compactorlaw24.OptimizerCopies', WHERE WHAT IT READS IS OF BULK AT MOST 1048576: true; the input reads as it did. -/
def optimizerCopiesUptoRow : OpenClaim := { program := "ytidhfimbnjaceaagreat", sum := "0f5e620a331b39905046a43a7893cd11ff1911da0cd1d6bb596e64ad990bb57c", func := "compactor/compactorlaw24.OptimizerCopies", spec := "optimizerCopies", unfollowed := true, recurses := true, apart := false, narrowed := true }
def OptimizerCopiesUptoSaid : Prop := optimizerCopiesUptoRow.holds Tryz.pinned (OpenSpec.upto optimizerCopiesSpec)

/-- 'compactorlaw24.OptimizerShares', WHERE WHAT IT READS IS OF BULK AT MOST 1048576: true; the input reads as it did. -/
def optimizerSharesUptoRow : OpenClaim := { program := "ytidhfimbnjaceaagreat", sum := "0f5e620a331b39905046a43a7893cd11ff1911da0cd1d6bb596e64ad990bb57c", func := "compactor/compactorlaw24.OptimizerShares", spec := "optimizerShares", unfollowed := true, recurses := true, apart := false, narrowed := true }
def OptimizerSharesUptoSaid : Prop := optimizerSharesUptoRow.holds Tryz.pinned (OpenSpec.upto optimizerSharesSpec)

/-- 'compactorlaw24.OptimizerPrunes', WHERE WHAT IT READS IS OF BULK AT MOST 1048576: true; the input reads as it did. -/
def optimizerPrunesUptoRow : OpenClaim := { program := "ytidhfimbnjaceaagreat", sum := "0f5e620a331b39905046a43a7893cd11ff1911da0cd1d6bb596e64ad990bb57c", func := "compactor/compactorlaw24.OptimizerPrunes", spec := "optimizerPrunes", unfollowed := true, recurses := true, apart := false, narrowed := true }
def OptimizerPrunesUptoSaid : Prop := optimizerPrunesUptoRow.holds Tryz.pinned (OpenSpec.upto optimizerPrunesSpec)

/-- 'compactorlaw24.OptimizerOptimizes', WHERE WHAT IT READS IS OF BULK AT MOST 1048576: true; the input reads as it did. -/
def optimizerOptimizesUptoRow : OpenClaim := { program := "ytidhfimbnjaceaagreat", sum := "0f5e620a331b39905046a43a7893cd11ff1911da0cd1d6bb596e64ad990bb57c", func := "compactor/compactorlaw24.OptimizerOptimizes", spec := "optimizerOptimizes", unfollowed := true, recurses := true, apart := false, narrowed := true }
def OptimizerOptimizesUptoSaid : Prop := optimizerOptimizesUptoRow.holds Tryz.pinned (OpenSpec.upto optimizerOptimizesSpec)

end Rows
end Go.Proofs.YtidhfimbnjaceaaGreat
