/-
  No cell of these rows narrows 'for every input' (looked for: loops, veiled, ifaces, maps, wideKeys, modest, calm, conditions, laid).
  DERIVED. THE GIVEN ROWS OF THIS SEAT. 4 by the template 'for every input the law returns true; each argument reads behind the call as it read before'; 0 by the template 'total and deterministic' (their statements: YthehakngpbjgjaaGreatTotals.lean).
  GIVEN WITH THE SEED: the statements are not yours to turn. If you find one false, say at which input.
  Laid BY PROGRAM, IN A SANDBOX (cutbox-rows.mjs): the forced cells as the released guide's own fill.sh prints them over the translation 9d91b60b6ba81b46… (all of the seat's roots in one cut). By AI agents, Wed Nov 11 2026. No macro, syntax, notation, axiom, sorry.
-/
import Derived.Test.YthehakngpbjgjaaGreatChecked
import GoSem.Claim
import GoSem.ClaimJoined
import GoSem.ClaimMapViews
import Derived.JoinedTies
import Derived.KernelRfl
namespace Go.Proofs.YthehakngpbjgjaaGreat
/- THE CELL 'sum', in the pinned program and in every row, IS THE sha256 OF THE DUMP (.gsa) THAT YthehakngpbjgjaaGreatProg.lean LOADS. Nothing in Lean hashes anything: it is a label: what it is worth is what the hold of that sum in a sandbox is worth. -/
noncomputable def Tryz.pinned : Pinned := { name := "ythehakngpbjgjaagreat", sum := "9d91b60b6ba81b46259184cbd24feb73976b50a2408951cd36b2ab72d6b0e0a7", checked := Tryz.checked }
namespace Rows
def none {H : Type} : Left H := { results := [], args := [] }

/-- 'compactorlaw21.CostMemory': WHATEVER THE INPUT: true; the input reads as it did. -/
def costMemorySpec : ChangeSpec := { name := "costMemory", fn := fun _ => fun
  | [d] => { results := [.lit (.bool true)], args := [d] }
  | _ => none }
def costMemoryRow : OpenClaim := { program := "ythehakngpbjgjaagreat", sum := "9d91b60b6ba81b46259184cbd24feb73976b50a2408951cd36b2ab72d6b0e0a7", func := "compactor/compactorlaw21.CostMemory", spec := "costMemory", unfollowed := true, recurses := true, apart := false }
def CostMemorySaid : Prop := costMemoryRow.holds Tryz.pinned (OpenSpec.ofChange costMemorySpec)

/-- ITS FALSE NEIGHBOUR: 'it returns false'. Refute it at one input. -/
def costMemoryWrong : ChangeSpec := { name := "costMemory", fn := fun _ => fun
  | [d] => { results := [.lit (.bool false)], args := [d] }
  | _ => none }
def CostMemoryWrongFalsely : Prop := costMemoryRow.holds Tryz.pinned (OpenSpec.ofChange costMemoryWrong)

/-- 'compactorlaw21.CostCompares': WHATEVER THE INPUT: true; the input reads as it did. -/
def costComparesSpec : ChangeSpec := { name := "costCompares", fn := fun _ => fun
  | [d1, d2] => { results := [.lit (.bool true)], args := [d1, d2] }
  | _ => none }
def costComparesRow : OpenClaim := { program := "ythehakngpbjgjaagreat", sum := "9d91b60b6ba81b46259184cbd24feb73976b50a2408951cd36b2ab72d6b0e0a7", func := "compactor/compactorlaw21.CostCompares", spec := "costCompares", unfollowed := true, recurses := true, apart := false }
def CostComparesSaid : Prop := costComparesRow.holds Tryz.pinned (OpenSpec.ofChange costComparesSpec)

/-- ITS FALSE NEIGHBOUR: 'it returns false'. Refute it at one input. -/
def costComparesWrong : ChangeSpec := { name := "costCompares", fn := fun _ => fun
  | [d1, d2] => { results := [.lit (.bool false)], args := [d1, d2] }
  | _ => none }
def CostComparesWrongFalsely : Prop := costComparesRow.holds Tryz.pinned (OpenSpec.ofChange costComparesWrong)

/-- 'compactorlaw21.CostOrders': WHATEVER THE INPUT: true; the input reads as it did. -/
def costOrdersSpec : ChangeSpec := { name := "costOrders", fn := fun _ => fun
  | [d] => { results := [.lit (.bool true)], args := [d] }
  | _ => none }
def costOrdersRow : OpenClaim := { program := "ythehakngpbjgjaagreat", sum := "9d91b60b6ba81b46259184cbd24feb73976b50a2408951cd36b2ab72d6b0e0a7", func := "compactor/compactorlaw21.CostOrders", spec := "costOrders", unfollowed := true, recurses := true, apart := false }
def CostOrdersSaid : Prop := costOrdersRow.holds Tryz.pinned (OpenSpec.ofChange costOrdersSpec)

/-- ITS FALSE NEIGHBOUR: 'it returns false'. Refute it at one input. -/
def costOrdersWrong : ChangeSpec := { name := "costOrders", fn := fun _ => fun
  | [d] => { results := [.lit (.bool false)], args := [d] }
  | _ => none }
def CostOrdersWrongFalsely : Prop := costOrdersRow.holds Tryz.pinned (OpenSpec.ofChange costOrdersWrong)

/-- 'compactorlaw21.CostBounds': WHATEVER THE INPUT: true; the input reads as it did. -/
def costBoundsSpec : ChangeSpec := { name := "costBounds", fn := fun _ => fun
  | [d1, d2] => { results := [.lit (.bool true)], args := [d1, d2] }
  | _ => none }
def costBoundsRow : OpenClaim := { program := "ythehakngpbjgjaagreat", sum := "9d91b60b6ba81b46259184cbd24feb73976b50a2408951cd36b2ab72d6b0e0a7", func := "compactor/compactorlaw21.CostBounds", spec := "costBounds", unfollowed := true, recurses := true, apart := false }
def CostBoundsSaid : Prop := costBoundsRow.holds Tryz.pinned (OpenSpec.ofChange costBoundsSpec)

/-- ITS FALSE NEIGHBOUR: 'it returns false'. Refute it at one input. -/
def costBoundsWrong : ChangeSpec := { name := "costBounds", fn := fun _ => fun
  | [d1, d2] => { results := [.lit (.bool false)], args := [d1, d2] }
  | _ => none }
def CostBoundsWrongFalsely : Prop := costBoundsRow.holds Tryz.pinned (OpenSpec.ofChange costBoundsWrong)

/- THE SECOND FORM. 'bulk': how many values and letters a reading holds, each counted each time it is reached (what is shared counts as often as it is met; a slice's spare places count too). A statement '..UptoSaid' is the law's where the arguments, and the package variables that the reading takes, are together of bulk at most 1048576: NARROWER than '..Said'. Prove '..Said' where nothing that the law and all that it calls make is longer than what came in: it says more and counts as full. Else prove '..UptoSaid'. A law counts once. -/
mutual
def uptoBulk {H : Type} : DataW H → Nat
  | .lit (.string bytes) => bytes.length + 1
  | .lit _ => 1
  | .nil => 1
  | .ptr d => uptoBulk d + 1
  | .slice elems spare => uptoBulkAll elems + uptoBulkAll spare + 1
  | .agg parts => uptoBulkAll parts + 1
  | .iface _ d => uptoBulk d + 1
  | .map entries => uptoBulkEntries entries + 1
  | .held _ => 1
def uptoBulkAll {H : Type} : List (DataW H) → Nat
  | [] => 0
  | d :: r => uptoBulk d + uptoBulkAll r
def uptoBulkEntries {H : Type} : List (Lit × DataW H) → Nat
  | [] => 0
  | x :: r => uptoBulkEntry x + uptoBulkEntries r
def uptoBulkEntry {H : Type} : Lit × DataW H → Nat
  | (.string bytes, d) => bytes.length + uptoBulk d + 1
  | (_, d) => uptoBulk d + 1
 end
def uptoSmall : (H : Type) → List (DataW H) → Bool := fun _ ds => decide (uptoBulkAll ds ≤ 1048576)
def OpenSpec.upto (s : _root_.Go.ChangeSpec) : _root_.Go.OpenSpec := { _root_.Go.OpenSpec.ofChange s with cond := some uptoSmall }

/-- 'compactorlaw21.CostMemory', WHERE WHAT IT READS IS OF BULK AT MOST 1048576: true; the input reads as it did. -/
def costMemoryUptoRow : OpenClaim := { program := "ythehakngpbjgjaagreat", sum := "9d91b60b6ba81b46259184cbd24feb73976b50a2408951cd36b2ab72d6b0e0a7", func := "compactor/compactorlaw21.CostMemory", spec := "costMemory", unfollowed := true, recurses := true, apart := false, narrowed := true }
def CostMemoryUptoSaid : Prop := costMemoryUptoRow.holds Tryz.pinned (OpenSpec.upto costMemorySpec)

/-- 'compactorlaw21.CostCompares', WHERE WHAT IT READS IS OF BULK AT MOST 1048576: true; the input reads as it did. -/
def costComparesUptoRow : OpenClaim := { program := "ythehakngpbjgjaagreat", sum := "9d91b60b6ba81b46259184cbd24feb73976b50a2408951cd36b2ab72d6b0e0a7", func := "compactor/compactorlaw21.CostCompares", spec := "costCompares", unfollowed := true, recurses := true, apart := false, narrowed := true }
def CostComparesUptoSaid : Prop := costComparesUptoRow.holds Tryz.pinned (OpenSpec.upto costComparesSpec)

/-- 'compactorlaw21.CostOrders', WHERE WHAT IT READS IS OF BULK AT MOST 1048576: true; the input reads as it did. -/
def costOrdersUptoRow : OpenClaim := { program := "ythehakngpbjgjaagreat", sum := "9d91b60b6ba81b46259184cbd24feb73976b50a2408951cd36b2ab72d6b0e0a7", func := "compactor/compactorlaw21.CostOrders", spec := "costOrders", unfollowed := true, recurses := true, apart := false, narrowed := true }
def CostOrdersUptoSaid : Prop := costOrdersUptoRow.holds Tryz.pinned (OpenSpec.upto costOrdersSpec)

/-- 'compactorlaw21.CostBounds', WHERE WHAT IT READS IS OF BULK AT MOST 1048576: true; the input reads as it did. -/
def costBoundsUptoRow : OpenClaim := { program := "ythehakngpbjgjaagreat", sum := "9d91b60b6ba81b46259184cbd24feb73976b50a2408951cd36b2ab72d6b0e0a7", func := "compactor/compactorlaw21.CostBounds", spec := "costBounds", unfollowed := true, recurses := true, apart := false, narrowed := true }
def CostBoundsUptoSaid : Prop := costBoundsUptoRow.holds Tryz.pinned (OpenSpec.upto costBoundsSpec)

end Rows
end Go.Proofs.YthehakngpbjgjaaGreat
