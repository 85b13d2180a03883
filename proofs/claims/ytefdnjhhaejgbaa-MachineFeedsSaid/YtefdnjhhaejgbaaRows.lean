/-
  No cell of these rows narrows 'for every input' (looked for: loops, veiled, ifaces, maps, wideKeys, modest, calm, conditions, laid).
  DERIVED. THE GIVEN ROWS OF THIS SEAT. 6 by the template 'for every input the law returns true; each argument reads behind the call as it read before'; 0 by the template 'total and deterministic' (their statements: YtefdnjhhaejgbaaTotals.lean).
  GIVEN WITH THE SEED: the statements are not yours to turn. If you find one false, say at which input.
  Laid BY PROGRAM, IN A SANDBOX (cutbox-rows.mjs): the forced cells as the released guide's own fill.sh prints them over the translation 421527f472128127… (all of the seat's roots in one cut). By AI agents, Wed Nov 11 2026. No macro, syntax, notation, axiom, sorry.
-/
import Derived.Test.YtefdnjhhaejgbaaChecked
import GoSem.Claim
import GoSem.ClaimJoined
import GoSem.ClaimMapViews
import Derived.JoinedTies
import Derived.KernelRfl
namespace Go.Proofs.Ytefdnjhhaejgbaa
/- THE CELL 'sum', in the pinned program and in every row, IS THE sha256 OF THE DUMP (.gsa) THAT YtefdnjhhaejgbaaProg.lean LOADS. Nothing in Lean hashes anything: it is a label: what it is worth is what the hold of that sum in a sandbox is worth. -/
noncomputable def Try.pinned : Pinned := { name := "ytefdnjhhaejgbaa", sum := "421527f4721281275f222fd51fa64d449fa7f03f0b48552e7012a8624b779b59", checked := Try.checked }
namespace Rows
def none {H : Type} : Left H := { results := [], args := [] }

/-- 'compactorlaw26.MachineStarts': WHATEVER THE INPUT: true; the input reads as it did. -/
def machineStartsSpec : ChangeSpec := { name := "machineStarts", fn := fun _ => fun
  | [d] => { results := [.lit (.bool true)], args := [d] }
  | _ => none }
def machineStartsRow : OpenClaim := { program := "ytefdnjhhaejgbaa", sum := "421527f4721281275f222fd51fa64d449fa7f03f0b48552e7012a8624b779b59", func := "compactor/compactorlaw26.MachineStarts", spec := "machineStarts", unfollowed := true, recurses := true, apart := false }
def MachineStartsSaid : Prop := machineStartsRow.holds Try.pinned (OpenSpec.ofChange machineStartsSpec)

/-- ITS FALSE NEIGHBOUR: 'it returns false'. Refute it at one input. -/
def machineStartsWrong : ChangeSpec := { name := "machineStarts", fn := fun _ => fun
  | [d] => { results := [.lit (.bool false)], args := [d] }
  | _ => none }
def MachineStartsWrongFalsely : Prop := machineStartsRow.holds Try.pinned (OpenSpec.ofChange machineStartsWrong)

/-- 'compactorlaw26.MachineRuns': WHATEVER THE INPUT: true; the input reads as it did. -/
def machineRunsSpec : ChangeSpec := { name := "machineRuns", fn := fun _ => fun
  | [d1, d2, d3] => { results := [.lit (.bool true)], args := [d1, d2, d3] }
  | _ => none }
def machineRunsRow : OpenClaim := { program := "ytefdnjhhaejgbaa", sum := "421527f4721281275f222fd51fa64d449fa7f03f0b48552e7012a8624b779b59", func := "compactor/compactorlaw26.MachineRuns", spec := "machineRuns", unfollowed := true, recurses := true, apart := false }
def MachineRunsSaid : Prop := machineRunsRow.holds Try.pinned (OpenSpec.ofChange machineRunsSpec)

/-- ITS FALSE NEIGHBOUR: 'it returns false'. Refute it at one input. -/
def machineRunsWrong : ChangeSpec := { name := "machineRuns", fn := fun _ => fun
  | [d1, d2, d3] => { results := [.lit (.bool false)], args := [d1, d2, d3] }
  | _ => none }
def MachineRunsWrongFalsely : Prop := machineRunsRow.holds Try.pinned (OpenSpec.ofChange machineRunsWrong)

/-- 'compactorlaw26.MachineNeeds': WHATEVER THE INPUT: true; the input reads as it did. -/
def machineNeedsSpec : ChangeSpec := { name := "machineNeeds", fn := fun _ => fun
  | [d1, d2, d3] => { results := [.lit (.bool true)], args := [d1, d2, d3] }
  | _ => none }
def machineNeedsRow : OpenClaim := { program := "ytefdnjhhaejgbaa", sum := "421527f4721281275f222fd51fa64d449fa7f03f0b48552e7012a8624b779b59", func := "compactor/compactorlaw26.MachineNeeds", spec := "machineNeeds", unfollowed := true, recurses := true, apart := false }
def MachineNeedsSaid : Prop := machineNeedsRow.holds Try.pinned (OpenSpec.ofChange machineNeedsSpec)

/-- ITS FALSE NEIGHBOUR: 'it returns false'. Refute it at one input. -/
def machineNeedsWrong : ChangeSpec := { name := "machineNeeds", fn := fun _ => fun
  | [d1, d2, d3] => { results := [.lit (.bool false)], args := [d1, d2, d3] }
  | _ => none }
def MachineNeedsWrongFalsely : Prop := machineNeedsRow.holds Try.pinned (OpenSpec.ofChange machineNeedsWrong)

/-- 'compactorlaw26.MachineCalculates': WHATEVER THE INPUT: true; the input reads as it did. -/
def machineCalculatesSpec : ChangeSpec := { name := "machineCalculates", fn := fun _ => fun
  | [d1, d2, d3] => { results := [.lit (.bool true)], args := [d1, d2, d3] }
  | _ => none }
def machineCalculatesRow : OpenClaim := { program := "ytefdnjhhaejgbaa", sum := "421527f4721281275f222fd51fa64d449fa7f03f0b48552e7012a8624b779b59", func := "compactor/compactorlaw26.MachineCalculates", spec := "machineCalculates", unfollowed := true, recurses := true, apart := false }
def MachineCalculatesSaid : Prop := machineCalculatesRow.holds Try.pinned (OpenSpec.ofChange machineCalculatesSpec)

/-- ITS FALSE NEIGHBOUR: 'it returns false'. Refute it at one input. -/
def machineCalculatesWrong : ChangeSpec := { name := "machineCalculates", fn := fun _ => fun
  | [d1, d2, d3] => { results := [.lit (.bool false)], args := [d1, d2, d3] }
  | _ => none }
def MachineCalculatesWrongFalsely : Prop := machineCalculatesRow.holds Try.pinned (OpenSpec.ofChange machineCalculatesWrong)

/-- 'compactorlaw26.MachineFeeds': WHATEVER THE INPUT: true; the input reads as it did. -/
def machineFeedsSpec : ChangeSpec := { name := "machineFeeds", fn := fun _ => fun
  | [d1, d2, d3] => { results := [.lit (.bool true)], args := [d1, d2, d3] }
  | _ => none }
def machineFeedsRow : OpenClaim := { program := "ytefdnjhhaejgbaa", sum := "421527f4721281275f222fd51fa64d449fa7f03f0b48552e7012a8624b779b59", func := "compactor/compactorlaw26.MachineFeeds", spec := "machineFeeds", unfollowed := true, recurses := true, apart := false }
def MachineFeedsSaid : Prop := machineFeedsRow.holds Try.pinned (OpenSpec.ofChange machineFeedsSpec)

/-- ITS FALSE NEIGHBOUR: 'it returns false'. Refute it at one input. -/
def machineFeedsWrong : ChangeSpec := { name := "machineFeeds", fn := fun _ => fun
  | [d1, d2, d3] => { results := [.lit (.bool false)], args := [d1, d2, d3] }
  | _ => none }
def MachineFeedsWrongFalsely : Prop := machineFeedsRow.holds Try.pinned (OpenSpec.ofChange machineFeedsWrong)

/-- 'compactorlaw26.MachineDivides': WHATEVER THE INPUT: true; the input reads as it did. -/
def machineDividesSpec : ChangeSpec := { name := "machineDivides", fn := fun _ => fun
  | [d1, d2] => { results := [.lit (.bool true)], args := [d1, d2] }
  | _ => none }
def machineDividesRow : OpenClaim := { program := "ytefdnjhhaejgbaa", sum := "421527f4721281275f222fd51fa64d449fa7f03f0b48552e7012a8624b779b59", func := "compactor/compactorlaw26.MachineDivides", spec := "machineDivides", unfollowed := true, recurses := true, apart := false }
def MachineDividesSaid : Prop := machineDividesRow.holds Try.pinned (OpenSpec.ofChange machineDividesSpec)

/-- ITS FALSE NEIGHBOUR: 'it returns false'. Refute it at one input. -/
def machineDividesWrong : ChangeSpec := { name := "machineDivides", fn := fun _ => fun
  | [d1, d2] => { results := [.lit (.bool false)], args := [d1, d2] }
  | _ => none }
def MachineDividesWrongFalsely : Prop := machineDividesRow.holds Try.pinned (OpenSpec.ofChange machineDividesWrong)

/- THE SECOND FORM. 'bulk': how many values and letters a reading holds, each counted each time it is reached (what is shared counts as often as it is met; a slice's spare places count too). A statement '..UptoSaid' is the law's where the arguments, and the package variables that the reading takes, are together of bulk at most 1048576: NARROWER than '..Said'. Prove '..Said' where nothing that the law and all that it calls make is longer than what came in: it says more and counts as full. Else prove '..UptoSaid'. A law counts once. -/
mutual
def uptoBulk {H : Type} : DataW H → Nat
  | .lit (.string bytes) => bytes.length + 1
  | .lit _ => 1
  | .nil => 1
  | .ptr d => uptoBulk d + 1
  | .slice elems spare => uptoBulkAll elems + uptoBulkAll spare + 1
  | .agg parts => uptoBulkAll parts + 1
  | .iface _ d => uptoBulk d + 1
  | .map entries => uptoBulkEntries entries + 1
  | .held _ => 1
def uptoBulkAll {H : Type} : List (DataW H) → Nat
  | [] => 0
  | d :: r => uptoBulk d + uptoBulkAll r
def uptoBulkEntries {H : Type} : List (Lit × DataW H) → Nat
  | [] => 0
  | x :: r => uptoBulkEntry x + uptoBulkEntries r
def uptoBulkEntry {H : Type} : Lit × DataW H → Nat
  | (.string bytes, d) => bytes.length + uptoBulk d + 1
  | (_, d) => uptoBulk d + 1
 end
def uptoSmall : (H : Type) → List (DataW H) → Bool := fun _ ds => decide (uptoBulkAll ds ≤ 1048576)
def OpenSpec.upto (s : _root_.Go.ChangeSpec) : _root_.Go.OpenSpec := { _root_.Go.OpenSpec.ofChange s with cond := some uptoSmall }

/-- 'compactorlaw26.MachineStarts', WHERE WHAT IT READS IS OF BULK AT MOST 1048576: true; the input reads as it did. -/
def machineStartsUptoRow : OpenClaim := { program := "ytefdnjhhaejgbaa", sum := "421527f4721281275f222fd51fa64d449fa7f03f0b48552e7012a8624b779b59", func := "compactor/compactorlaw26.MachineStarts", spec := "machineStarts", unfollowed := true, recurses := true, apart := false, narrowed := true }
def MachineStartsUptoSaid : Prop := machineStartsUptoRow.holds Try.pinned (OpenSpec.upto machineStartsSpec)

/-- 'compactorlaw26.MachineRuns', WHERE WHAT IT READS IS OF BULK AT MOST 1048576: true; the input reads as it did. -/
def machineRunsUptoRow : OpenClaim := { program := "ytefdnjhhaejgbaa", sum := "421527f4721281275f222fd51fa64d449fa7f03f0b48552e7012a8624b779b59", func := "compactor/compactorlaw26.MachineRuns", spec := "machineRuns", unfollowed := true, recurses := true, apart := false, narrowed := true }
def MachineRunsUptoSaid : Prop := machineRunsUptoRow.holds Try.pinned (OpenSpec.upto machineRunsSpec)

/-- 'compactorlaw26.MachineNeeds', WHERE WHAT IT READS IS OF BULK AT MOST 1048576: true; the input reads as it did. -/
def machineNeedsUptoRow : OpenClaim := { program := "ytefdnjhhaejgbaa", sum := "421527f4721281275f222fd51fa64d449fa7f03f0b48552e7012a8624b779b59", func := "compactor/compactorlaw26.MachineNeeds", spec := "machineNeeds", unfollowed := true, recurses := true, apart := false, narrowed := true }
def MachineNeedsUptoSaid : Prop := machineNeedsUptoRow.holds Try.pinned (OpenSpec.upto machineNeedsSpec)

/-- 'compactorlaw26.MachineCalculates', WHERE WHAT IT READS IS OF BULK AT MOST 1048576: true; the input reads as it did. -/
def machineCalculatesUptoRow : OpenClaim := { program := "ytefdnjhhaejgbaa", sum := "421527f4721281275f222fd51fa64d449fa7f03f0b48552e7012a8624b779b59", func := "compactor/compactorlaw26.MachineCalculates", spec := "machineCalculates", unfollowed := true, recurses := true, apart := false, narrowed := true }
def MachineCalculatesUptoSaid : Prop := machineCalculatesUptoRow.holds Try.pinned (OpenSpec.upto machineCalculatesSpec)

/-- 'compactorlaw26.MachineFeeds', WHERE WHAT IT READS IS OF BULK AT MOST 1048576: true; the input reads as it did. -/
def machineFeedsUptoRow : OpenClaim := { program := "ytefdnjhhaejgbaa", sum := "421527f4721281275f222fd51fa64d449fa7f03f0b48552e7012a8624b779b59", func := "compactor/compactorlaw26.MachineFeeds", spec := "machineFeeds", unfollowed := true, recurses := true, apart := false, narrowed := true }
def MachineFeedsUptoSaid : Prop := machineFeedsUptoRow.holds Try.pinned (OpenSpec.upto machineFeedsSpec)

/-- 'compactorlaw26.MachineDivides', WHERE WHAT IT READS IS OF BULK AT MOST 1048576: true; the input reads as it did. -/
def machineDividesUptoRow : OpenClaim := { program := "ytefdnjhhaejgbaa", sum := "421527f4721281275f222fd51fa64d449fa7f03f0b48552e7012a8624b779b59", func := "compactor/compactorlaw26.MachineDivides", spec := "machineDivides", unfollowed := true, recurses := true, apart := false, narrowed := true }
def MachineDividesUptoSaid : Prop := machineDividesUptoRow.holds Try.pinned (OpenSpec.upto machineDividesSpec)

end Rows
end Go.Proofs.Ytefdnjhhaejgbaa
