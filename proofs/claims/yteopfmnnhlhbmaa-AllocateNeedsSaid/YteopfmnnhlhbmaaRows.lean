/-
  No cell of these rows narrows 'for every input' (looked for: loops, veiled, ifaces, maps, wideKeys, modest, calm, conditions, laid).
  DERIVED. THE GIVEN ROWS OF THIS SEAT. 6 by the template 'for every input the law returns true; each argument reads behind the call as it read before'; 0 by the template 'total and deterministic' (their statements: YteopfmnnhlhbmaaTotals.lean).
  GIVEN WITH THE SEED: the statements are not yours to turn. If you find one false, say at which input.
  Laid BY PROGRAM, IN A SANDBOX (cutbox-rows.mjs): the forced cells as the released guide's own fill.sh prints them over the translation 359d6a08aa72f388… (all of the seat's roots in one cut). By AI agents, Wed Nov 11 2026. No macro, syntax, notation, axiom, sorry.
-/
import Derived.Test.YteopfmnnhlhbmaaChecked
import GoSem.Claim
import GoSem.ClaimJoined
import GoSem.ClaimMapViews
import Derived.JoinedTies
import Derived.KernelRfl
namespace Go.Proofs.Yteopfmnnhlhbmaa
/- THE CELL 'sum', in the pinned program and in every row, IS THE sha256 OF THE DUMP (.gsa) THAT YteopfmnnhlhbmaaProg.lean LOADS. Nothing in Lean hashes anything: it is a label: what it is worth is what the hold of that sum in a sandbox is worth. -/
noncomputable def Try.pinned : Pinned := { name := "yteopfmnnhlhbmaa", sum := "359d6a08aa72f388a9e95030d3f5007285503ea7993c25e9e52d5db4397a922d", checked := Try.checked }
namespace Rows
def none {H : Type} : Left H := { results := [], args := [] }

/-- 'compactorlaw25.AllocateLives': WHATEVER THE INPUT: true; the input reads as it did. -/
def allocateLivesSpec : ChangeSpec := { name := "allocateLives", fn := fun _ => fun
  | [d] => { results := [.lit (.bool true)], args := [d] }
  | _ => none }
def allocateLivesRow : OpenClaim := { program := "yteopfmnnhlhbmaa", sum := "359d6a08aa72f388a9e95030d3f5007285503ea7993c25e9e52d5db4397a922d", func := "compactor/compactorlaw25.AllocateLives", spec := "allocateLives", unfollowed := true, recurses := true, apart := false }
def AllocateLivesSaid : Prop := allocateLivesRow.holds Try.pinned (OpenSpec.ofChange allocateLivesSpec)

/-- ITS FALSE NEIGHBOUR: 'it returns false'. Refute it at one input. -/
def allocateLivesWrong : ChangeSpec := { name := "allocateLives", fn := fun _ => fun
  | [d] => { results := [.lit (.bool false)], args := [d] }
  | _ => none }
def AllocateLivesWrongFalsely : Prop := allocateLivesRow.holds Try.pinned (OpenSpec.ofChange allocateLivesWrong)

/-- 'compactorlaw25.AllocateSpills': WHATEVER THE INPUT: true; the input reads as it did. -/
def allocateSpillsSpec : ChangeSpec := { name := "allocateSpills", fn := fun _ => fun
  | [d1, d2] => { results := [.lit (.bool true)], args := [d1, d2] }
  | _ => none }
def allocateSpillsRow : OpenClaim := { program := "yteopfmnnhlhbmaa", sum := "359d6a08aa72f388a9e95030d3f5007285503ea7993c25e9e52d5db4397a922d", func := "compactor/compactorlaw25.AllocateSpills", spec := "allocateSpills", unfollowed := true, recurses := true, apart := false }
def AllocateSpillsSaid : Prop := allocateSpillsRow.holds Try.pinned (OpenSpec.ofChange allocateSpillsSpec)

/-- ITS FALSE NEIGHBOUR: 'it returns false'. Refute it at one input. -/
def allocateSpillsWrong : ChangeSpec := { name := "allocateSpills", fn := fun _ => fun
  | [d1, d2] => { results := [.lit (.bool false)], args := [d1, d2] }
  | _ => none }
def AllocateSpillsWrongFalsely : Prop := allocateSpillsRow.holds Try.pinned (OpenSpec.ofChange allocateSpillsWrong)

/-- 'compactorlaw25.AllocateCompacts': WHATEVER THE INPUT: true; the input reads as it did. -/
def allocateCompactsSpec : ChangeSpec := { name := "allocateCompacts", fn := fun _ => fun
  | [d] => { results := [.lit (.bool true)], args := [d] }
  | _ => none }
def allocateCompactsRow : OpenClaim := { program := "yteopfmnnhlhbmaa", sum := "359d6a08aa72f388a9e95030d3f5007285503ea7993c25e9e52d5db4397a922d", func := "compactor/compactorlaw25.AllocateCompacts", spec := "allocateCompacts", unfollowed := true, recurses := true, apart := false }
def AllocateCompactsSaid : Prop := allocateCompactsRow.holds Try.pinned (OpenSpec.ofChange allocateCompactsSpec)

/-- ITS FALSE NEIGHBOUR: 'it returns false'. Refute it at one input. -/
def allocateCompactsWrong : ChangeSpec := { name := "allocateCompacts", fn := fun _ => fun
  | [d] => { results := [.lit (.bool false)], args := [d] }
  | _ => none }
def AllocateCompactsWrongFalsely : Prop := allocateCompactsRow.holds Try.pinned (OpenSpec.ofChange allocateCompactsWrong)

/-- 'compactorlaw25.AllocateSettles': WHATEVER THE INPUT: true; the input reads as it did. -/
def allocateSettlesSpec : ChangeSpec := { name := "allocateSettles", fn := fun _ => fun
  | [d1, d2] => { results := [.lit (.bool true)], args := [d1, d2] }
  | _ => none }
def allocateSettlesRow : OpenClaim := { program := "yteopfmnnhlhbmaa", sum := "359d6a08aa72f388a9e95030d3f5007285503ea7993c25e9e52d5db4397a922d", func := "compactor/compactorlaw25.AllocateSettles", spec := "allocateSettles", unfollowed := true, recurses := true, apart := false }
def AllocateSettlesSaid : Prop := allocateSettlesRow.holds Try.pinned (OpenSpec.ofChange allocateSettlesSpec)

/-- ITS FALSE NEIGHBOUR: 'it returns false'. Refute it at one input. -/
def allocateSettlesWrong : ChangeSpec := { name := "allocateSettles", fn := fun _ => fun
  | [d1, d2] => { results := [.lit (.bool false)], args := [d1, d2] }
  | _ => none }
def AllocateSettlesWrongFalsely : Prop := allocateSettlesRow.holds Try.pinned (OpenSpec.ofChange allocateSettlesWrong)

/-- 'compactorlaw25.AllocateNeeds': WHATEVER THE INPUT: true; the input reads as it did. -/
def allocateNeedsSpec : ChangeSpec := { name := "allocateNeeds", fn := fun _ => fun
  | [d1, d2, d3] => { results := [.lit (.bool true)], args := [d1, d2, d3] }
  | _ => none }
def allocateNeedsRow : OpenClaim := { program := "yteopfmnnhlhbmaa", sum := "359d6a08aa72f388a9e95030d3f5007285503ea7993c25e9e52d5db4397a922d", func := "compactor/compactorlaw25.AllocateNeeds", spec := "allocateNeeds", unfollowed := true, recurses := true, apart := false }
def AllocateNeedsSaid : Prop := allocateNeedsRow.holds Try.pinned (OpenSpec.ofChange allocateNeedsSpec)

/-- ITS FALSE NEIGHBOUR: 'it returns false'. Refute it at one input. -/
def allocateNeedsWrong : ChangeSpec := { name := "allocateNeeds", fn := fun _ => fun
  | [d1, d2, d3] => { results := [.lit (.bool false)], args := [d1, d2, d3] }
  | _ => none }
def AllocateNeedsWrongFalsely : Prop := allocateNeedsRow.holds Try.pinned (OpenSpec.ofChange allocateNeedsWrong)

/-- 'compactorlaw25.AllocateFits': WHATEVER THE INPUT: true; the input reads as it did. -/
def allocateFitsSpec : ChangeSpec := { name := "allocateFits", fn := fun _ => fun
  | [d1, d2] => { results := [.lit (.bool true)], args := [d1, d2] }
  | _ => none }
def allocateFitsRow : OpenClaim := { program := "yteopfmnnhlhbmaa", sum := "359d6a08aa72f388a9e95030d3f5007285503ea7993c25e9e52d5db4397a922d", func := "compactor/compactorlaw25.AllocateFits", spec := "allocateFits", unfollowed := true, recurses := true, apart := false }
def AllocateFitsSaid : Prop := allocateFitsRow.holds Try.pinned (OpenSpec.ofChange allocateFitsSpec)

/-- ITS FALSE NEIGHBOUR: 'it returns false'. Refute it at one input. -/
def allocateFitsWrong : ChangeSpec := { name := "allocateFits", fn := fun _ => fun
  | [d1, d2] => { results := [.lit (.bool false)], args := [d1, d2] }
  | _ => none }
def AllocateFitsWrongFalsely : Prop := allocateFitsRow.holds Try.pinned (OpenSpec.ofChange allocateFitsWrong)

/- THE SECOND FORM. 'bulk': how many values and letters a reading holds, each counted each time it is reached (what is shared counts as often as it is met; a slice's spare places count too). A statement '..UptoSaid' is the law's where the arguments, and the package variables that the reading takes, are together of bulk at most 1048576: NARROWER than '..Said'. Prove '..Said' where nothing that the law and all that it calls make is longer than what came in: it says more and counts as full. Else prove '..UptoSaid'. A law counts once. -/
mutual
def uptoBulk {H : Type} : DataW H → Nat
  | .lit (.string bytes) => bytes.length + 1
  | .lit _ => 1
  | .nil => 1
  | .ptr d => uptoBulk d + 1
  | .slice elems spare => uptoBulkAll elems + uptoBulkAll spare + 1
  | .agg parts => uptoBulkAll parts + 1
  | .iface _ d => uptoBulk d + 1
  | .map entries => uptoBulkEntries entries + 1
  | .held _ => 1
def uptoBulkAll {H : Type} : List (DataW H) → Nat
  | [] => 0
  | d :: r => uptoBulk d + uptoBulkAll r
def uptoBulkEntries {H : Type} : List (Lit × DataW H) → Nat
  | [] => 0
  | x :: r => uptoBulkEntry x + uptoBulkEntries r
def uptoBulkEntry {H : Type} : Lit × DataW H → Nat
  | (.string bytes, d) => bytes.length + uptoBulk d + 1
  | (_, d) => uptoBulk d + 1
 end
def uptoSmall : (H : Type) → List (DataW H) → Bool := fun _ ds => decide (uptoBulkAll ds ≤ 1048576)
def OpenSpec.upto (s : _root_.Go.ChangeSpec) : _root_.Go.OpenSpec := { _root_.Go.OpenSpec.ofChange s with cond := some uptoSmall }

/-- 'compactorlaw25.AllocateLives', WHERE WHAT IT READS IS OF BULK AT MOST 1048576: true; the input reads as it did. -/
def allocateLivesUptoRow : OpenClaim := { program := "yteopfmnnhlhbmaa", sum := "359d6a08aa72f388a9e95030d3f5007285503ea7993c25e9e52d5db4397a922d", func := "compactor/compactorlaw25.AllocateLives", spec := "allocateLives", unfollowed := true, recurses := true, apart := false, narrowed := true }
def AllocateLivesUptoSaid : Prop := allocateLivesUptoRow.holds Try.pinned (OpenSpec.upto allocateLivesSpec)

/-- 'compactorlaw25.AllocateSpills', WHERE WHAT IT READS IS OF BULK AT MOST 1048576: true; the input reads as it did. -/
def allocateSpillsUptoRow : OpenClaim := { program := "yteopfmnnhlhbmaa", sum := "359d6a08aa72f388a9e95030d3f5007285503ea7993c25e9e52d5db4397a922d", func := "compactor/compactorlaw25.AllocateSpills", spec := "allocateSpills", unfollowed := true, recurses := true, apart := false, narrowed := true }
def AllocateSpillsUptoSaid : Prop := allocateSpillsUptoRow.holds Try.pinned (OpenSpec.upto allocateSpillsSpec)

/-- 'compactorlaw25.AllocateCompacts', WHERE WHAT IT READS IS OF BULK AT MOST 1048576: true; the input reads as it did. -/
def allocateCompactsUptoRow : OpenClaim := { program := "yteopfmnnhlhbmaa", sum := "359d6a08aa72f388a9e95030d3f5007285503ea7993c25e9e52d5db4397a922d", func := "compactor/compactorlaw25.AllocateCompacts", spec := "allocateCompacts", unfollowed := true, recurses := true, apart := false, narrowed := true }
def AllocateCompactsUptoSaid : Prop := allocateCompactsUptoRow.holds Try.pinned (OpenSpec.upto allocateCompactsSpec)

/-- 'compactorlaw25.AllocateSettles', WHERE WHAT IT READS IS OF BULK AT MOST 1048576: true; the input reads as it did. -/
def allocateSettlesUptoRow : OpenClaim := { program := "yteopfmnnhlhbmaa", sum := "359d6a08aa72f388a9e95030d3f5007285503ea7993c25e9e52d5db4397a922d", func := "compactor/compactorlaw25.AllocateSettles", spec := "allocateSettles", unfollowed := true, recurses := true, apart := false, narrowed := true }
def AllocateSettlesUptoSaid : Prop := allocateSettlesUptoRow.holds Try.pinned (OpenSpec.upto allocateSettlesSpec)

/-- 'compactorlaw25.AllocateNeeds', WHERE WHAT IT READS IS OF BULK AT MOST 1048576: true; the input reads as it did. -/
def allocateNeedsUptoRow : OpenClaim := { program := "yteopfmnnhlhbmaa", sum := "359d6a08aa72f388a9e95030d3f5007285503ea7993c25e9e52d5db4397a922d", func := "compactor/compactorlaw25.AllocateNeeds", spec := "allocateNeeds", unfollowed := true, recurses := true, apart := false, narrowed := true }
def AllocateNeedsUptoSaid : Prop := allocateNeedsUptoRow.holds Try.pinned (OpenSpec.upto allocateNeedsSpec)

/-- 'compactorlaw25.AllocateFits', WHERE WHAT IT READS IS OF BULK AT MOST 1048576: true; the input reads as it did. -/
def allocateFitsUptoRow : OpenClaim := { program := "yteopfmnnhlhbmaa", sum := "359d6a08aa72f388a9e95030d3f5007285503ea7993c25e9e52d5db4397a922d", func := "compactor/compactorlaw25.AllocateFits", spec := "allocateFits", unfollowed := true, recurses := true, apart := false, narrowed := true }
def AllocateFitsUptoSaid : Prop := allocateFitsUptoRow.holds Try.pinned (OpenSpec.upto allocateFitsSpec)

end Rows
end Go.Proofs.Yteopfmnnhlhbmaa
