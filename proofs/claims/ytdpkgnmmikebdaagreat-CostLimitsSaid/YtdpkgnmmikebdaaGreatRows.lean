/-
  No cell of these rows narrows 'for every input' (looked for: loops, veiled, ifaces, maps, wideKeys, modest, calm, conditions, laid).
  DERIVED. THE GIVEN ROWS OF THIS SEAT. 5 by the template 'for every input the law returns true; each argument reads behind the call as it read before'; 0 by the template 'total and deterministic' (their statements: YtdpkgnmmikebdaaGreatTotals.lean).
  GIVEN WITH THE SEED: the statements are not yours to turn. If you find one false, say at which input.
  Laid BY PROGRAM, IN A SANDBOX (cutbox-rows.mjs): the forced cells as the released guide's own fill.sh prints them over the translation e9d924e15436c53c… (all of the seat's roots in one cut). By AI agents, Wed Nov 11 2026. No macro, syntax, notation, axiom, sorry.
-/
import Derived.Test.YtdpkgnmmikebdaaGreatChecked
import GoSem.Claim
import GoSem.ClaimJoined
import GoSem.ClaimMapViews
import Derived.JoinedTies
import Derived.KernelRfl
namespace Go.Proofs.YtdpkgnmmikebdaaGreat
/- THE CELL 'sum', in the pinned program and in every row, IS THE sha256 OF THE DUMP (.gsa) THAT YtdpkgnmmikebdaaGreatProg.lean LOADS. Nothing in Lean hashes anything: it is a label: what it is worth is what the hold of that sum in a sandbox is worth. -/
noncomputable def Tryz.pinned : Pinned := { name := "ytdpkgnmmikebdaagreat", sum := "e9d924e15436c53cd517d7bf08536f58015fa69ef84099fd02708c93890b6286", checked := Tryz.checked }
namespace Rows
def none {H : Type} : Left H := { results := [], args := [] }

/-- 'compactorlaw21.CostLimits': WHATEVER THE INPUT: true; the input reads as it did. -/
def costLimitsSpec : ChangeSpec := { name := "costLimits", fn := fun _ => fun
  | [d1, d2] => { results := [.lit (.bool true)], args := [d1, d2] }
  | _ => none }
def costLimitsRow : OpenClaim := { program := "ytdpkgnmmikebdaagreat", sum := "e9d924e15436c53cd517d7bf08536f58015fa69ef84099fd02708c93890b6286", func := "compactor/compactorlaw21.CostLimits", spec := "costLimits", unfollowed := true, recurses := true, apart := false }
def CostLimitsSaid : Prop := costLimitsRow.holds Tryz.pinned (OpenSpec.ofChange costLimitsSpec)

/-- ITS FALSE NEIGHBOUR: 'it returns false'. Refute it at one input. -/
def costLimitsWrong : ChangeSpec := { name := "costLimits", fn := fun _ => fun
  | [d1, d2] => { results := [.lit (.bool false)], args := [d1, d2] }
  | _ => none }
def CostLimitsWrongFalsely : Prop := costLimitsRow.holds Tryz.pinned (OpenSpec.ofChange costLimitsWrong)

/-- 'compactorlaw21.CostReports': WHATEVER THE INPUT: true; the input reads as it did. -/
def costReportsSpec : ChangeSpec := { name := "costReports", fn := fun _ => fun
  | [d] => { results := [.lit (.bool true)], args := [d] }
  | _ => none }
def costReportsRow : OpenClaim := { program := "ytdpkgnmmikebdaagreat", sum := "e9d924e15436c53cd517d7bf08536f58015fa69ef84099fd02708c93890b6286", func := "compactor/compactorlaw21.CostReports", spec := "costReports", unfollowed := true, recurses := true, apart := false }
def CostReportsSaid : Prop := costReportsRow.holds Tryz.pinned (OpenSpec.ofChange costReportsSpec)

/-- ITS FALSE NEIGHBOUR: 'it returns false'. Refute it at one input. -/
def costReportsWrong : ChangeSpec := { name := "costReports", fn := fun _ => fun
  | [d] => { results := [.lit (.bool false)], args := [d] }
  | _ => none }
def CostReportsWrongFalsely : Prop := costReportsRow.holds Tryz.pinned (OpenSpec.ofChange costReportsWrong)

/-- 'compactorlaw21.CostGrows': WHATEVER THE INPUT: true; the input reads as it did. -/
def costGrowsSpec : ChangeSpec := { name := "costGrows", fn := fun _ => fun
  | [d1, d2, d3] => { results := [.lit (.bool true)], args := [d1, d2, d3] }
  | _ => none }
def costGrowsRow : OpenClaim := { program := "ytdpkgnmmikebdaagreat", sum := "e9d924e15436c53cd517d7bf08536f58015fa69ef84099fd02708c93890b6286", func := "compactor/compactorlaw21.CostGrows", spec := "costGrows", unfollowed := true, recurses := true, apart := false }
def CostGrowsSaid : Prop := costGrowsRow.holds Tryz.pinned (OpenSpec.ofChange costGrowsSpec)

/-- ITS FALSE NEIGHBOUR: 'it returns false'. Refute it at one input. -/
def costGrowsWrong : ChangeSpec := { name := "costGrows", fn := fun _ => fun
  | [d1, d2, d3] => { results := [.lit (.bool false)], args := [d1, d2, d3] }
  | _ => none }
def CostGrowsWrongFalsely : Prop := costGrowsRow.holds Tryz.pinned (OpenSpec.ofChange costGrowsWrong)

/-- 'compactorlaw21.CostAdds': WHATEVER THE INPUT: true; the input reads as it did. -/
def costAddsSpec : ChangeSpec := { name := "costAdds", fn := fun _ => fun
  | [d1, d2] => { results := [.lit (.bool true)], args := [d1, d2] }
  | _ => none }
def costAddsRow : OpenClaim := { program := "ytdpkgnmmikebdaagreat", sum := "e9d924e15436c53cd517d7bf08536f58015fa69ef84099fd02708c93890b6286", func := "compactor/compactorlaw21.CostAdds", spec := "costAdds", unfollowed := true, recurses := true, apart := false }
def CostAddsSaid : Prop := costAddsRow.holds Tryz.pinned (OpenSpec.ofChange costAddsSpec)

/-- ITS FALSE NEIGHBOUR: 'it returns false'. Refute it at one input. -/
def costAddsWrong : ChangeSpec := { name := "costAdds", fn := fun _ => fun
  | [d1, d2] => { results := [.lit (.bool false)], args := [d1, d2] }
  | _ => none }
def CostAddsWrongFalsely : Prop := costAddsRow.holds Tryz.pinned (OpenSpec.ofChange costAddsWrong)

/-- 'compactorlaw21.CostCovers': WHATEVER THE INPUT: true; the input reads as it did. -/
def costCoversSpec : ChangeSpec := { name := "costCovers", fn := fun _ => fun
  | [d1, d2] => { results := [.lit (.bool true)], args := [d1, d2] }
  | _ => none }
def costCoversRow : OpenClaim := { program := "ytdpkgnmmikebdaagreat", sum := "e9d924e15436c53cd517d7bf08536f58015fa69ef84099fd02708c93890b6286", func := "compactor/compactorlaw21.CostCovers", spec := "costCovers", unfollowed := true, recurses := true, apart := false }
def CostCoversSaid : Prop := costCoversRow.holds Tryz.pinned (OpenSpec.ofChange costCoversSpec)

/-- ITS FALSE NEIGHBOUR: 'it returns false'. Refute it at one input. -/
def costCoversWrong : ChangeSpec := { name := "costCovers", fn := fun _ => fun
  | [d1, d2] => { results := [.lit (.bool false)], args := [d1, d2] }
  | _ => none }
def CostCoversWrongFalsely : Prop := costCoversRow.holds Tryz.pinned (OpenSpec.ofChange costCoversWrong)

/- THE SECOND FORM. 'bulk': how many values and letters a reading holds, each counted each time it is reached (what is shared counts as often as it is met; a slice's spare places count too). A statement '..UptoSaid' is the law's where the arguments, and the package variables that the reading takes, are together of bulk at most 1048576: NARROWER than '..Said'. Prove '..Said' where nothing that the law and all that it calls make is longer than what came in: it says more and counts as full. Else prove '..UptoSaid'. A law counts once. -/
mutual
def uptoBulk {H : Type} : DataW H → Nat
  | .lit (.string bytes) => bytes.length + 1
  | .lit _ => 1
  | .nil => 1
  | .ptr d => uptoBulk d + 1
  | .slice elems spare => uptoBulkAll elems + uptoBulkAll spare + 1
  | .agg parts => uptoBulkAll parts + 1
  | .iface _ d => uptoBulk d + 1
  | .map entries => uptoBulkEntries entries + 1
  | .held _ => 1
def uptoBulkAll {H : Type} : List (DataW H) → Nat
  | [] => 0
  | d :: r => uptoBulk d + uptoBulkAll r
def uptoBulkEntries {H : Type} : List (Lit × DataW H) → Nat
  | [] => 0
  | x :: r => uptoBulkEntry x + uptoBulkEntries r
def uptoBulkEntry {H : Type} : Lit × DataW H → Nat
  | (.string bytes, d) => bytes.length + uptoBulk d + 1
  | (_, d) => uptoBulk d + 1
 end
def uptoSmall : (H : Type) → List (DataW H) → Bool := fun _ ds => decide (uptoBulkAll ds ≤ 1048576)
def OpenSpec.upto (s : _root_.Go.ChangeSpec) : _root_.Go.OpenSpec := { _root_.Go.OpenSpec.ofChange s with cond := some uptoSmall }

/-- 'compactorlaw21.CostLimits', WHERE WHAT IT READS IS OF BULK AT MOST 1048576: true; the input reads as it did. -/
def costLimitsUptoRow : OpenClaim := { program := "ytdpkgnmmikebdaagreat", sum := "e9d924e15436c53cd517d7bf08536f58015fa69ef84099fd02708c93890b6286", func := "compactor/compactorlaw21.CostLimits", spec := "costLimits", unfollowed := true, recurses := true, apart := false, narrowed := true }
def CostLimitsUptoSaid : Prop := costLimitsUptoRow.holds Tryz.pinned (OpenSpec.upto costLimitsSpec)

/-- 'compactorlaw21.CostReports', WHERE WHAT IT READS IS OF BULK AT MOST 1048576: true; the input reads as it did. -/
def costReportsUptoRow : OpenClaim := { program := "ytdpkgnmmikebdaagreat", sum := "e9d924e15436c53cd517d7bf08536f58015fa69ef84099fd02708c93890b6286", func := "compactor/compactorlaw21.CostReports", spec := "costReports", unfollowed := true, recurses := true, apart := false, narrowed := true }
def CostReportsUptoSaid : Prop := costReportsUptoRow.holds Tryz.pinned (OpenSpec.upto costReportsSpec)

/-- 'compactorlaw21.CostGrows', WHERE WHAT IT READS IS OF BULK AT MOST 1048576: true; the input reads as it did. -/
def costGrowsUptoRow : OpenClaim := { program := "ytdpkgnmmikebdaagreat", sum := "e9d924e15436c53cd517d7bf08536f58015fa69ef84099fd02708c93890b6286", func := "compactor/compactorlaw21.CostGrows", spec := "costGrows", unfollowed := true, recurses := true, apart := false, narrowed := true }
def CostGrowsUptoSaid : Prop := costGrowsUptoRow.holds Tryz.pinned (OpenSpec.upto costGrowsSpec)

/-- 'compactorlaw21.CostAdds', WHERE WHAT IT READS IS OF BULK AT MOST 1048576: true; the input reads as it did. -/
def costAddsUptoRow : OpenClaim := { program := "ytdpkgnmmikebdaagreat", sum := "e9d924e15436c53cd517d7bf08536f58015fa69ef84099fd02708c93890b6286", func := "compactor/compactorlaw21.CostAdds", spec := "costAdds", unfollowed := true, recurses := true, apart := false, narrowed := true }
def CostAddsUptoSaid : Prop := costAddsUptoRow.holds Tryz.pinned (OpenSpec.upto costAddsSpec)

/-- 'compactorlaw21.CostCovers', WHERE WHAT IT READS IS OF BULK AT MOST 1048576: true; the input reads as it did. -/
def costCoversUptoRow : OpenClaim := { program := "ytdpkgnmmikebdaagreat", sum := "e9d924e15436c53cd517d7bf08536f58015fa69ef84099fd02708c93890b6286", func := "compactor/compactorlaw21.CostCovers", spec := "costCovers", unfollowed := true, recurses := true, apart := false, narrowed := true }
def CostCoversUptoSaid : Prop := costCoversUptoRow.holds Tryz.pinned (OpenSpec.upto costCoversSpec)

end Rows
end Go.Proofs.YtdpkgnmmikebdaaGreat
