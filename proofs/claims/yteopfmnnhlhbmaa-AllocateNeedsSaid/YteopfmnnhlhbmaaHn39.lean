/- A part of the proof of AllocateNeeds: Ow. No condition. -/
import Derived.Below
import Derived.ChangeBook
import Derived.ChangeCalls
import Derived.ChangeOld
import Derived.ChangeStays
import Derived.Deep.Fields
import Derived.Deep.Slices
import Derived.Laws.BytesArg
import Derived.Lib.SlBytesRow
import Derived.Lib.SmallJoins
import Derived.OpenShut
import Derived.ProofKit
import Derived.ShutString
import Derived.Test.YteopfmnnhlhbmaaHn03
set_option linter.unusedSimpArgs false
set_option linter.unusedVariables false
set_option linter.constructorNameAsVariable false
set_option maxRecDepth 100000
set_option maxHeartbeats 4000000
namespace Go.Proofs.Yteopfmnnhlhbmaa
open Go.RowKit
theorem qg{w w':World}{base:Nat}{e:TypeId}{size n:Nat}{v:Value}{xs:List Value}(h:w.ownsRow base e size v n xs)(hs:∀k,v.ownBlock=some k->w'.heap[k]? =w.heap[k]?):w'.ownsRow base e size v n xs:=by
 refine⟨h.1,?_⟩
 rcases h.2 with hn|⟨g,cap,cur,hv,hb,hgg,rest⟩
 ·exact .inl hn
 ·refine .inr ⟨g,cap,cur,hv,hb,?_,rest⟩
  rw[hs g (by rw[hv];rfl)]
  exact hgg
end Go.Proofs.Yteopfmnnhlhbmaa