/- A part of the proof of AllocateNeeds: A C. No condition. -/
import Derived.BigQuiet
import Derived.Deep.QuietTactic
import Derived.WalkKit
import Derived.WalkLawsBesides
import Derived.WalkSpells
import Derived.Test.YteopfmnnhlhbmaaProg
import Derived.Test.YteopfmnnhlhbmaaHn01
set_option linter.unusedSimpArgs false
set_option linter.unusedVariables false
set_option linter.constructorNameAsVariable false
set_option maxRecDepth 100000
set_option maxHeartbeats 4000000
namespace Go.Proofs.Yteopfmnnhlhbmaa
open Go.RowKit
theorem jb{a b:Bool}(h:a=b):Ending.returned (.bool a)= .returned (.bool b):=by rw[h]
theorem g9{k:IntKind}{a b:Int}(h:a=b):Ending.returned (.int k a)= .returned (.int k b):=by rw[h]
theorem tg(n:Int)(w:World):
  Calls Try.prog 61 #[.int .i64 n] w λe w'=>e= .returned (.bool (decide (n<0)||decide (1024<n)))/\w=w':=by
 by_cases h:n<0
 all_goals
  go_enter Try.func61,Try.ntmps61
  go_wp2
  go_ret
  exact⟨jb (by simp[h];try omega),rfl⟩
end Go.Proofs.Yteopfmnnhlhbmaa