/- A part of the proof: the program's name. No condition. -/
import Derived.Test.YtdpkgnmmikebdaaGreatProg
namespace Go.Proofs.YtdpkgnmmikebdaaGreat
noncomputable abbrev av:=Tryz.prog
end Go.Proofs.YtdpkgnmmikebdaaGreat
