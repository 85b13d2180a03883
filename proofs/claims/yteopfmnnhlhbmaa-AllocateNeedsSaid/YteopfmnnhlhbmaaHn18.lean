/- A part of the proof of AllocateNeeds: SlA. No condition. -/
import Derived.Shelf.SlIterI.Nil
import Derived.Shelf.SlLaysM
import Derived.Test.YteopfmnnhlhbmaaProg
set_option linter.unusedSimpArgs false
set_option linter.unusedVariables false
set_option linter.constructorNameAsVariable false
set_option maxRecDepth 100000
set_option maxHeartbeats 4000000
namespace Go.Proofs.Yteopfmnnhlhbmaa
open Go.RowKit Go.Maps Go.Sort Go.Shelf
def nQ:Go.Shelf.Ren:=⟨λ|7=>38|10=>71|n=>n,λ|23=>70|26=>3|3=>4|28=>73|0=>0|27=>72|33=>100|4=>4|n=>n,λ|n=>n⟩
theorem OZ:Go.Proofs.SlLaysZI.n7 Try.prog nQ where
 mixed:=by kernel_rfl
 f7:=⟨Try.f38.name,by decide,Try.func38.trans (congrArg some (by kernel_rfl))⟩
 f10:=⟨Try.f71.name,by decide,Try.func71.trans (congrArg some (by kernel_rfl))⟩
 t0:=Try.underlying0
 a0:=Try.isAgg0
 z0:=Try.sizeOf0
 v0:=Try.zeroValue0
 t4:=Try.underlying4
 a4:=Try.isAgg4
 z4:=Try.sizeOf4
 v4:=Try.zeroValue4
 t23:=Try.underlying70
 a23:=Try.isAgg70
 z23:=Try.sizeOf70
 v23:=Try.zeroValue70
 t26:=Try.underlying3
 a26:=Try.isAgg3
 z26:=Try.sizeOf3
 v26:=Try.zeroValue3
 t27:=Try.underlying72
 a27:=Try.isAgg72
 z27:=Try.sizeOf72
 v27:=Try.zeroValue72
 t28:=Try.underlying73
 a28:=Try.isAgg73
 z28:=Try.sizeOf73
 v28:=Try.zeroValue73
 t33:=Try.underlying100
 a33:=Try.isAgg100
 z33:=Try.sizeOf100
 v33:=Try.zeroValue100
def kl:Go.Shelf.Ren:=⟨λ|6=>37|8=>69|9=>70|11=>89|13=>91|12=>90|23=>104|24=>105|14=>96|15=>97|16=>98|17=>99|18=>100|19=>101|20=>55|21=>102|22=>103|25=>106|26=>107|27=>108|28=>109|29=>110|30=>81|31=>111|n=>n,λ|26=>3|28=>73|24=>39|0=>0|3=>3|37=>140|48=>58|50=>156|4=>4|40=>149|39=>148|45=>108|5=>5|9=>9|51=>157|55=>120|57=>162|58=>36|33=>100|n=>n,λ|n=>n⟩
theorem Ae:Go.Proofs.SlLaysZI.n6 Try.prog kl where
 mixed:=by kernel_rfl
 f6:=⟨Try.f37.name,by decide,Try.func37.trans (congrArg some (by kernel_rfl))⟩
 f8:=⟨Try.f69.name,by decide,Try.func69.trans (congrArg some (by kernel_rfl))⟩
 f11:=⟨Try.f89.name,by decide,Try.func89.trans (congrArg some (by kernel_rfl))⟩
 t0:=Try.underlying0
 a0:=Try.isAgg0
 z0:=Try.sizeOf0
 v0:=Try.zeroValue0
 t24:=Try.underlying39
 a24:=Try.isAgg39
 z24:=Try.sizeOf39
 v24:=Try.zeroValue39
 t26:=Try.underlying3
 a26:=Try.isAgg3
 z26:=Try.sizeOf3
 v26:=Try.zeroValue3
 t28:=Try.underlying73
 a28:=Try.isAgg73
 z28:=Try.sizeOf73
 v28:=Try.zeroValue73
 i26:=by kernel_rfl
def uz:Go.Shelf.Ren:=⟨λ|5=>70|8=>91|7=>90|19=>104|20=>105|10=>96|11=>97|12=>98|13=>99|14=>100|15=>101|16=>55|17=>102|18=>103|30=>106|31=>107|32=>108|33=>109|34=>110|35=>81|40=>111|n=>n,λ|23=>39|25=>3|3=>3|32=>140|22=>39|0=>0|44=>58|46=>156|4=>4|36=>149|35=>148|41=>108|5=>5|9=>9|53=>157|57=>120|63=>162|64=>36|n=>n,λ|n=>n⟩
theorem Ck:Go.Proofs.SlLaysM.n5 Try.prog uz where
 mixed:=by kernel_rfl
 f5:=⟨Try.f70.name,by decide,Try.func70.trans (congrArg some (by kernel_rfl))⟩
 f7:=⟨Try.f90.name,by decide,Try.func90.trans (congrArg some (by kernel_rfl))⟩
 f8:=Try.func91.trans (congrArg some (by kernel_rfl))
 f10:=⟨Try.f96.name,by decide,Try.func96.trans (congrArg some (by kernel_rfl))⟩
 f11:=⟨Try.f97.name,by decide,Try.func97.trans (congrArg some (by kernel_rfl))⟩
 f12:=⟨Try.f98.name,by decide,Try.func98.trans (congrArg some (by kernel_rfl))⟩
 f13:=⟨Try.f99.name,by decide,Try.func99.trans (congrArg some (by kernel_rfl))⟩
 f14:=⟨Try.f100.name,by decide,Try.func100.trans (congrArg some (by kernel_rfl))⟩
 f15:=⟨Try.f101.name,by decide,Try.func101.trans (congrArg some (by kernel_rfl))⟩
 f16:=⟨Try.f55.name,by decide,Try.func55.trans (congrArg some (by kernel_rfl))⟩
 f17:=⟨Try.f102.name,by decide,Try.func102.trans (congrArg some (by kernel_rfl))⟩
 f18:=⟨Try.f103.name,by decide,Try.func103.trans (congrArg some (by kernel_rfl))⟩
 f19:=Try.func104.trans (congrArg some (by kernel_rfl))
 f20:=Try.func105.trans (congrArg some (by kernel_rfl))
 f30:=⟨Try.f106.name,by decide,Try.func106.trans (congrArg some (by kernel_rfl))⟩
 f31:=Try.func107.trans (congrArg some (by kernel_rfl))
 f32:=Try.func108.trans (congrArg some (by kernel_rfl))
 f33:=⟨Try.f109.name,by decide,Try.func109.trans (congrArg some (by kernel_rfl))⟩
 f34:=⟨Try.f110.name,by decide,Try.func110.trans (congrArg some (by kernel_rfl))⟩
 f35:=⟨Try.f81.name,by decide,Try.func81.trans (congrArg some (by kernel_rfl))⟩
 f40:=⟨Try.f111.name,by decide,Try.func111.trans (congrArg some (by kernel_rfl))⟩
 t0:=Try.underlying0
 a0:=Try.isAgg0
 z0:=Try.sizeOf0
 v0:=Try.zeroValue0
 t3:=Try.underlying3
 a3:=Try.isAgg3
 z3:=Try.sizeOf3
 v3:=Try.zeroValue3
 t4:=Try.underlying4
 a4:=Try.isAgg4
 z4:=Try.sizeOf4
 v4:=Try.zeroValue4
 t5:=Try.underlying5
 a5:=Try.isAgg5
 z5:=Try.sizeOf5
 v5:=Try.zeroValue5
 t9:=Try.underlying9
 a9:=Try.isAgg9
 z9:=Try.sizeOf9
 v9:=Try.zeroValue9
 t22:=Try.underlying39
 a22:=Try.isAgg39
 z22:=Try.sizeOf39
 v22:=Try.zeroValue39
 t23:=Try.underlying39
 a23:=Try.isAgg39
 z23:=Try.sizeOf39
 v23:=Try.zeroValue39
 t25:=Try.underlying3
 a25:=Try.isAgg3
 z25:=Try.sizeOf3
 v25:=Try.zeroValue3
 t32:=Try.underlying140
 a32:=Try.isAgg140
 z32:=Try.sizeOf140
 v32:=Try.zeroValue140
 t35:=Try.underlying148
 a35:=Try.isAgg148
 z35:=Try.sizeOf148
 v35:=Try.zeroValue148
 t36:=Try.underlying149
 a36:=Try.isAgg149
 z36:=Try.sizeOf149
 v36:=Try.zeroValue149
 t41:=Try.underlying108
 a41:=Try.isAgg108
 z41:=Try.sizeOf108
 v41:=Try.zeroValue108
 t44:=Try.underlying58
 a44:=Try.isAgg58
 z44:=Try.sizeOf58
 v44:=Try.zeroValue58
 t46:=Try.underlying156
 a46:=Try.isAgg156
 z46:=Try.sizeOf156
 v46:=Try.zeroValue156
 t53:=Try.underlying157
 a53:=Try.isAgg157
 z53:=Try.sizeOf157
 v53:=Try.zeroValue157
 t57:=Try.underlying120
 a57:=Try.isAgg120
 z57:=Try.sizeOf120
 v57:=Try.zeroValue120
 t63:=Try.underlying162
 a63:=Try.isAgg162
 z63:=Try.sizeOf162
 v63:=Try.zeroValue162
 t64:=Try.underlying36
 a64:=Try.isAgg36
 z64:=Try.sizeOf36
 v64:=Try.zeroValue36
end Go.Proofs.Yteopfmnnhlhbmaa