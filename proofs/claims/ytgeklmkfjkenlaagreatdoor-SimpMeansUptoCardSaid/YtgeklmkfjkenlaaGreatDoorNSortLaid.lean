/- The library's sort at this program's numbers, as the kit's tool lay-plain.mjs prints it: what slices.SortFunc'. -/
import Derived.Shelf.SlSortCmp.WholeK
import Derived.Test.YtgeklmkfjkenlaaGreatDoorProg
set_option linter.unusedSimpArgs false
set_option linter.unusedVariables false
namespace Go.Proofs
open Go.Shelf
def Tryz.sortInt_ren:Go.Shelf.Ren:=⟨fun|6=>208|15=>139|14=>227|28=>186|29=>187|20=>242|21=>243|22=>244|23=>245|24=>246|25=>247|26=>248|27=>249|46=>256|47=>217|48=>218|49=>257|50=>258|57=>264|n=>n,fun|22=>38|24=>117|25=>225|3=>3|39=>132|0=>0|53=>131|55=>130|4=>4|46=>207|45=>206|50=>153|5=>5|9=>9|66=>237|70=>241|76=>249|77=>250|n=>n,fun|n=>n⟩
theorem Tryz.sortInt:Go.Proofs.SlLaysF0.n6 Tryz.prog Tryz.sortInt_ren:={
 mixed:=by kernel_rfl
 f6:=⟨Tryz.f208.name,by decide,Tryz.func208.trans (congrArg some (by kernel_rfl))⟩
 f14:=⟨Tryz.f227.name,by decide,Tryz.func227.trans (congrArg some (by kernel_rfl))⟩
 f15:=Tryz.func139.trans (congrArg some (by kernel_rfl))
 f20:=⟨Tryz.f242.name,by decide,Tryz.func242.trans (congrArg some (by kernel_rfl))⟩
 f21:=⟨Tryz.f243.name,by decide,Tryz.func243.trans (congrArg some (by kernel_rfl))⟩
 f22:=⟨Tryz.f244.name,by decide,Tryz.func244.trans (congrArg some (by kernel_rfl))⟩
 f23:=⟨Tryz.f245.name,by decide,Tryz.func245.trans (congrArg some (by kernel_rfl))⟩
 f24:=⟨Tryz.f246.name,by decide,Tryz.func246.trans (congrArg some (by kernel_rfl))⟩
 f25:=⟨Tryz.f247.name,by decide,Tryz.func247.trans (congrArg some (by kernel_rfl))⟩
 f26:=⟨Tryz.f248.name,by decide,Tryz.func248.trans (congrArg some (by kernel_rfl))⟩
 f27:=⟨Tryz.f249.name,by decide,Tryz.func249.trans (congrArg some (by kernel_rfl))⟩
 f28:=Tryz.func186.trans (congrArg some (by kernel_rfl))
 f29:=Tryz.func187.trans (congrArg some (by kernel_rfl))
 f46:=⟨Tryz.f256.name,by decide,Tryz.func256.trans (congrArg some (by kernel_rfl))⟩
 f47:=Tryz.func217.trans (congrArg some (by kernel_rfl))
 f48:=Tryz.func218.trans (congrArg some (by kernel_rfl))
 f49:=⟨Tryz.f257.name,by decide,Tryz.func257.trans (congrArg some (by kernel_rfl))⟩
 f50:=⟨Tryz.f258.name,by decide,Tryz.func258.trans (congrArg some (by kernel_rfl))⟩
 f57:=⟨Tryz.f264.name,by decide,Tryz.func264.trans (congrArg some (by kernel_rfl))⟩
 t0:=Tryz.underlying0
 a0:=Tryz.isAgg0
 z0:=Tryz.sizeOf0
 v0:=Tryz.zeroValue0
 t3:=Tryz.underlying3
 a3:=Tryz.isAgg3
 z3:=Tryz.sizeOf3
 v3:=Tryz.zeroValue3
 t4:=Tryz.underlying4
 a4:=Tryz.isAgg4
 z4:=Tryz.sizeOf4
 v4:=Tryz.zeroValue4
 t5:=Tryz.underlying5
 a5:=Tryz.isAgg5
 z5:=Tryz.sizeOf5
 v5:=Tryz.zeroValue5
 t9:=Tryz.underlying9
 a9:=Tryz.isAgg9
 z9:=Tryz.sizeOf9
 v9:=Tryz.zeroValue9
 t22:=Tryz.underlying38
 a22:=Tryz.isAgg38
 z22:=Tryz.sizeOf38
 v22:=Tryz.zeroValue38
 t25:=Tryz.underlying225
 a25:=Tryz.isAgg225
 z25:=Tryz.sizeOf225
 v25:=Tryz.zeroValue225
 t39:=Tryz.underlying132
 a39:=Tryz.isAgg132
 z39:=Tryz.sizeOf132
 v39:=Tryz.zeroValue132
 t45:=Tryz.underlying206
 a45:=Tryz.isAgg206
 z45:=Tryz.sizeOf206
 v45:=Tryz.zeroValue206
 t46:=Tryz.underlying207
 a46:=Tryz.isAgg207
 z46:=Tryz.sizeOf207
 v46:=Tryz.zeroValue207
 t50:=Tryz.underlying153
 a50:=Tryz.isAgg153
 z50:=Tryz.sizeOf153
 v50:=Tryz.zeroValue153
 t53:=Tryz.underlying131
 a53:=Tryz.isAgg131
 z53:=Tryz.sizeOf131
 v53:=Tryz.zeroValue131
 t55:=Tryz.underlying130
 a55:=Tryz.isAgg130
 z55:=Tryz.sizeOf130
 v55:=Tryz.zeroValue130
 t66:=Tryz.underlying237
 a66:=Tryz.isAgg237
 z66:=Tryz.sizeOf237
 v66:=Tryz.zeroValue237
 t70:=Tryz.underlying241
 a70:=Tryz.isAgg241
 z70:=Tryz.sizeOf241
 v70:=Tryz.zeroValue241
 t76:=Tryz.underlying249
 a76:=Tryz.isAgg249
 z76:=Tryz.sizeOf249
 v76:=Tryz.zeroValue249
 t77:=Tryz.underlying250
 a77:=Tryz.isAgg250
 z77:=Tryz.sizeOf250
 v77:=Tryz.zeroValue250 }
end Go.Proofs
