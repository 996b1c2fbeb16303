import Derived.Shelf.SlGeneric
import Derived.Shelf.SlSortCmp.NoneTotal
import Derived.Shelf.SlMaps.Clone
import Derived.Shelf.SlicesE.DeleteFunc
import Derived.Ground.SlsfProg
import Derived.Ground.SlmcProg
import Derived.Ground.SlgfProg
import Derived.Test.YthcpdiknejblnaaProg
set_option linter.unusedVariables false
set_option linter.unusedSimpArgs false
namespace Go.Proofs
open Go.Shelf
def Try.sortE_ren:Go.Shelf.Ren:=⟨fun|6=>23|15=>39|14=>38|28=>52|29=>53|20=>44|21=>45|22=>46|23=>47|24=>48|25=>49|26=>50|27=>51|46=>62|47=>63|48=>64|49=>65|50=>66|57=>70|n=>n,fun|22=>27|24=>32|25=>58|3=>3|39=>75|0=>0|53=>88|55=>90|4=>4|46=>81|45=>80|50=>85|5=>5|9=>9|66=>96|70=>100|76=>104|77=>105|n=>n,fun|n=>n⟩
theorem Try.sortE:Go.Proofs.SlLaysF0.n6 Try.prog Try.sortE_ren:={
 mixed:=by kernel_rfl
 f6:=⟨Try.f23.name,by decide,Try.func23.trans (congrArg some (by kernel_rfl))⟩
 f14:=⟨Try.f38.name,by decide,Try.func38.trans (congrArg some (by kernel_rfl))⟩
 f15:=Try.func39.trans (congrArg some (by kernel_rfl))
 f20:=⟨Try.f44.name,by decide,Try.func44.trans (congrArg some (by kernel_rfl))⟩
 f21:=⟨Try.f45.name,by decide,Try.func45.trans (congrArg some (by kernel_rfl))⟩
 f22:=⟨Try.f46.name,by decide,Try.func46.trans (congrArg some (by kernel_rfl))⟩
 f23:=⟨Try.f47.name,by decide,Try.func47.trans (congrArg some (by kernel_rfl))⟩
 f24:=⟨Try.f48.name,by decide,Try.func48.trans (congrArg some (by kernel_rfl))⟩
 f25:=⟨Try.f49.name,by decide,Try.func49.trans (congrArg some (by kernel_rfl))⟩
 f26:=⟨Try.f50.name,by decide,Try.func50.trans (congrArg some (by kernel_rfl))⟩
 f27:=⟨Try.f51.name,by decide,Try.func51.trans (congrArg some (by kernel_rfl))⟩
 f28:=Try.func52.trans (congrArg some (by kernel_rfl))
 f29:=Try.func53.trans (congrArg some (by kernel_rfl))
 f46:=⟨Try.f62.name,by decide,Try.func62.trans (congrArg some (by kernel_rfl))⟩
 f47:=Try.func63.trans (congrArg some (by kernel_rfl))
 f48:=Try.func64.trans (congrArg some (by kernel_rfl))
 f49:=⟨Try.f65.name,by decide,Try.func65.trans (congrArg some (by kernel_rfl))⟩
 f50:=⟨Try.f66.name,by decide,Try.func66.trans (congrArg some (by kernel_rfl))⟩
 f57:=⟨Try.f70.name,by decide,Try.func70.trans (congrArg some (by kernel_rfl))⟩
 t0:=Try.underlying0
 a0:=Try.isAgg0
 z0:=Try.sizeOf0
 v0:=Try.zeroValue0
 t3:=Try.underlying3
 a3:=Try.isAgg3
 z3:=Try.sizeOf3
 v3:=Try.zeroValue3
 t4:=Try.underlying4
 a4:=Try.isAgg4
 z4:=Try.sizeOf4
 v4:=Try.zeroValue4
 t5:=Try.underlying5
 a5:=Try.isAgg5
 z5:=Try.sizeOf5
 v5:=Try.zeroValue5
 t9:=Try.underlying9
 a9:=Try.isAgg9
 z9:=Try.sizeOf9
 v9:=Try.zeroValue9
 t22:=Try.underlying27
 a22:=Try.isAgg27
 z22:=Try.sizeOf27
 v22:=Try.zeroValue27
 t25:=Try.underlying58
 a25:=Try.isAgg58
 z25:=Try.sizeOf58
 v25:=Try.zeroValue58
 t39:=Try.underlying75
 a39:=Try.isAgg75
 z39:=Try.sizeOf75
 v39:=Try.zeroValue75
 t45:=Try.underlying80
 a45:=Try.isAgg80
 z45:=Try.sizeOf80
 v45:=Try.zeroValue80
 t46:=Try.underlying81
 a46:=Try.isAgg81
 z46:=Try.sizeOf81
 v46:=Try.zeroValue81
 t50:=Try.underlying85
 a50:=Try.isAgg85
 z50:=Try.sizeOf85
 v50:=Try.zeroValue85
 t53:=Try.underlying88
 a53:=Try.isAgg88
 z53:=Try.sizeOf88
 v53:=Try.zeroValue88
 t55:=Try.underlying90
 a55:=Try.isAgg90
 z55:=Try.sizeOf90
 v55:=Try.zeroValue90
 t66:=Try.underlying96
 a66:=Try.isAgg96
 z66:=Try.sizeOf96
 v66:=Try.zeroValue96
 t70:=Try.underlying100
 a70:=Try.isAgg100
 z70:=Try.sizeOf100
 v70:=Try.zeroValue100
 t76:=Try.underlying104
 a76:=Try.isAgg104
 z76:=Try.sizeOf104
 v76:=Try.zeroValue104
 t77:=Try.underlying105
 a77:=Try.isAgg105
 z77:=Try.sizeOf105
 v77:=Try.zeroValue105 }
def Try.cloneI_ren:Go.Shelf.Ren:=⟨fun|5=>32|7=>42|n=>n,fun|23=>51|25=>3|3=>3|4=>4|20=>20|n=>n,fun|n=>n⟩
theorem Try.cloneI:Go.Proofs.SlLaysW.n5 Try.prog Try.cloneI_ren:={
 mixed:=by kernel_rfl
 f5:=⟨Try.f32.name,by decide,Try.func32.trans (congrArg some (by kernel_rfl))⟩
 f7:=Try.func42.trans (congrArg some (by kernel_rfl))
 t4:=Try.underlying4
 a4:=Try.isAgg4
 z4:=Try.sizeOf4
 v4:=Try.zeroValue4
 t20:=Try.underlying20
 a20:=Try.isAgg20
 z20:=Try.sizeOf20
 v20:=Try.zeroValue20
 t23:=Try.underlying51
 a23:=Try.isAgg51
 z23:=Try.sizeOf51
 v23:=Try.zeroValue51 }
def Try.cloneP_ren:Go.Shelf.Ren:=⟨fun|5=>34|7=>42|n=>n,fun|23=>53|25=>61|3=>3|4=>4|20=>20|n=>n,fun|n=>n⟩
theorem Try.cloneP:Go.Proofs.SlLaysW.n5 Try.prog Try.cloneP_ren:={
 mixed:=by kernel_rfl
 f5:=⟨Try.f34.name,by decide,Try.func34.trans (congrArg some (by kernel_rfl))⟩
 f7:=Try.func42.trans (congrArg some (by kernel_rfl))
 t4:=Try.underlying4
 a4:=Try.isAgg4
 z4:=Try.sizeOf4
 v4:=Try.zeroValue4
 t20:=Try.underlying20
 a20:=Try.isAgg20
 z20:=Try.sizeOf20
 v20:=Try.zeroValue20
 t23:=Try.underlying53
 a23:=Try.isAgg53
 z23:=Try.sizeOf53
 v23:=Try.zeroValue53 }
end Go.Proofs
