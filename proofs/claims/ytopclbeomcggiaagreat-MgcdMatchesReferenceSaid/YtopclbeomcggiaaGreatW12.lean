/- slices.SortFunc's and math/bits.Len's texts at this program (laid by the shelf's own tool). -/
import Derived.Test.YtopclbeomcggiaaGreatW01
import Derived.Shelf.SlSortCmp.WholeK
import Derived.Test.YtopclbeomcggiaaGreatProg
set_option linter.unusedVariables false
set_option linter.unusedSimpArgs false
set_option maxHeartbeats 16000000
set_option maxRecDepth 100000
namespace Go.Proofs.YtopclbeomcggiaaGreat
open Go.Shelf
def Gf:Go.Shelf.Ren:=⟨fun|14=>133|20=>145|21=>146|22=>147|23=>148|24=>149|25=>150|26=>151|27=>152|46=>165|47=>166|48=>167|49=>168|50=>169|15=>134|57=>174|28=>153|29=>154|n=>n,fun|24=>43|22=>26|3=>3|25=>111|4=>4|0=>0|46=>134|45=>133|50=>138|66=>153|39=>105|55=>97|70=>157|76=>162|77=>163|53=>104|5=>5|9=>9|n=>n,fun|n=>n⟩
theorem Qo:Go.Proofs.SlLaysF0.n14 Tryz.prog Gf:={
 mixed:=kM
 f14:=⟨Tryz.f133.name,dM,Tryz.func133.trans (congrArg some kM)⟩
 f15:=Tryz.func134.trans (congrArg some kM)
 f20:=⟨Tryz.f145.name,dM,Tryz.func145.trans (congrArg some kM)⟩
 f21:=⟨Tryz.f146.name,dM,Tryz.func146.trans (congrArg some kM)⟩
 f22:=⟨Tryz.f147.name,dM,Tryz.func147.trans (congrArg some kM)⟩
 f23:=⟨Tryz.f148.name,dM,Tryz.func148.trans (congrArg some kM)⟩
 f24:=⟨Tryz.f149.name,dM,Tryz.func149.trans (congrArg some kM)⟩
 f25:=⟨Tryz.f150.name,dM,Tryz.func150.trans (congrArg some kM)⟩
 f26:=⟨Tryz.f151.name,dM,Tryz.func151.trans (congrArg some kM)⟩
 f27:=⟨Tryz.f152.name,dM,Tryz.func152.trans (congrArg some kM)⟩
 f28:=Tryz.func153.trans (congrArg some kM)
 f29:=Tryz.func154.trans (congrArg some kM)
 f46:=⟨Tryz.f165.name,dM,Tryz.func165.trans (congrArg some kM)⟩
 f47:=Tryz.func166.trans (congrArg some kM)
 f48:=Tryz.func167.trans (congrArg some kM)
 f49:=⟨Tryz.f168.name,dM,Tryz.func168.trans (congrArg some kM)⟩
 f50:=⟨Tryz.f169.name,dM,Tryz.func169.trans (congrArg some kM)⟩
 f57:=⟨Tryz.f174.name,dM,Tryz.func174.trans (congrArg some kM)⟩
 t0:=Tryz.underlying0
 a0:=Tryz.isAgg0
 z0:=Tryz.sizeOf0
 v0:=Tryz.zeroValue0
 t3:=Tryz.underlying3
 a3:=Tryz.isAgg3
 z3:=Tryz.sizeOf3
 v3:=Tryz.zeroValue3
 t4:=Tryz.underlying4
 a4:=Tryz.isAgg4
 z4:=Tryz.sizeOf4
 v4:=Tryz.zeroValue4
 t5:=Tryz.underlying5
 a5:=Tryz.isAgg5
 z5:=Tryz.sizeOf5
 v5:=Tryz.zeroValue5
 t9:=Tryz.underlying9
 a9:=Tryz.isAgg9
 z9:=Tryz.sizeOf9
 v9:=Tryz.zeroValue9
 t22:=Tryz.underlying26
 a22:=Tryz.isAgg26
 z22:=Tryz.sizeOf26
 v22:=Tryz.zeroValue26
 t25:=Tryz.underlying111
 a25:=Tryz.isAgg111
 z25:=Tryz.sizeOf111
 v25:=Tryz.zeroValue111
 t39:=Tryz.underlying105
 a39:=Tryz.isAgg105
 z39:=Tryz.sizeOf105
 v39:=Tryz.zeroValue105
 t45:=Tryz.underlying133
 a45:=Tryz.isAgg133
 z45:=Tryz.sizeOf133
 v45:=Tryz.zeroValue133
 t46:=Tryz.underlying134
 a46:=Tryz.isAgg134
 z46:=Tryz.sizeOf134
 v46:=Tryz.zeroValue134
 t50:=Tryz.underlying138
 a50:=Tryz.isAgg138
 z50:=Tryz.sizeOf138
 v50:=Tryz.zeroValue138
 t53:=Tryz.underlying104
 a53:=Tryz.isAgg104
 z53:=Tryz.sizeOf104
 v53:=Tryz.zeroValue104
 t55:=Tryz.underlying97
 a55:=Tryz.isAgg97
 z55:=Tryz.sizeOf97
 v55:=Tryz.zeroValue97
 t66:=Tryz.underlying153
 a66:=Tryz.isAgg153
 z66:=Tryz.sizeOf153
 v66:=Tryz.zeroValue153
 t70:=Tryz.underlying157
 a70:=Tryz.isAgg157
 z70:=Tryz.sizeOf157
 v70:=Tryz.zeroValue157
 t76:=Tryz.underlying162
 a76:=Tryz.isAgg162
 z76:=Tryz.sizeOf162
 v76:=Tryz.zeroValue162
 t77:=Tryz.underlying163
 a77:=Tryz.isAgg163
 z77:=Tryz.sizeOf163
 v77:=Tryz.zeroValue163 }
def Gg:Go.Shelf.Ren:=⟨fun|125=>134|128=>153|129=>154|n=>n,fun|46=>105|3=>3|51=>104|53=>97|4=>4|5=>5|9=>9|n=>n,fun|n=>n⟩
theorem Ih:Go.Proofs.Lays.n125 Tryz.prog Gg:={
 mixed:=kM
 f125:=Tryz.func134.trans (congrArg some kM)
 f128:=Tryz.func153.trans (congrArg some kM)
 f129:=Tryz.func154.trans (congrArg some kM)
 t3:=Tryz.underlying3
 a3:=Tryz.isAgg3
 z3:=Tryz.sizeOf3
 v3:=Tryz.zeroValue3
 t4:=Tryz.underlying4
 a4:=Tryz.isAgg4
 z4:=Tryz.sizeOf4
 v4:=Tryz.zeroValue4
 t5:=Tryz.underlying5
 a5:=Tryz.isAgg5
 z5:=Tryz.sizeOf5
 v5:=Tryz.zeroValue5
 t9:=Tryz.underlying9
 a9:=Tryz.isAgg9
 z9:=Tryz.sizeOf9
 v9:=Tryz.zeroValue9
 t46:=Tryz.underlying105
 a46:=Tryz.isAgg105
 z46:=Tryz.sizeOf105
 v46:=Tryz.zeroValue105
 t51:=Tryz.underlying104
 a51:=Tryz.isAgg104
 z51:=Tryz.sizeOf104
 v51:=Tryz.zeroValue104
 t53:=Tryz.underlying97
 a53:=Tryz.isAgg97
 z53:=Tryz.sizeOf97
 v53:=Tryz.zeroValue97 }
end Go.Proofs.YtopclbeomcggiaaGreat
