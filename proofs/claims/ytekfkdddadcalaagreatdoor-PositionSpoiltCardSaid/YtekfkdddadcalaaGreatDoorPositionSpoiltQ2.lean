/- slices.Sort at []int, laid by program; no condition. -/
import Derived.Shelf.Slices.In.SortNone
import Derived.Shelf.Sort.Plain
import Derived.Test.YtekfkdddadcalaaGreatDoorProg
set_option maxRecDepth 100000
set_option maxHeartbeats 4000000
namespace Go.Proofs.YtekfkdddadcalaaGreatDoor
open Go Go.Proofs Go.Shelf
def uH:Go.Shelf.Ren:=⟨fun | 189=>93 | 125=>132 | 257=>131 | 128=>178 | 129=>179 | 294=>169 | 295=>170 | 296=>171 | 297=>172 | 298=>173 | 299=>174 | 216=>175 | 300=>176 | 301=>177 | 328=>214 | 329=>215 | 330=>216 | 331=>217 | 332=>218 | 215=>118 | 343=>251 | n=>n,fun | 28=>22 | 3=>3 | 46=>187 | 0=>0 | 51=>54 | 53=>196 | 4=>4 | 183=>215 | 182=>214 | 131=>164 | 5=>5 | 9=>9 | 218=>250 | 222=>254 | 228=>278 | 229=>279 | n=>n,fun | n=>n⟩
theorem yx:Go.Proofs.Lays.n189 Tryz.prog uH:={
 mixed:=by kernel_rfl
 f125:=Tryz.func132.trans (congrArg some (by kernel_rfl))
 f128:=Tryz.func178.trans (congrArg some (by kernel_rfl))
 f129:=Tryz.func179.trans (congrArg some (by kernel_rfl))
 f189:=Tryz.func93.trans (congrArg some (by kernel_rfl))
 f215:=Tryz.func118.trans (congrArg some (by kernel_rfl))
 f216:=Tryz.func175.trans (congrArg some (by kernel_rfl))
 f257:=Tryz.func131.trans (congrArg some (by kernel_rfl))
 f294:=Tryz.func169.trans (congrArg some (by kernel_rfl))
 f295:=Tryz.func170.trans (congrArg some (by kernel_rfl))
 f296:=Tryz.func171.trans (congrArg some (by kernel_rfl))
 f297:=Tryz.func172.trans (congrArg some (by kernel_rfl))
 f298:=Tryz.func173.trans (congrArg some (by kernel_rfl))
 f299:=Tryz.func174.trans (congrArg some (by kernel_rfl))
 f300:=Tryz.func176.trans (congrArg some (by kernel_rfl))
 f301:=Tryz.func177.trans (congrArg some (by kernel_rfl))
 f328:=Tryz.func214.trans (congrArg some (by kernel_rfl))
 f329:=Tryz.func215.trans (congrArg some (by kernel_rfl))
 f330:=Tryz.func216.trans (congrArg some (by kernel_rfl))
 f331:=Tryz.func217.trans (congrArg some (by kernel_rfl))
 f332:=Tryz.func218.trans (congrArg some (by kernel_rfl))
 f343:=Tryz.func251.trans (congrArg some (by kernel_rfl))
 t0:=Tryz.underlying0
 a0:=Tryz.isAgg0
 z0:=Tryz.sizeOf0
 v0:=Tryz.zeroValue0
 t3:=Tryz.underlying3
 a3:=Tryz.isAgg3
 z3:=Tryz.sizeOf3
 v3:=Tryz.zeroValue3
 t4:=Tryz.underlying4
 a4:=Tryz.isAgg4
 z4:=Tryz.sizeOf4
 v4:=Tryz.zeroValue4
 t5:=Tryz.underlying5
 a5:=Tryz.isAgg5
 z5:=Tryz.sizeOf5
 v5:=Tryz.zeroValue5
 t9:=Tryz.underlying9
 a9:=Tryz.isAgg9
 z9:=Tryz.sizeOf9
 v9:=Tryz.zeroValue9
 t28:=Tryz.underlying22
 a28:=Tryz.isAgg22
 z28:=Tryz.sizeOf22
 v28:=Tryz.zeroValue22
 t46:=Tryz.underlying187
 a46:=Tryz.isAgg187
 z46:=Tryz.sizeOf187
 v46:=Tryz.zeroValue187
 t51:=Tryz.underlying54
 a51:=Tryz.isAgg54
 z51:=Tryz.sizeOf54
 v51:=Tryz.zeroValue54
 t53:=Tryz.underlying196
 a53:=Tryz.isAgg196
 z53:=Tryz.sizeOf196
 v53:=Tryz.zeroValue196
 t131:=Tryz.underlying164
 a131:=Tryz.isAgg164
 z131:=Tryz.sizeOf164
 v131:=Tryz.zeroValue164
 t182:=Tryz.underlying214
 a182:=Tryz.isAgg214
 z182:=Tryz.sizeOf214
 v182:=Tryz.zeroValue214
 t183:=Tryz.underlying215
 a183:=Tryz.isAgg215
 z183:=Tryz.sizeOf215
 v183:=Tryz.zeroValue215
 t218:=Tryz.underlying250
 a218:=Tryz.isAgg250
 z218:=Tryz.sizeOf250
 v218:=Tryz.zeroValue250
 t222:=Tryz.underlying254
 a222:=Tryz.isAgg254
 z222:=Tryz.sizeOf254
 v222:=Tryz.zeroValue254
 t228:=Tryz.underlying278
 a228:=Tryz.isAgg278
 z228:=Tryz.sizeOf278
 v228:=Tryz.zeroValue278
 t229:=Tryz.underlying279
 a229:=Tryz.isAgg279
 z229:=Tryz.sizeOf279
 v229:=Tryz.zeroValue279 }
end Go.Proofs.YtekfkdddadcalaaGreatDoor
