/- slices.Sort at []int, laid by program; no condition. -/
import Derived.Shelf.Slices.In.SortNone
import Derived.Shelf.Sort.Plain
import Derived.Test.YtinojijgeabfnaaGreatDoorProg
set_option maxRecDepth 100000
set_option maxHeartbeats 4000000
namespace Go.Proofs.YtinojijgeabfnaaGreatDoor
open Go Go.Proofs Go.Shelf
def lays189_ren:Go.Shelf.Ren:=⟨fun | 189=>110 | 125=>149 | 257=>148 | 128=>190 | 129=>191 | 294=>181 | 295=>182 | 296=>183 | 297=>184 | 298=>185 | 299=>186 | 216=>187 | 300=>188 | 301=>189 | 328=>217 | 329=>218 | 330=>219 | 331=>220 | 332=>221 | 215=>222 | 343=>240 | n=>n,fun | 28=>45 | 3=>3 | 46=>154 | 0=>0 | 51=>24 | 53=>152 | 4=>4 | 183=>193 | 182=>192 | 131=>197 | 5=>5 | 9=>9 | 218=>229 | 222=>233 | 228=>242 | 229=>243 | n=>n,fun | n=>n⟩
theorem lays189:Go.Proofs.Lays.n189 Tryz.prog lays189_ren:={
 mixed:=by kernel_rfl
 f125:=Tryz.func149.trans (congrArg some (by kernel_rfl))
 f128:=Tryz.func190.trans (congrArg some (by kernel_rfl))
 f129:=Tryz.func191.trans (congrArg some (by kernel_rfl))
 f189:=Tryz.func110.trans (congrArg some (by kernel_rfl))
 f215:=Tryz.func222.trans (congrArg some (by kernel_rfl))
 f216:=Tryz.func187.trans (congrArg some (by kernel_rfl))
 f257:=Tryz.func148.trans (congrArg some (by kernel_rfl))
 f294:=Tryz.func181.trans (congrArg some (by kernel_rfl))
 f295:=Tryz.func182.trans (congrArg some (by kernel_rfl))
 f296:=Tryz.func183.trans (congrArg some (by kernel_rfl))
 f297:=Tryz.func184.trans (congrArg some (by kernel_rfl))
 f298:=Tryz.func185.trans (congrArg some (by kernel_rfl))
 f299:=Tryz.func186.trans (congrArg some (by kernel_rfl))
 f300:=Tryz.func188.trans (congrArg some (by kernel_rfl))
 f301:=Tryz.func189.trans (congrArg some (by kernel_rfl))
 f328:=Tryz.func217.trans (congrArg some (by kernel_rfl))
 f329:=Tryz.func218.trans (congrArg some (by kernel_rfl))
 f330:=Tryz.func219.trans (congrArg some (by kernel_rfl))
 f331:=Tryz.func220.trans (congrArg some (by kernel_rfl))
 f332:=Tryz.func221.trans (congrArg some (by kernel_rfl))
 f343:=Tryz.func240.trans (congrArg some (by kernel_rfl))
 t0:=Tryz.underlying0
 a0:=Tryz.isAgg0
 z0:=Tryz.sizeOf0
 v0:=Tryz.zeroValue0
 t3:=Tryz.underlying3
 a3:=Tryz.isAgg3
 z3:=Tryz.sizeOf3
 v3:=Tryz.zeroValue3
 t4:=Tryz.underlying4
 a4:=Tryz.isAgg4
 z4:=Tryz.sizeOf4
 v4:=Tryz.zeroValue4
 t5:=Tryz.underlying5
 a5:=Tryz.isAgg5
 z5:=Tryz.sizeOf5
 v5:=Tryz.zeroValue5
 t9:=Tryz.underlying9
 a9:=Tryz.isAgg9
 z9:=Tryz.sizeOf9
 v9:=Tryz.zeroValue9
 t28:=Tryz.underlying45
 a28:=Tryz.isAgg45
 z28:=Tryz.sizeOf45
 v28:=Tryz.zeroValue45
 t46:=Tryz.underlying154
 a46:=Tryz.isAgg154
 z46:=Tryz.sizeOf154
 v46:=Tryz.zeroValue154
 t51:=Tryz.underlying24
 a51:=Tryz.isAgg24
 z51:=Tryz.sizeOf24
 v51:=Tryz.zeroValue24
 t53:=Tryz.underlying152
 a53:=Tryz.isAgg152
 z53:=Tryz.sizeOf152
 v53:=Tryz.zeroValue152
 t131:=Tryz.underlying197
 a131:=Tryz.isAgg197
 z131:=Tryz.sizeOf197
 v131:=Tryz.zeroValue197
 t182:=Tryz.underlying192
 a182:=Tryz.isAgg192
 z182:=Tryz.sizeOf192
 v182:=Tryz.zeroValue192
 t183:=Tryz.underlying193
 a183:=Tryz.isAgg193
 z183:=Tryz.sizeOf193
 v183:=Tryz.zeroValue193
 t218:=Tryz.underlying229
 a218:=Tryz.isAgg229
 z218:=Tryz.sizeOf229
 v218:=Tryz.zeroValue229
 t222:=Tryz.underlying233
 a222:=Tryz.isAgg233
 z222:=Tryz.sizeOf233
 v222:=Tryz.zeroValue233
 t228:=Tryz.underlying242
 a228:=Tryz.isAgg242
 z228:=Tryz.sizeOf242
 v228:=Tryz.zeroValue242
 t229:=Tryz.underlying243
 a229:=Tryz.isAgg243
 z229:=Tryz.sizeOf243
 v229:=Tryz.zeroValue243 }
end Go.Proofs.YtinojijgeabfnaaGreatDoor
