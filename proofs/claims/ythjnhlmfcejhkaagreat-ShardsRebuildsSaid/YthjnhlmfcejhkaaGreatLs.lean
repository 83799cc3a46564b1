/- A part of the proof. Conditions: as each theorem says. -/
import Derived.Test.YthjnhlmfcejhkaaGreatProg
import Derived.Shelf.Sort.Plain
import Derived.KernelRfl
namespace Go.Proofs.YthjnhlmfcejhkaaGreat
open Go Go.Shelf
set_option maxRecDepth 100000
def sortRen : Go.Shelf.Ren := ⟨fun | 189 => 86 | 125 => 114 | 257 => 113 | 128 => 142 | 129 => 143 | 216 => 139 | 215 => 151 | 343 => 152 | 294 => 133 | 295 => 134 | 296 => 135 | 297 => 136 | 298 => 137 | 299 => 138 | 300 => 140 | 301 => 141 | 328 => 146 | 329 => 147 | 330 => 148 | 331 => 149 | 332 => 150 | n => n, fun | 28 => 45 | 3 => 3 | 46 => 47 | 0 => 0 | 51 => 31 | 53 => 57 | 4 => 4 | 183 => 185 | 182 => 184 | 131 => 189 | 5 => 5 | 9 => 9 | 218 => 194 | 222 => 198 | 228 => 200 | 229 => 201 | n => n, fun | n => n⟩
theorem sortLays : Lays.n189 Tryz.prog sortRen where
 mixed := by kernel_rfl
 f125 := Tryz.func114.trans (congrArg some (by kernel_rfl))
 f128 := Tryz.func142.trans (congrArg some (by kernel_rfl))
 f129 := Tryz.func143.trans (congrArg some (by kernel_rfl))
 f189 := Tryz.func86.trans (congrArg some (by kernel_rfl))
 f215 := Tryz.func151.trans (congrArg some (by kernel_rfl))
 f216 := Tryz.func139.trans (congrArg some (by kernel_rfl))
 f257 := Tryz.func113.trans (congrArg some (by kernel_rfl))
 f294 := Tryz.func133.trans (congrArg some (by kernel_rfl))
 f295 := Tryz.func134.trans (congrArg some (by kernel_rfl))
 f296 := Tryz.func135.trans (congrArg some (by kernel_rfl))
 f297 := Tryz.func136.trans (congrArg some (by kernel_rfl))
 f298 := Tryz.func137.trans (congrArg some (by kernel_rfl))
 f299 := Tryz.func138.trans (congrArg some (by kernel_rfl))
 f300 := Tryz.func140.trans (congrArg some (by kernel_rfl))
 f301 := Tryz.func141.trans (congrArg some (by kernel_rfl))
 f328 := Tryz.func146.trans (congrArg some (by kernel_rfl))
 f329 := Tryz.func147.trans (congrArg some (by kernel_rfl))
 f330 := Tryz.func148.trans (congrArg some (by kernel_rfl))
 f331 := Tryz.func149.trans (congrArg some (by kernel_rfl))
 f332 := Tryz.func150.trans (congrArg some (by kernel_rfl))
 f343 := Tryz.func152.trans (congrArg some (by kernel_rfl))
 t0 := Tryz.underlying0
 a0 := Tryz.isAgg0
 z0 := Tryz.sizeOf0
 v0 := Tryz.zeroValue0
 t3 := Tryz.underlying3
 a3 := Tryz.isAgg3
 z3 := Tryz.sizeOf3
 v3 := Tryz.zeroValue3
 t4 := Tryz.underlying4
 a4 := Tryz.isAgg4
 z4 := Tryz.sizeOf4
 v4 := Tryz.zeroValue4
 t5 := Tryz.underlying5
 a5 := Tryz.isAgg5
 z5 := Tryz.sizeOf5
 v5 := Tryz.zeroValue5
 t9 := Tryz.underlying9
 a9 := Tryz.isAgg9
 z9 := Tryz.sizeOf9
 v9 := Tryz.zeroValue9
 t28 := Tryz.underlying45
 a28 := Tryz.isAgg45
 z28 := Tryz.sizeOf45
 v28 := Tryz.zeroValue45
 t46 := Tryz.underlying47
 a46 := Tryz.isAgg47
 z46 := Tryz.sizeOf47
 v46 := Tryz.zeroValue47
 t51 := Tryz.underlying31
 a51 := Tryz.isAgg31
 z51 := Tryz.sizeOf31
 v51 := Tryz.zeroValue31
 t53 := Tryz.underlying57
 a53 := Tryz.isAgg57
 z53 := Tryz.sizeOf57
 v53 := Tryz.zeroValue57
 t131 := Tryz.underlying189
 a131 := Tryz.isAgg189
 z131 := Tryz.sizeOf189
 v131 := Tryz.zeroValue189
 t182 := Tryz.underlying184
 a182 := Tryz.isAgg184
 z182 := Tryz.sizeOf184
 v182 := Tryz.zeroValue184
 t183 := Tryz.underlying185
 a183 := Tryz.isAgg185
 z183 := Tryz.sizeOf185
 v183 := Tryz.zeroValue185
 t218 := Tryz.underlying194
 a218 := Tryz.isAgg194
 z218 := Tryz.sizeOf194
 v218 := Tryz.zeroValue194
 t222 := Tryz.underlying198
 a222 := Tryz.isAgg198
 z222 := Tryz.sizeOf198
 v222 := Tryz.zeroValue198
 t228 := Tryz.underlying200
 a228 := Tryz.isAgg200
 z228 := Tryz.sizeOf200
 v228 := Tryz.zeroValue200
 t229 := Tryz.underlying201
 a229 := Tryz.isAgg201
 z229 := Tryz.sizeOf201
 v229 := Tryz.zeroValue201
end Go.Proofs.YthjnhlmfcejhkaaGreat
