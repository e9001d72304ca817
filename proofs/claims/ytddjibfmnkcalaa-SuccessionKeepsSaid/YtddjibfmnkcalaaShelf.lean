/- The contracts that the shelf gives for this program. -/
import Derived.Shelf.SlSortCmp.WholeK
import Derived.Shelf.Sort.Plain
import Derived.Shelf.Strings.Split
import Derived.Shelf.Bits.Mul64
import Derived.Ground.SlsfProg
import Derived.Ground.NamesProg
import Derived.Test.YtddjibfmnkcalaaProg
namespace Go.Proofs
open Go.Shelf
def Try.sortStr_ren : Go.Shelf.Ren := ⟨fun | 190 => 51 | 125 => 59 | 258 => 58 | 128 => 71 | 129 => 72 | 302 => 62 | 303 => 63 | 304 => 64 | 305 => 65 | 306 => 66 | 307 => 67 | 308 => 68 | 309 => 69 | 310 => 70 | 333 => 75 | 329 => 76 | 330 => 77 | 334 => 78 | 335 => 79 | 336 => 80 | 344 => 81 | n => n, fun | 31 => 37 | 9 => 9 | 3 => 3 | 46 => 116 | 0 => 0 | 51 => 129 | 53 => 131 | 4 => 4 | 183 => 122 | 182 => 121 | 131 => 86 | 5 => 5 | 218 => 136 | 222 => 140 | 228 => 142 | 229 => 143 | n => n, fun | n => n⟩
theorem Try.sortStr : Go.Proofs.Lays.n190 Try.prog Try.sortStr_ren := {
  mixed := by kernel_rfl
  f125 := Try.func59.trans (congrArg some (by kernel_rfl))
  f128 := Try.func71.trans (congrArg some (by kernel_rfl))
  f129 := Try.func72.trans (congrArg some (by kernel_rfl))
  f190 := Try.func51.trans (congrArg some (by kernel_rfl))
  f258 := Try.func58.trans (congrArg some (by kernel_rfl))
  f302 := Try.func62.trans (congrArg some (by kernel_rfl))
  f303 := Try.func63.trans (congrArg some (by kernel_rfl))
  f304 := Try.func64.trans (congrArg some (by kernel_rfl))
  f305 := Try.func65.trans (congrArg some (by kernel_rfl))
  f306 := Try.func66.trans (congrArg some (by kernel_rfl))
  f307 := Try.func67.trans (congrArg some (by kernel_rfl))
  f308 := Try.func68.trans (congrArg some (by kernel_rfl))
  f309 := Try.func69.trans (congrArg some (by kernel_rfl))
  f310 := Try.func70.trans (congrArg some (by kernel_rfl))
  f329 := Try.func76.trans (congrArg some (by kernel_rfl))
  f330 := Try.func77.trans (congrArg some (by kernel_rfl))
  f333 := Try.func75.trans (congrArg some (by kernel_rfl))
  f334 := Try.func78.trans (congrArg some (by kernel_rfl))
  f335 := Try.func79.trans (congrArg some (by kernel_rfl))
  f336 := Try.func80.trans (congrArg some (by kernel_rfl))
  f344 := Try.func81.trans (congrArg some (by kernel_rfl))
  t0 := Try.underlying0
  a0 := Try.isAgg0
  z0 := Try.sizeOf0
  v0 := Try.zeroValue0
  t3 := Try.underlying3
  a3 := Try.isAgg3
  z3 := Try.sizeOf3
  v3 := Try.zeroValue3
  t4 := Try.underlying4
  a4 := Try.isAgg4
  z4 := Try.sizeOf4
  v4 := Try.zeroValue4
  t5 := Try.underlying5
  a5 := Try.isAgg5
  z5 := Try.sizeOf5
  v5 := Try.zeroValue5
  t9 := Try.underlying9
  a9 := Try.isAgg9
  z9 := Try.sizeOf9
  v9 := Try.zeroValue9
  t31 := Try.underlying37
  a31 := Try.isAgg37
  z31 := Try.sizeOf37
  v31 := Try.zeroValue37
  t46 := Try.underlying116
  a46 := Try.isAgg116
  z46 := Try.sizeOf116
  v46 := Try.zeroValue116
  t51 := Try.underlying129
  a51 := Try.isAgg129
  z51 := Try.sizeOf129
  v51 := Try.zeroValue129
  t53 := Try.underlying131
  a53 := Try.isAgg131
  z53 := Try.sizeOf131
  v53 := Try.zeroValue131
  t131 := Try.underlying86
  a131 := Try.isAgg86
  z131 := Try.sizeOf86
  v131 := Try.zeroValue86
  t182 := Try.underlying121
  a182 := Try.isAgg121
  z182 := Try.sizeOf121
  v182 := Try.zeroValue121
  t183 := Try.underlying122
  a183 := Try.isAgg122
  z183 := Try.sizeOf122
  v183 := Try.zeroValue122
  t218 := Try.underlying136
  a218 := Try.isAgg136
  z218 := Try.sizeOf136
  v218 := Try.zeroValue136
  t222 := Try.underlying140
  a222 := Try.isAgg140
  z222 := Try.sizeOf140
  v222 := Try.zeroValue140
  t228 := Try.underlying142
  a228 := Try.isAgg142
  z228 := Try.sizeOf142
  v228 := Try.zeroValue142
  t229 := Try.underlying143
  a229 := Try.isAgg143
  z229 := Try.sizeOf143
  v229 := Try.zeroValue143 }
def Try.mul_ren : Go.Shelf.Ren := ⟨fun | 212 => 61 | 263 => 73 | 264 => 74 | n => n, fun | 46 => 116 | 51 => 129 | 146 => 132 | 53 => 131 | 148 => 134 | n => n, fun | n => n⟩
theorem Try.mul : Go.Proofs.Lays.n212 Try.prog Try.mul_ren := {
  mixed := by kernel_rfl
  f212 := Try.func61.trans (congrArg some (by kernel_rfl))
  f263 := Try.func73.trans (congrArg some (by kernel_rfl))
  f264 := Try.func74.trans (congrArg some (by kernel_rfl))
  t46 := Try.underlying116
  a46 := Try.isAgg116
  z46 := Try.sizeOf116
  v46 := Try.zeroValue116
  t51 := Try.underlying129
  a51 := Try.isAgg129
  z51 := Try.sizeOf129
  v51 := Try.zeroValue129
  t53 := Try.underlying131
  a53 := Try.isAgg131
  z53 := Try.sizeOf131
  v53 := Try.zeroValue131
  t146 := Try.underlying132
  a146 := Try.isAgg132
  z146 := Try.sizeOf132
  v146 := Try.zeroValue132
  t148 := Try.underlying134
  a148 := Try.isAgg134
  z148 := Try.sizeOf134
  v148 := Try.zeroValue134 }
end Go.Proofs
