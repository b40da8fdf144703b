/-
  DERIVED: THE SHELF's CONTRACTS AT THIS DUMP, IN PLAIN WORDS (tools/lay-plain.mjs out of 'QcShelf.lean', which tools/lay-shelf.mjs wrote): THE SAME DECLARATIONS UNDER THE SAME NAMES: 'import', 'namespace', 'open', 'def', 'theorem' AND NOTHING ELSE: no command of the shelf's: FOR A HAND-IN. Each laying: the table of numbers ('.._ren') and one theorem, a field a fact of the dump's own or the kernel's comparison; each contract: ONE APPLICATION.
-/
import Derived.Test.YtfkidinbolmkiaaRows
import Derived.Shelf.Sort.AssemblyIn
set_option linter.unusedSimpArgs false
set_option linter.unusedVariables false
namespace Go.Proofs
open Go.Shelf
def Try.lays257_ren : Go.Shelf.Ren := ⟨fun | 257 => 106 | 294 => 112 | 295 => 113 | 296 => 114 | 297 => 115 | 298 => 116 | 299 => 117 | 216 => 118 | 300 => 119 | 301 => 120 | 328 => 124 | 329 => 125 | 330 => 126 | 331 => 127 | 332 => 128 | 215 => 129 | 125 => 107 | 343 => 130 | 128 => 121 | 129 => 122 | n => n, fun | 3 => 3 | 28 => 45 | 4 => 4 | 0 => 0 | 183 => 123 | 182 => 122 | 131 => 58 | 218 => 131 | 46 => 108 | 53 => 59 | 222 => 135 | 228 => 137 | 229 => 94 | 51 => 22 | 5 => 5 | 9 => 9 | n => n, fun | n => n⟩
theorem Try.lays257 : Go.Proofs.Lays.n257 Try.prog Try.lays257_ren := {
  mixed := by kernel_rfl
  f125 := Try.func107.trans (congrArg some (by kernel_rfl))
  f128 := Try.func121.trans (congrArg some (by kernel_rfl))
  f129 := Try.func122.trans (congrArg some (by kernel_rfl))
  f215 := Try.func129.trans (congrArg some (by kernel_rfl))
  f216 := Try.func118.trans (congrArg some (by kernel_rfl))
  f257 := Try.func106.trans (congrArg some (by kernel_rfl))
  f294 := Try.func112.trans (congrArg some (by kernel_rfl))
  f295 := Try.func113.trans (congrArg some (by kernel_rfl))
  f296 := Try.func114.trans (congrArg some (by kernel_rfl))
  f297 := Try.func115.trans (congrArg some (by kernel_rfl))
  f298 := Try.func116.trans (congrArg some (by kernel_rfl))
  f299 := Try.func117.trans (congrArg some (by kernel_rfl))
  f300 := Try.func119.trans (congrArg some (by kernel_rfl))
  f301 := Try.func120.trans (congrArg some (by kernel_rfl))
  f328 := Try.func124.trans (congrArg some (by kernel_rfl))
  f329 := Try.func125.trans (congrArg some (by kernel_rfl))
  f330 := Try.func126.trans (congrArg some (by kernel_rfl))
  f331 := Try.func127.trans (congrArg some (by kernel_rfl))
  f332 := Try.func128.trans (congrArg some (by kernel_rfl))
  f343 := Try.func130.trans (congrArg some (by kernel_rfl))
  t0 := Try.underlying0
  a0 := Try.isAgg0
  z0 := Try.sizeOf0
  v0 := Try.zeroValue0
  t3 := Try.underlying3
  a3 := Try.isAgg3
  z3 := Try.sizeOf3
  v3 := Try.zeroValue3
  t4 := Try.underlying4
  a4 := Try.isAgg4
  z4 := Try.sizeOf4
  v4 := Try.zeroValue4
  t5 := Try.underlying5
  a5 := Try.isAgg5
  z5 := Try.sizeOf5
  v5 := Try.zeroValue5
  t9 := Try.underlying9
  a9 := Try.isAgg9
  z9 := Try.sizeOf9
  v9 := Try.zeroValue9
  t28 := Try.underlying45
  a28 := Try.isAgg45
  z28 := Try.sizeOf45
  v28 := Try.zeroValue45
  t46 := Try.underlying108
  a46 := Try.isAgg108
  z46 := Try.sizeOf108
  v46 := Try.zeroValue108
  t51 := Try.underlying22
  a51 := Try.isAgg22
  z51 := Try.sizeOf22
  v51 := Try.zeroValue22
  t53 := Try.underlying59
  a53 := Try.isAgg59
  z53 := Try.sizeOf59
  v53 := Try.zeroValue59
  t131 := Try.underlying58
  a131 := Try.isAgg58
  z131 := Try.sizeOf58
  v131 := Try.zeroValue58
  t182 := Try.underlying122
  a182 := Try.isAgg122
  z182 := Try.sizeOf122
  v182 := Try.zeroValue122
  t183 := Try.underlying123
  a183 := Try.isAgg123
  z183 := Try.sizeOf123
  v183 := Try.zeroValue123
  t218 := Try.underlying131
  a218 := Try.isAgg131
  z218 := Try.sizeOf131
  v218 := Try.zeroValue131
  t222 := Try.underlying135
  a222 := Try.isAgg135
  z222 := Try.sizeOf135
  v222 := Try.zeroValue135
  t228 := Try.underlying137
  a228 := Try.isAgg137
  z228 := Try.sizeOf137
  v228 := Try.zeroValue137
  t229 := Try.underlying94
  a229 := Try.isAgg94
  z229 := Try.sizeOf94
  v229 := Try.zeroValue94 }
end Go.Proofs
