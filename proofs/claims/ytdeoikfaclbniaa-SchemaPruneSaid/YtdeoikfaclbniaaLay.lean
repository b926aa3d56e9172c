/-
  DERIVED: THE SHELF's CONTRACTS AT THIS DUMP, IN PLAIN WORDS (tools/lay-plain.mjs out of 'YtdeoikfaclbniaaLay.lean', which tools/lay-shelf.mjs wrote): THE SAME DECLARATIONS UNDER THE SAME NAMES: 'import', 'namespace', 'open', 'def', 'theorem' AND NOTHING ELSE: no command of the shelf's: FOR A HAND-IN. Each laying: the table of numbers ('.._ren') and one theorem, a field a fact of the dump's own or the kernel's comparison; each contract: ONE APPLICATION.
-/
import Derived.Shelf.Strconv.Itoa3
import Derived.Shelf.LaysM
import Derived.Shelf.SlSortCmp.WholeK
import Derived.Shelf.SlSortCmp.NoneTotal
import Derived.Shelf.SlicesE.Clone
import Derived.Shelf.SlGeneric
import Derived.Ground.SlsfProg
import Derived.Ground.SlgnProg
import Derived.Ground.SlgmProg
import Derived.Shelf.Sort.Plain
import Derived.Shelf.Slices.In.SortNone
import Derived.Ground.NamesProg
import Derived.Test.YtdeoikfaclbniaaProg
namespace Go.Proofs
open Go.Shelf
def Try.lay103_ren : Go.Shelf.Ren := ⟨fun | 189 => 45 | 125 => 69 | 257 => 68 | 128 => 97 | 129 => 98 | 294 => 88 | 295 => 89 | 296 => 90 | 297 => 91 | 298 => 92 | 299 => 93 | 216 => 94 | 300 => 95 | 301 => 96 | 328 => 105 | 329 => 106 | 330 => 107 | 331 => 108 | 332 => 109 | 215 => 110 | 343 => 111 | n => n, fun | 28 => 32 | 3 => 3 | 46 => 94 | 0 => 0 | 51 => 120 | 53 => 122 | 4 => 4 | 183 => 114 | 182 => 113 | 131 => 52 | 5 => 5 | 9 => 9 | 218 => 128 | 222 => 132 | 228 => 134 | 229 => 135 | n => n, fun | n => n⟩
theorem Try.lay103 : Go.Proofs.Lays.n189 Try.prog Try.lay103_ren := {
  mixed := by kernel_rfl
  f125 := Try.func69.trans (congrArg some (by kernel_rfl))
  f128 := Try.func97.trans (congrArg some (by kernel_rfl))
  f129 := Try.func98.trans (congrArg some (by kernel_rfl))
  f189 := Try.func45.trans (congrArg some (by kernel_rfl))
  f215 := Try.func110.trans (congrArg some (by kernel_rfl))
  f216 := Try.func94.trans (congrArg some (by kernel_rfl))
  f257 := Try.func68.trans (congrArg some (by kernel_rfl))
  f294 := Try.func88.trans (congrArg some (by kernel_rfl))
  f295 := Try.func89.trans (congrArg some (by kernel_rfl))
  f296 := Try.func90.trans (congrArg some (by kernel_rfl))
  f297 := Try.func91.trans (congrArg some (by kernel_rfl))
  f298 := Try.func92.trans (congrArg some (by kernel_rfl))
  f299 := Try.func93.trans (congrArg some (by kernel_rfl))
  f300 := Try.func95.trans (congrArg some (by kernel_rfl))
  f301 := Try.func96.trans (congrArg some (by kernel_rfl))
  f328 := Try.func105.trans (congrArg some (by kernel_rfl))
  f329 := Try.func106.trans (congrArg some (by kernel_rfl))
  f330 := Try.func107.trans (congrArg some (by kernel_rfl))
  f331 := Try.func108.trans (congrArg some (by kernel_rfl))
  f332 := Try.func109.trans (congrArg some (by kernel_rfl))
  f343 := Try.func111.trans (congrArg some (by kernel_rfl))
  t0 := Try.underlying0
  a0 := Try.isAgg0
  z0 := Try.sizeOf0
  v0 := Try.zeroValue0
  t3 := Try.underlying3
  a3 := Try.isAgg3
  z3 := Try.sizeOf3
  v3 := Try.zeroValue3
  t4 := Try.underlying4
  a4 := Try.isAgg4
  z4 := Try.sizeOf4
  v4 := Try.zeroValue4
  t5 := Try.underlying5
  a5 := Try.isAgg5
  z5 := Try.sizeOf5
  v5 := Try.zeroValue5
  t9 := Try.underlying9
  a9 := Try.isAgg9
  z9 := Try.sizeOf9
  v9 := Try.zeroValue9
  t28 := Try.underlying32
  a28 := Try.isAgg32
  z28 := Try.sizeOf32
  v28 := Try.zeroValue32
  t46 := Try.underlying94
  a46 := Try.isAgg94
  z46 := Try.sizeOf94
  v46 := Try.zeroValue94
  t51 := Try.underlying120
  a51 := Try.isAgg120
  z51 := Try.sizeOf120
  v51 := Try.zeroValue120
  t53 := Try.underlying122
  a53 := Try.isAgg122
  z53 := Try.sizeOf122
  v53 := Try.zeroValue122
  t131 := Try.underlying52
  a131 := Try.isAgg52
  z131 := Try.sizeOf52
  v131 := Try.zeroValue52
  t182 := Try.underlying113
  a182 := Try.isAgg113
  z182 := Try.sizeOf113
  v182 := Try.zeroValue113
  t183 := Try.underlying114
  a183 := Try.isAgg114
  z183 := Try.sizeOf114
  v183 := Try.zeroValue114
  t218 := Try.underlying128
  a218 := Try.isAgg128
  z218 := Try.sizeOf128
  v218 := Try.zeroValue128
  t222 := Try.underlying132
  a222 := Try.isAgg132
  z222 := Try.sizeOf132
  v222 := Try.zeroValue132
  t228 := Try.underlying134
  a228 := Try.isAgg134
  z228 := Try.sizeOf134
  v228 := Try.zeroValue134
  t229 := Try.underlying135
  a229 := Try.isAgg135
  z229 := Try.sizeOf135
  v229 := Try.zeroValue135 }
def Try.lay313_ren : Go.Shelf.Ren := ⟨fun | 41 => 70 | n => n, fun | 22 => 47 | 23 => 80 | 4 => 4 | n => n, fun | n => n⟩
theorem Try.lay313 : Go.Proofs.SlLaysE0.n41 Try.prog Try.lay313_ren := {
  mixed := by kernel_rfl
  f41 := ⟨Try.f70.name, by decide, Try.func70.trans (congrArg some (by kernel_rfl))⟩
  t4 := Try.underlying4
  a4 := Try.isAgg4
  z4 := Try.sizeOf4
  v4 := Try.zeroValue4
  t22 := Try.underlying47
  a22 := Try.isAgg47
  z22 := Try.sizeOf47
  v22 := Try.zeroValue47 }
def Try.lay314_ren : Go.Shelf.Ren := ⟨fun | 41 => 71 | n => n, fun | 22 => 48 | 23 => 62 | 4 => 4 | n => n, fun | n => n⟩
theorem Try.lay314 : Go.Proofs.SlLaysE0.n41 Try.prog Try.lay314_ren := {
  mixed := by kernel_rfl
  f41 := ⟨Try.f71.name, by decide, Try.func71.trans (congrArg some (by kernel_rfl))⟩
  t4 := Try.underlying4
  a4 := Try.isAgg4
  z4 := Try.sizeOf4
  v4 := Try.zeroValue4
  t22 := Try.underlying48
  a22 := Try.isAgg48
  z22 := Try.sizeOf48
  v22 := Try.zeroValue48 }
def Try.lay331_ren : Go.Shelf.Ren := ⟨fun | 41 => 99 | n => n, fun | 22 => 57 | 23 => 60 | 4 => 4 | n => n, fun | n => n⟩
theorem Try.lay331 : Go.Proofs.SlLaysE0.n41 Try.prog Try.lay331_ren := {
  mixed := by kernel_rfl
  f41 := ⟨Try.f99.name, by decide, Try.func99.trans (congrArg some (by kernel_rfl))⟩
  t4 := Try.underlying4
  a4 := Try.isAgg4
  z4 := Try.sizeOf4
  v4 := Try.zeroValue4
  t22 := Try.underlying57
  a22 := Try.isAgg57
  z22 := Try.sizeOf57
  v22 := Try.zeroValue57 }
def Try.lay332_ren : Go.Shelf.Ren := ⟨fun | 41 => 100 | n => n, fun | 22 => 58 | 23 => 88 | 4 => 4 | n => n, fun | n => n⟩
theorem Try.lay332 : Go.Proofs.SlLaysE0.n41 Try.prog Try.lay332_ren := {
  mixed := by kernel_rfl
  f41 := ⟨Try.f100.name, by decide, Try.func100.trans (congrArg some (by kernel_rfl))⟩
  t4 := Try.underlying4
  a4 := Try.isAgg4
  z4 := Try.sizeOf4
  v4 := Try.zeroValue4
  t22 := Try.underlying58
  a22 := Try.isAgg58
  z22 := Try.sizeOf58
  v22 := Try.zeroValue58 }
end Go.Proofs
