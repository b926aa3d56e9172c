/-
  DERIVED: THE SHELF's CONTRACTS AT THIS DUMP, IN PLAIN WORDS (tools/lay-plain.mjs out of 'YtdeoikfaclbniaaLay.lean', which tools/lay-shelf.mjs wrote): THE SAME DECLARATIONS UNDER THE SAME NAMES: 'import', 'namespace', 'open', 'def', 'theorem' AND NOTHING ELSE: no command of the shelf's: FOR A HAND-IN. Each laying: the table of numbers ('.._ren') and one theorem, a field a fact of the dump's own or the kernel's comparison; each contract: ONE APPLICATION.
-/
import Derived.Shelf.SlSortCmp.WholeK
import Derived.Shelf.SlSortCmp.NoneTotal
import Derived.Shelf.SlicesE.Clone
import Derived.Shelf.SlGeneric
import Derived.Ground.SlsfProg
import Derived.Ground.SlgnProg
import Derived.Ground.SlgmProg
import Derived.Shelf.Sort.Plain
import Derived.Shelf.Slices.In.SortNone
import Derived.Ground.NamesProg
import Derived.Test.YtdeoikfaclbniaaProg
namespace Go.Proofs
open Go.Shelf
def Try.lay313_ren : Go.Shelf.Ren := ⟨fun | 41 => 70 | n => n, fun | 22 => 47 | 23 => 80 | 4 => 4 | n => n, fun | n => n⟩
theorem Try.lay313 : Go.Proofs.SlLaysE0.n41 Try.prog Try.lay313_ren := {
  mixed := by kernel_rfl
  f41 := ⟨Try.f70.name, by decide, Try.func70.trans (congrArg some (by kernel_rfl))⟩
  t4 := Try.underlying4
  a4 := Try.isAgg4
  z4 := Try.sizeOf4
  v4 := Try.zeroValue4
  t22 := Try.underlying47
  a22 := Try.isAgg47
  z22 := Try.sizeOf47
  v22 := Try.zeroValue47 }
def Try.lay314_ren : Go.Shelf.Ren := ⟨fun | 41 => 71 | n => n, fun | 22 => 48 | 23 => 62 | 4 => 4 | n => n, fun | n => n⟩
theorem Try.lay314 : Go.Proofs.SlLaysE0.n41 Try.prog Try.lay314_ren := {
  mixed := by kernel_rfl
  f41 := ⟨Try.f71.name, by decide, Try.func71.trans (congrArg some (by kernel_rfl))⟩
  t4 := Try.underlying4
  a4 := Try.isAgg4
  z4 := Try.sizeOf4
  v4 := Try.zeroValue4
  t22 := Try.underlying48
  a22 := Try.isAgg48
  z22 := Try.sizeOf48
  v22 := Try.zeroValue48 }
def Try.lay331_ren : Go.Shelf.Ren := ⟨fun | 41 => 99 | n => n, fun | 22 => 57 | 23 => 60 | 4 => 4 | n => n, fun | n => n⟩
theorem Try.lay331 : Go.Proofs.SlLaysE0.n41 Try.prog Try.lay331_ren := {
  mixed := by kernel_rfl
  f41 := ⟨Try.f99.name, by decide, Try.func99.trans (congrArg some (by kernel_rfl))⟩
  t4 := Try.underlying4
  a4 := Try.isAgg4
  z4 := Try.sizeOf4
  v4 := Try.zeroValue4
  t22 := Try.underlying57
  a22 := Try.isAgg57
  z22 := Try.sizeOf57
  v22 := Try.zeroValue57 }
def Try.lay332_ren : Go.Shelf.Ren := ⟨fun | 41 => 100 | n => n, fun | 22 => 58 | 23 => 88 | 4 => 4 | n => n, fun | n => n⟩
theorem Try.lay332 : Go.Proofs.SlLaysE0.n41 Try.prog Try.lay332_ren := {
  mixed := by kernel_rfl
  f41 := ⟨Try.f100.name, by decide, Try.func100.trans (congrArg some (by kernel_rfl))⟩
  t4 := Try.underlying4
  a4 := Try.isAgg4
  z4 := Try.sizeOf4
  v4 := Try.zeroValue4
  t22 := Try.underlying58
  a22 := Try.isAgg58
  z22 := Try.sizeOf58
  v22 := Try.zeroValue58 }
end Go.Proofs
