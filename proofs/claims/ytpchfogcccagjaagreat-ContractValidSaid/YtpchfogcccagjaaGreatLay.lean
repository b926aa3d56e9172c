/-
  DERIVED: THE SHELF's CONTRACTS AT THIS DUMP, IN PLAIN WORDS (tools/lay-plain.mjs out of 'YtpchfogcccagjaaGreatLayT.lean', which tools/lay-shelf.mjs wrote): THE SAME DECLARATIONS UNDER THE SAME NAMES: 'import', 'namespace', 'open', 'def', 'theorem' AND NOTHING ELSE: no command of the shelf's: FOR A HAND-IN. Each laying: the table of numbers ('.._ren') and one theorem, a field a fact of the dump's own or the kernel's comparison; each contract: ONE APPLICATION.
-/
import Derived.Shelf.Strconv.Itoa3
import Derived.Shelf.LaysM
import Derived.Shelf.SlSortCmp.WholeK
import Derived.Shelf.SlSortCmp.NoneTotal
import Derived.Shelf.SlicesE.Clone
import Derived.Shelf.SlGeneric
import Derived.Ground.SlsfProg
import Derived.Ground.SlgnProg
import Derived.Ground.SlgmProg
import Derived.Shelf.Sort.Plain
import Derived.Shelf.Slices.In.SortNone
import Derived.Ground.NamesProg
import Derived.Test.YtpchfogcccagjaaGreatProg
namespace Go.Proofs
open Go.Shelf
def Tryz.DG:Go.Shelf.Ren:=⟨fun|6=>172|15=>101|14=>207|28=>140|29=>141|20=>226|21=>227|22=>228|23=>229|24=>230|25=>231|26=>232|27=>233|46=>248|47=>178|48=>179|49=>249|50=>250|57=>263|n=>n, fun|22=>42|24=>161|25=>241|3=>3|39=>165|0=>0|53=>206|55=>208|4=>4|46=>199|45=>198|50=>203|5=>5|9=>9|66=>245|70=>249|76=>275|77=>276|n=>n, fun|n=>n⟩
theorem Tryz.Jc:Go.Proofs.SlLaysF0.n6 Tryz.prog Tryz.DG:={
  mixed:=by kernel_rfl
  f6:=⟨Tryz.f172.name, by decide, Tryz.func172.trans (congrArg some (by kernel_rfl))⟩
  f14:=⟨Tryz.f207.name, by decide, Tryz.func207.trans (congrArg some (by kernel_rfl))⟩
  f15:=Tryz.func101.trans (congrArg some (by kernel_rfl))
  f20:=⟨Tryz.f226.name, by decide, Tryz.func226.trans (congrArg some (by kernel_rfl))⟩
  f21:=⟨Tryz.f227.name, by decide, Tryz.func227.trans (congrArg some (by kernel_rfl))⟩
  f22:=⟨Tryz.f228.name, by decide, Tryz.func228.trans (congrArg some (by kernel_rfl))⟩
  f23:=⟨Tryz.f229.name, by decide, Tryz.func229.trans (congrArg some (by kernel_rfl))⟩
  f24:=⟨Tryz.f230.name, by decide, Tryz.func230.trans (congrArg some (by kernel_rfl))⟩
  f25:=⟨Tryz.f231.name, by decide, Tryz.func231.trans (congrArg some (by kernel_rfl))⟩
  f26:=⟨Tryz.f232.name, by decide, Tryz.func232.trans (congrArg some (by kernel_rfl))⟩
  f27:=⟨Tryz.f233.name, by decide, Tryz.func233.trans (congrArg some (by kernel_rfl))⟩
  f28:=Tryz.func140.trans (congrArg some (by kernel_rfl))
  f29:=Tryz.func141.trans (congrArg some (by kernel_rfl))
  f46:=⟨Tryz.f248.name, by decide, Tryz.func248.trans (congrArg some (by kernel_rfl))⟩
  f47:=Tryz.func178.trans (congrArg some (by kernel_rfl))
  f48:=Tryz.func179.trans (congrArg some (by kernel_rfl))
  f49:=⟨Tryz.f249.name, by decide, Tryz.func249.trans (congrArg some (by kernel_rfl))⟩
  f50:=⟨Tryz.f250.name, by decide, Tryz.func250.trans (congrArg some (by kernel_rfl))⟩
  f57:=⟨Tryz.f263.name, by decide, Tryz.func263.trans (congrArg some (by kernel_rfl))⟩
  t0:=Tryz.underlying0
  a0:=Tryz.isAgg0
  z0:=Tryz.sizeOf0
  v0:=Tryz.zeroValue0
  t3:=Tryz.underlying3
  a3:=Tryz.isAgg3
  z3:=Tryz.sizeOf3
  v3:=Tryz.zeroValue3
  t4:=Tryz.underlying4
  a4:=Tryz.isAgg4
  z4:=Tryz.sizeOf4
  v4:=Tryz.zeroValue4
  t5:=Tryz.underlying5
  a5:=Tryz.isAgg5
  z5:=Tryz.sizeOf5
  v5:=Tryz.zeroValue5
  t9:=Tryz.underlying9
  a9:=Tryz.isAgg9
  z9:=Tryz.sizeOf9
  v9:=Tryz.zeroValue9
  t22:=Tryz.underlying42
  a22:=Tryz.isAgg42
  z22:=Tryz.sizeOf42
  v22:=Tryz.zeroValue42
  t25:=Tryz.underlying241
  a25:=Tryz.isAgg241
  z25:=Tryz.sizeOf241
  v25:=Tryz.zeroValue241
  t39:=Tryz.underlying165
  a39:=Tryz.isAgg165
  z39:=Tryz.sizeOf165
  v39:=Tryz.zeroValue165
  t45:=Tryz.underlying198
  a45:=Tryz.isAgg198
  z45:=Tryz.sizeOf198
  v45:=Tryz.zeroValue198
  t46:=Tryz.underlying199
  a46:=Tryz.isAgg199
  z46:=Tryz.sizeOf199
  v46:=Tryz.zeroValue199
  t50:=Tryz.underlying203
  a50:=Tryz.isAgg203
  z50:=Tryz.sizeOf203
  v50:=Tryz.zeroValue203
  t53:=Tryz.underlying206
  a53:=Tryz.isAgg206
  z53:=Tryz.sizeOf206
  v53:=Tryz.zeroValue206
  t55:=Tryz.underlying208
  a55:=Tryz.isAgg208
  z55:=Tryz.sizeOf208
  v55:=Tryz.zeroValue208
  t66:=Tryz.underlying245
  a66:=Tryz.isAgg245
  z66:=Tryz.sizeOf245
  v66:=Tryz.zeroValue245
  t70:=Tryz.underlying249
  a70:=Tryz.isAgg249
  z70:=Tryz.sizeOf249
  v70:=Tryz.zeroValue249
  t76:=Tryz.underlying275
  a76:=Tryz.isAgg275
  z76:=Tryz.sizeOf275
  v76:=Tryz.zeroValue275
  t77:=Tryz.underlying276
  a77:=Tryz.isAgg276
  z77:=Tryz.sizeOf276
  v77:=Tryz.zeroValue276 }
def Tryz.DH:Go.Shelf.Ren:=⟨fun|41=>157|n=>n, fun|22=>180|23=>229|4=>4|n=>n, fun|n=>n⟩
theorem Tryz.Sf:Go.Proofs.SlLaysE0.n41 Tryz.prog Tryz.DH:={
  mixed:=by kernel_rfl
  f41:=⟨Tryz.f157.name, by decide, Tryz.func157.trans (congrArg some (by kernel_rfl))⟩
  t4:=Tryz.underlying4
  a4:=Tryz.isAgg4
  z4:=Tryz.sizeOf4
  v4:=Tryz.zeroValue4
  t22:=Tryz.underlying180
  a22:=Tryz.isAgg180
  z22:=Tryz.sizeOf180
  v22:=Tryz.zeroValue180 }
def Tryz.DI:Go.Shelf.Ren:=⟨fun|41=>98|n=>n, fun|22=>42|23=>161|4=>4|n=>n, fun|n=>n⟩
theorem Tryz.Sg:Go.Proofs.SlLaysE0.n41 Tryz.prog Tryz.DI:={
  mixed:=by kernel_rfl
  f41:=⟨Tryz.f98.name, by decide, Tryz.func98.trans (congrArg some (by kernel_rfl))⟩
  t4:=Tryz.underlying4
  a4:=Tryz.isAgg4
  z4:=Tryz.sizeOf4
  v4:=Tryz.zeroValue4
  t22:=Tryz.underlying42
  a22:=Tryz.isAgg42
  z22:=Tryz.sizeOf42
  v22:=Tryz.zeroValue42 }
def Tryz.A9:Go.Shelf.Ren:=⟨fun|189=>68|125=>101|257=>100|128=>140|129=>141|294=>131|295=>132|296=>133|297=>134|298=>135|299=>136|216=>137|300=>138|301=>139|328=>177|329=>178|330=>179|331=>180|332=>181|215=>182|343=>212|n=>n, fun|28=>55|3=>3|46=>165|0=>0|51=>206|53=>208|4=>4|183=>199|182=>198|131=>203|5=>5|9=>9|218=>245|222=>249|228=>275|229=>276|n=>n, fun|n=>n⟩
theorem Tryz.MY:Go.Proofs.Lays.n189 Tryz.prog Tryz.A9:={
  mixed:=by kernel_rfl
  f125:=Tryz.func101.trans (congrArg some (by kernel_rfl))
  f128:=Tryz.func140.trans (congrArg some (by kernel_rfl))
  f129:=Tryz.func141.trans (congrArg some (by kernel_rfl))
  f189:=Tryz.func68.trans (congrArg some (by kernel_rfl))
  f215:=Tryz.func182.trans (congrArg some (by kernel_rfl))
  f216:=Tryz.func137.trans (congrArg some (by kernel_rfl))
  f257:=Tryz.func100.trans (congrArg some (by kernel_rfl))
  f294:=Tryz.func131.trans (congrArg some (by kernel_rfl))
  f295:=Tryz.func132.trans (congrArg some (by kernel_rfl))
  f296:=Tryz.func133.trans (congrArg some (by kernel_rfl))
  f297:=Tryz.func134.trans (congrArg some (by kernel_rfl))
  f298:=Tryz.func135.trans (congrArg some (by kernel_rfl))
  f299:=Tryz.func136.trans (congrArg some (by kernel_rfl))
  f300:=Tryz.func138.trans (congrArg some (by kernel_rfl))
  f301:=Tryz.func139.trans (congrArg some (by kernel_rfl))
  f328:=Tryz.func177.trans (congrArg some (by kernel_rfl))
  f329:=Tryz.func178.trans (congrArg some (by kernel_rfl))
  f330:=Tryz.func179.trans (congrArg some (by kernel_rfl))
  f331:=Tryz.func180.trans (congrArg some (by kernel_rfl))
  f332:=Tryz.func181.trans (congrArg some (by kernel_rfl))
  f343:=Tryz.func212.trans (congrArg some (by kernel_rfl))
  t0:=Tryz.underlying0
  a0:=Tryz.isAgg0
  z0:=Tryz.sizeOf0
  v0:=Tryz.zeroValue0
  t3:=Tryz.underlying3
  a3:=Tryz.isAgg3
  z3:=Tryz.sizeOf3
  v3:=Tryz.zeroValue3
  t4:=Tryz.underlying4
  a4:=Tryz.isAgg4
  z4:=Tryz.sizeOf4
  v4:=Tryz.zeroValue4
  t5:=Tryz.underlying5
  a5:=Tryz.isAgg5
  z5:=Tryz.sizeOf5
  v5:=Tryz.zeroValue5
  t9:=Tryz.underlying9
  a9:=Tryz.isAgg9
  z9:=Tryz.sizeOf9
  v9:=Tryz.zeroValue9
  t28:=Tryz.underlying55
  a28:=Tryz.isAgg55
  z28:=Tryz.sizeOf55
  v28:=Tryz.zeroValue55
  t46:=Tryz.underlying165
  a46:=Tryz.isAgg165
  z46:=Tryz.sizeOf165
  v46:=Tryz.zeroValue165
  t51:=Tryz.underlying206
  a51:=Tryz.isAgg206
  z51:=Tryz.sizeOf206
  v51:=Tryz.zeroValue206
  t53:=Tryz.underlying208
  a53:=Tryz.isAgg208
  z53:=Tryz.sizeOf208
  v53:=Tryz.zeroValue208
  t131:=Tryz.underlying203
  a131:=Tryz.isAgg203
  z131:=Tryz.sizeOf203
  v131:=Tryz.zeroValue203
  t182:=Tryz.underlying198
  a182:=Tryz.isAgg198
  z182:=Tryz.sizeOf198
  v182:=Tryz.zeroValue198
  t183:=Tryz.underlying199
  a183:=Tryz.isAgg199
  z183:=Tryz.sizeOf199
  v183:=Tryz.zeroValue199
  t218:=Tryz.underlying245
  a218:=Tryz.isAgg245
  z218:=Tryz.sizeOf245
  v218:=Tryz.zeroValue245
  t222:=Tryz.underlying249
  a222:=Tryz.isAgg249
  z222:=Tryz.sizeOf249
  v222:=Tryz.zeroValue249
  t228:=Tryz.underlying275
  a228:=Tryz.isAgg275
  z228:=Tryz.sizeOf275
  v228:=Tryz.zeroValue275
  t229:=Tryz.underlying276
  a229:=Tryz.isAgg276
  z229:=Tryz.sizeOf276
  v229:=Tryz.zeroValue276 }
def Tryz.Ba:Go.Shelf.Ren:=⟨fun|41=>57|n=>n, fun|22=>100|23=>107|4=>4|n=>n, fun|n=>n⟩
theorem Tryz.MZ:Go.Proofs.SlLaysE0.n41 Tryz.prog Tryz.Ba:={
  mixed:=by kernel_rfl
  f41:=⟨Tryz.f57.name, by decide, Tryz.func57.trans (congrArg some (by kernel_rfl))⟩
  t4:=Tryz.underlying4
  a4:=Tryz.isAgg4
  z4:=Tryz.sizeOf4
  v4:=Tryz.zeroValue4
  t22:=Tryz.underlying100
  a22:=Tryz.isAgg100
  z22:=Tryz.sizeOf100
  v22:=Tryz.zeroValue100 }
def Tryz.Bb:Go.Shelf.Ren:=⟨fun|41=>58|n=>n, fun|22=>101|23=>114|4=>4|n=>n, fun|n=>n⟩
theorem Tryz.M0:Go.Proofs.SlLaysE0.n41 Tryz.prog Tryz.Bb:={
  mixed:=by kernel_rfl
  f41:=⟨Tryz.f58.name, by decide, Tryz.func58.trans (congrArg some (by kernel_rfl))⟩
  t4:=Tryz.underlying4
  a4:=Tryz.isAgg4
  z4:=Tryz.sizeOf4
  v4:=Tryz.zeroValue4
  t22:=Tryz.underlying101
  a22:=Tryz.isAgg101
  z22:=Tryz.sizeOf101
  v22:=Tryz.zeroValue101 }
def Tryz.Bi:Go.Shelf.Ren:=⟨fun|41=>97|n=>n, fun|22=>41|23=>117|4=>4|n=>n, fun|n=>n⟩
theorem Tryz.M8:Go.Proofs.SlLaysE0.n41 Tryz.prog Tryz.Bi:={
  mixed:=by kernel_rfl
  f41:=⟨Tryz.f97.name, by decide, Tryz.func97.trans (congrArg some (by kernel_rfl))⟩
  t4:=Tryz.underlying4
  a4:=Tryz.isAgg4
  z4:=Tryz.sizeOf4
  v4:=Tryz.zeroValue4
  t22:=Tryz.underlying41
  a22:=Tryz.isAgg41
  z22:=Tryz.sizeOf41
  v22:=Tryz.zeroValue41 }
end Go.Proofs
