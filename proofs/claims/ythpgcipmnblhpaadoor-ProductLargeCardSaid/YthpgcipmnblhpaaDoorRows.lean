/-
  NARROWER THAN 'FOR EVERY INPUT', by the rows' own cells (each row's printed sentence says how): ProductValid: laid · ProductFits: laid · ProductRun: laid · ProductReachable: laid · ProductSwapped: laid · ProductCapacity: laid · ProductLarge: laid · ProductMoves: laid · ProductApply: laid.
  DERIVED. THE GIVEN ROWS OF THIS SEAT. 9 by the template 'for every input the law returns true; each argument reads behind the call as it read before'; 0 by the template 'total and deterministic' (their statements: YthpgcipmnblhpaaDoorTotals.lean).
  GIVEN WITH THE SEED: the statements are not yours to turn. If you find one false, say at which input.
  Laid BY PROGRAM, IN A SANDBOX (cutbox-rows.mjs): the forced cells as the released guide's own fill.sh prints them over the translation db438eb19ea27f67… (all of the seat's roots in one cut). By AI agents, Wed Nov 11 2026. No macro, syntax, notation, axiom, sorry.
-/
import Derived.Test.YthpgcipmnblhpaaDoorChecked
import GoSem.Claim
import GoSem.ClaimJoined
import GoSem.ClaimMapViews
import Derived.JoinedTies
import Derived.KernelRfl
namespace Go.Proofs.YthpgcipmnblhpaaDoor
/- THE CELL 'sum', in the pinned program and in every row, IS THE sha256 OF THE DUMP (.gsa) THAT YthpgcipmnblhpaaDoorProg.lean LOADS. Nothing in Lean hashes anything: it is a label: what it is worth is what the hold of that sum in a sandbox is worth. -/
noncomputable def Tryd.pinned : Pinned := { name := "ythpgcipmnblhpaadoor", sum := "db438eb19ea27f67629fb638f04976aafd513cfab37e99e519c4f2717d05de13", checked := Tryd.checked }
namespace Rows
def none {H : Type} : Left H := { results := [], args := [] }

/- WHAT THE LISTED PACKAGE-LEVEL VARIABLES READ AS WHEN THE CALL BEGINS. Each datum BY PROGRAM (the guide's laid-datum.mjs) off the statement by which the dump's own 'gosem.cut.vars' lays the variable. In a bare row this is a premise. The card (YthpgcipmnblhpaaDoorCards.lean) ties it to the program's text. -/
def laid_math_bits_deBruijn32tab {H : Type} : DataW H := .agg [.lit (.int .u8 0), .lit (.int .u8 1), .lit (.int .u8 28), .lit (.int .u8 2), .lit (.int .u8 29), .lit (.int .u8 14), .lit (.int .u8 24), .lit (.int .u8 3), .lit (.int .u8 30), .lit (.int .u8 22), .lit (.int .u8 20), .lit (.int .u8 15), .lit (.int .u8 25), .lit (.int .u8 17), .lit (.int .u8 4), .lit (.int .u8 8), .lit (.int .u8 31), .lit (.int .u8 27), .lit (.int .u8 13), .lit (.int .u8 23), .lit (.int .u8 21), .lit (.int .u8 19), .lit (.int .u8 16), .lit (.int .u8 7), .lit (.int .u8 26), .lit (.int .u8 12), .lit (.int .u8 18), .lit (.int .u8 6), .lit (.int .u8 11), .lit (.int .u8 5), .lit (.int .u8 10), .lit (.int .u8 9)]
def laid_math_bits_deBruijn64tab {H : Type} : DataW H := .agg [.lit (.int .u8 0), .lit (.int .u8 1), .lit (.int .u8 56), .lit (.int .u8 2), .lit (.int .u8 57), .lit (.int .u8 49), .lit (.int .u8 28), .lit (.int .u8 3), .lit (.int .u8 61), .lit (.int .u8 58), .lit (.int .u8 42), .lit (.int .u8 50), .lit (.int .u8 38), .lit (.int .u8 29), .lit (.int .u8 17), .lit (.int .u8 4), .lit (.int .u8 62), .lit (.int .u8 47), .lit (.int .u8 59), .lit (.int .u8 36), .lit (.int .u8 45), .lit (.int .u8 43), .lit (.int .u8 51), .lit (.int .u8 22), .lit (.int .u8 53), .lit (.int .u8 39), .lit (.int .u8 33), .lit (.int .u8 30), .lit (.int .u8 24), .lit (.int .u8 18), .lit (.int .u8 12), .lit (.int .u8 5), .lit (.int .u8 63), .lit (.int .u8 55), .lit (.int .u8 48), .lit (.int .u8 27), .lit (.int .u8 60), .lit (.int .u8 41), .lit (.int .u8 37), .lit (.int .u8 16), .lit (.int .u8 46), .lit (.int .u8 35), .lit (.int .u8 44), .lit (.int .u8 21), .lit (.int .u8 52), .lit (.int .u8 32), .lit (.int .u8 23), .lit (.int .u8 11), .lit (.int .u8 54), .lit (.int .u8 26), .lit (.int .u8 40), .lit (.int .u8 15), .lit (.int .u8 34), .lit (.int .u8 20), .lit (.int .u8 31), .lit (.int .u8 10), .lit (.int .u8 25), .lit (.int .u8 14), .lit (.int .u8 19), .lit (.int .u8 9), .lit (.int .u8 13), .lit (.int .u8 8), .lit (.int .u8 7), .lit (.int .u8 6)]
def laid_internal_strconv_uint64pow10 {H : Type} : DataW H := .agg [.lit (.int .u64 1), .lit (.int .u64 10), .lit (.int .u64 100), .lit (.int .u64 1000), .lit (.int .u64 10000), .lit (.int .u64 100000), .lit (.int .u64 1000000), .lit (.int .u64 10000000), .lit (.int .u64 100000000), .lit (.int .u64 1000000000), .lit (.int .u64 10000000000), .lit (.int .u64 100000000000), .lit (.int .u64 1000000000000), .lit (.int .u64 10000000000000), .lit (.int .u64 100000000000000), .lit (.int .u64 1000000000000000), .lit (.int .u64 10000000000000000), .lit (.int .u64 100000000000000000), .lit (.int .u64 1000000000000000000), .lit (.int .u64 10000000000000000000)]

/-- 'sheavelaw29.ProductValid': WHATEVER THE INPUT: true; the input reads as it did. -/
def productValidSpec : ChangeSpec := { name := "productValid", fn := fun _ => fun
  | [d] => { results := [.lit (.bool true)], args := [d] }
  | _ => none }
def productValidRow : OpenClaim := { program := "ythpgcipmnblhpaadoor", sum := "db438eb19ea27f67629fb638f04976aafd513cfab37e99e519c4f2717d05de13", func := "sheave/sheavelaw29.ProductValid", spec := "productValid", inPlace := ["internal/abi.NoEscape"], unfollowed := true, recurses := true, named := ["internal/strconv.uint64pow10", "math/bits.deBruijn32tab", "math/bits.deBruijn64tab"], apart := false, laid := [("math/bits.deBruijn32tab", laid_math_bits_deBruijn32tab), ("math/bits.deBruijn64tab", laid_math_bits_deBruijn64tab), ("internal/strconv.uint64pow10", laid_internal_strconv_uint64pow10)] }
def ProductValidSaid : Prop := productValidRow.holds Tryd.pinned (OpenSpec.ofChange productValidSpec)

/-- ITS FALSE NEIGHBOUR: 'it returns false'. Refute it at one input. -/
def productValidWrong : ChangeSpec := { name := "productValid", fn := fun _ => fun
  | [d] => { results := [.lit (.bool false)], args := [d] }
  | _ => none }
def ProductValidWrongFalsely : Prop := productValidRow.holds Tryd.pinned (OpenSpec.ofChange productValidWrong)

/-- 'sheavelaw29.ProductFits': WHATEVER THE INPUT: true; the input reads as it did. -/
def productFitsSpec : ChangeSpec := { name := "productFits", fn := fun _ => fun
  | [d1, d2] => { results := [.lit (.bool true)], args := [d1, d2] }
  | _ => none }
def productFitsRow : OpenClaim := { program := "ythpgcipmnblhpaadoor", sum := "db438eb19ea27f67629fb638f04976aafd513cfab37e99e519c4f2717d05de13", func := "sheave/sheavelaw29.ProductFits", spec := "productFits", inPlace := ["internal/abi.NoEscape"], unfollowed := true, recurses := true, named := ["internal/strconv.uint64pow10", "math/bits.deBruijn32tab", "math/bits.deBruijn64tab"], apart := false, laid := [("math/bits.deBruijn32tab", laid_math_bits_deBruijn32tab), ("math/bits.deBruijn64tab", laid_math_bits_deBruijn64tab), ("internal/strconv.uint64pow10", laid_internal_strconv_uint64pow10)] }
def ProductFitsSaid : Prop := productFitsRow.holds Tryd.pinned (OpenSpec.ofChange productFitsSpec)

/-- ITS FALSE NEIGHBOUR: 'it returns false'. Refute it at one input. -/
def productFitsWrong : ChangeSpec := { name := "productFits", fn := fun _ => fun
  | [d1, d2] => { results := [.lit (.bool false)], args := [d1, d2] }
  | _ => none }
def ProductFitsWrongFalsely : Prop := productFitsRow.holds Tryd.pinned (OpenSpec.ofChange productFitsWrong)

/-- 'sheavelaw29.ProductRun': WHATEVER THE INPUT: true; the input reads as it did. -/
def productRunSpec : ChangeSpec := { name := "productRun", fn := fun _ => fun
  | [d1, d2] => { results := [.lit (.bool true)], args := [d1, d2] }
  | _ => none }
def productRunRow : OpenClaim := { program := "ythpgcipmnblhpaadoor", sum := "db438eb19ea27f67629fb638f04976aafd513cfab37e99e519c4f2717d05de13", func := "sheave/sheavelaw29.ProductRun", spec := "productRun", inPlace := ["internal/abi.NoEscape"], unfollowed := true, recurses := true, named := ["internal/strconv.uint64pow10", "math/bits.deBruijn32tab", "math/bits.deBruijn64tab"], apart := false, laid := [("math/bits.deBruijn32tab", laid_math_bits_deBruijn32tab), ("math/bits.deBruijn64tab", laid_math_bits_deBruijn64tab), ("internal/strconv.uint64pow10", laid_internal_strconv_uint64pow10)] }
def ProductRunSaid : Prop := productRunRow.holds Tryd.pinned (OpenSpec.ofChange productRunSpec)

/-- ITS FALSE NEIGHBOUR: 'it returns false'. Refute it at one input. -/
def productRunWrong : ChangeSpec := { name := "productRun", fn := fun _ => fun
  | [d1, d2] => { results := [.lit (.bool false)], args := [d1, d2] }
  | _ => none }
def ProductRunWrongFalsely : Prop := productRunRow.holds Tryd.pinned (OpenSpec.ofChange productRunWrong)

/-- 'sheavelaw29.ProductReachable': WHATEVER THE INPUT: true; the input reads as it did. -/
def productReachableSpec : ChangeSpec := { name := "productReachable", fn := fun _ => fun
  | [d] => { results := [.lit (.bool true)], args := [d] }
  | _ => none }
def productReachableRow : OpenClaim := { program := "ythpgcipmnblhpaadoor", sum := "db438eb19ea27f67629fb638f04976aafd513cfab37e99e519c4f2717d05de13", func := "sheave/sheavelaw29.ProductReachable", spec := "productReachable", inPlace := ["internal/abi.NoEscape"], unfollowed := true, recurses := true, named := ["internal/strconv.uint64pow10", "math/bits.deBruijn32tab", "math/bits.deBruijn64tab"], apart := false, laid := [("math/bits.deBruijn32tab", laid_math_bits_deBruijn32tab), ("math/bits.deBruijn64tab", laid_math_bits_deBruijn64tab), ("internal/strconv.uint64pow10", laid_internal_strconv_uint64pow10)] }
def ProductReachableSaid : Prop := productReachableRow.holds Tryd.pinned (OpenSpec.ofChange productReachableSpec)

/-- ITS FALSE NEIGHBOUR: 'it returns false'. Refute it at one input. -/
def productReachableWrong : ChangeSpec := { name := "productReachable", fn := fun _ => fun
  | [d] => { results := [.lit (.bool false)], args := [d] }
  | _ => none }
def ProductReachableWrongFalsely : Prop := productReachableRow.holds Tryd.pinned (OpenSpec.ofChange productReachableWrong)

/-- 'sheavelaw29.ProductSwapped': WHATEVER THE INPUT: true; the input reads as it did. -/
def productSwappedSpec : ChangeSpec := { name := "productSwapped", fn := fun _ => fun
  | [d] => { results := [.lit (.bool true)], args := [d] }
  | _ => none }
def productSwappedRow : OpenClaim := { program := "ythpgcipmnblhpaadoor", sum := "db438eb19ea27f67629fb638f04976aafd513cfab37e99e519c4f2717d05de13", func := "sheave/sheavelaw29.ProductSwapped", spec := "productSwapped", inPlace := ["internal/abi.NoEscape"], unfollowed := true, recurses := true, named := ["internal/strconv.uint64pow10", "math/bits.deBruijn32tab", "math/bits.deBruijn64tab"], apart := false, laid := [("math/bits.deBruijn32tab", laid_math_bits_deBruijn32tab), ("math/bits.deBruijn64tab", laid_math_bits_deBruijn64tab), ("internal/strconv.uint64pow10", laid_internal_strconv_uint64pow10)] }
def ProductSwappedSaid : Prop := productSwappedRow.holds Tryd.pinned (OpenSpec.ofChange productSwappedSpec)

/-- ITS FALSE NEIGHBOUR: 'it returns false'. Refute it at one input. -/
def productSwappedWrong : ChangeSpec := { name := "productSwapped", fn := fun _ => fun
  | [d] => { results := [.lit (.bool false)], args := [d] }
  | _ => none }
def ProductSwappedWrongFalsely : Prop := productSwappedRow.holds Tryd.pinned (OpenSpec.ofChange productSwappedWrong)

/-- 'sheavelaw29.ProductCapacity': WHATEVER THE INPUT: true; the input reads as it did. -/
def productCapacitySpec : ChangeSpec := { name := "productCapacity", fn := fun _ => fun
  | [d] => { results := [.lit (.bool true)], args := [d] }
  | _ => none }
def productCapacityRow : OpenClaim := { program := "ythpgcipmnblhpaadoor", sum := "db438eb19ea27f67629fb638f04976aafd513cfab37e99e519c4f2717d05de13", func := "sheave/sheavelaw29.ProductCapacity", spec := "productCapacity", inPlace := ["internal/abi.NoEscape"], unfollowed := true, recurses := true, named := ["internal/strconv.uint64pow10", "math/bits.deBruijn32tab", "math/bits.deBruijn64tab"], apart := false, laid := [("math/bits.deBruijn32tab", laid_math_bits_deBruijn32tab), ("math/bits.deBruijn64tab", laid_math_bits_deBruijn64tab), ("internal/strconv.uint64pow10", laid_internal_strconv_uint64pow10)] }
def ProductCapacitySaid : Prop := productCapacityRow.holds Tryd.pinned (OpenSpec.ofChange productCapacitySpec)

/-- ITS FALSE NEIGHBOUR: 'it returns false'. Refute it at one input. -/
def productCapacityWrong : ChangeSpec := { name := "productCapacity", fn := fun _ => fun
  | [d] => { results := [.lit (.bool false)], args := [d] }
  | _ => none }
def ProductCapacityWrongFalsely : Prop := productCapacityRow.holds Tryd.pinned (OpenSpec.ofChange productCapacityWrong)

/-- 'sheavelaw29.ProductLarge': WHATEVER THE INPUT: true; the input reads as it did. -/
def productLargeSpec : ChangeSpec := { name := "productLarge", fn := fun _ => fun
  | [d1, d2] => { results := [.lit (.bool true)], args := [d1, d2] }
  | _ => none }
def productLargeRow : OpenClaim := { program := "ythpgcipmnblhpaadoor", sum := "db438eb19ea27f67629fb638f04976aafd513cfab37e99e519c4f2717d05de13", func := "sheave/sheavelaw29.ProductLarge", spec := "productLarge", inPlace := ["internal/abi.NoEscape"], unfollowed := true, recurses := true, named := ["internal/strconv.uint64pow10", "math/bits.deBruijn32tab", "math/bits.deBruijn64tab"], apart := false, laid := [("math/bits.deBruijn32tab", laid_math_bits_deBruijn32tab), ("math/bits.deBruijn64tab", laid_math_bits_deBruijn64tab), ("internal/strconv.uint64pow10", laid_internal_strconv_uint64pow10)] }
def ProductLargeSaid : Prop := productLargeRow.holds Tryd.pinned (OpenSpec.ofChange productLargeSpec)

/-- ITS FALSE NEIGHBOUR: 'it returns false'. Refute it at one input. -/
def productLargeWrong : ChangeSpec := { name := "productLarge", fn := fun _ => fun
  | [d1, d2] => { results := [.lit (.bool false)], args := [d1, d2] }
  | _ => none }
def ProductLargeWrongFalsely : Prop := productLargeRow.holds Tryd.pinned (OpenSpec.ofChange productLargeWrong)

/-- 'sheavelaw29.ProductMoves': WHATEVER THE INPUT: true; the input reads as it did. -/
def productMovesSpec : ChangeSpec := { name := "productMoves", fn := fun _ => fun
  | [d1, d2] => { results := [.lit (.bool true)], args := [d1, d2] }
  | _ => none }
def productMovesRow : OpenClaim := { program := "ythpgcipmnblhpaadoor", sum := "db438eb19ea27f67629fb638f04976aafd513cfab37e99e519c4f2717d05de13", func := "sheave/sheavelaw29.ProductMoves", spec := "productMoves", inPlace := ["internal/abi.NoEscape"], unfollowed := true, recurses := true, named := ["internal/strconv.uint64pow10", "math/bits.deBruijn32tab", "math/bits.deBruijn64tab"], apart := false, laid := [("math/bits.deBruijn32tab", laid_math_bits_deBruijn32tab), ("math/bits.deBruijn64tab", laid_math_bits_deBruijn64tab), ("internal/strconv.uint64pow10", laid_internal_strconv_uint64pow10)] }
def ProductMovesSaid : Prop := productMovesRow.holds Tryd.pinned (OpenSpec.ofChange productMovesSpec)

/-- ITS FALSE NEIGHBOUR: 'it returns false'. Refute it at one input. -/
def productMovesWrong : ChangeSpec := { name := "productMoves", fn := fun _ => fun
  | [d1, d2] => { results := [.lit (.bool false)], args := [d1, d2] }
  | _ => none }
def ProductMovesWrongFalsely : Prop := productMovesRow.holds Tryd.pinned (OpenSpec.ofChange productMovesWrong)

/-- 'sheavelaw29.ProductApply': WHATEVER THE INPUT: true; the input reads as it did. -/
def productApplySpec : ChangeSpec := { name := "productApply", fn := fun _ => fun
  | [d1, d2, d3] => { results := [.lit (.bool true)], args := [d1, d2, d3] }
  | _ => none }
def productApplyRow : OpenClaim := { program := "ythpgcipmnblhpaadoor", sum := "db438eb19ea27f67629fb638f04976aafd513cfab37e99e519c4f2717d05de13", func := "sheave/sheavelaw29.ProductApply", spec := "productApply", inPlace := ["internal/abi.NoEscape"], unfollowed := true, recurses := true, named := ["internal/strconv.uint64pow10", "math/bits.deBruijn32tab", "math/bits.deBruijn64tab"], apart := false, laid := [("math/bits.deBruijn32tab", laid_math_bits_deBruijn32tab), ("math/bits.deBruijn64tab", laid_math_bits_deBruijn64tab), ("internal/strconv.uint64pow10", laid_internal_strconv_uint64pow10)] }
def ProductApplySaid : Prop := productApplyRow.holds Tryd.pinned (OpenSpec.ofChange productApplySpec)

/-- ITS FALSE NEIGHBOUR: 'it returns false'. Refute it at one input. -/
def productApplyWrong : ChangeSpec := { name := "productApply", fn := fun _ => fun
  | [d1, d2, d3] => { results := [.lit (.bool false)], args := [d1, d2, d3] }
  | _ => none }
def ProductApplyWrongFalsely : Prop := productApplyRow.holds Tryd.pinned (OpenSpec.ofChange productApplyWrong)

/- THE SECOND FORM. 'bulk': how many values and letters a reading holds, each counted each time it is reached (what is shared counts as often as it is met; a slice's spare places count too). A statement '..UptoSaid' is the law's where the arguments, and the package variables that the reading takes, are together of bulk at most 1048576: NARROWER than '..Said'. Prove '..Said' where nothing that the law and all that it calls make is longer than what came in: it says more and counts as full. Else prove '..UptoSaid'. A law counts once. -/
mutual
def uptoBulk {H : Type} : DataW H → Nat
  | .lit (.string bytes) => bytes.length + 1
  | .lit _ => 1
  | .nil => 1
  | .ptr d => uptoBulk d + 1
  | .slice elems spare => uptoBulkAll elems + uptoBulkAll spare + 1
  | .agg parts => uptoBulkAll parts + 1
  | .iface _ d => uptoBulk d + 1
  | .map entries => uptoBulkEntries entries + 1
  | .held _ => 1
def uptoBulkAll {H : Type} : List (DataW H) → Nat
  | [] => 0
  | d :: r => uptoBulk d + uptoBulkAll r
def uptoBulkEntries {H : Type} : List (Lit × DataW H) → Nat
  | [] => 0
  | x :: r => uptoBulkEntry x + uptoBulkEntries r
def uptoBulkEntry {H : Type} : Lit × DataW H → Nat
  | (.string bytes, d) => bytes.length + uptoBulk d + 1
  | (_, d) => uptoBulk d + 1
 end
def uptoSmall : (H : Type) → List (DataW H) → Bool := fun _ ds => decide (uptoBulkAll ds ≤ 1048576)
def OpenSpec.upto (s : _root_.Go.ChangeSpec) : _root_.Go.OpenSpec := { _root_.Go.OpenSpec.ofChange s with cond := some uptoSmall }

/-- 'sheavelaw29.ProductValid', WHERE WHAT IT READS IS OF BULK AT MOST 1048576: true; the input reads as it did. -/
def productValidUptoRow : OpenClaim := { program := "ythpgcipmnblhpaadoor", sum := "db438eb19ea27f67629fb638f04976aafd513cfab37e99e519c4f2717d05de13", func := "sheave/sheavelaw29.ProductValid", spec := "productValid", inPlace := ["internal/abi.NoEscape"], unfollowed := true, recurses := true, named := ["internal/strconv.uint64pow10", "math/bits.deBruijn32tab", "math/bits.deBruijn64tab"], apart := false, laid := [("math/bits.deBruijn32tab", laid_math_bits_deBruijn32tab), ("math/bits.deBruijn64tab", laid_math_bits_deBruijn64tab), ("internal/strconv.uint64pow10", laid_internal_strconv_uint64pow10)], narrowed := true }
def ProductValidUptoSaid : Prop := productValidUptoRow.holds Tryd.pinned (OpenSpec.upto productValidSpec)

/-- 'sheavelaw29.ProductFits', WHERE WHAT IT READS IS OF BULK AT MOST 1048576: true; the input reads as it did. -/
def productFitsUptoRow : OpenClaim := { program := "ythpgcipmnblhpaadoor", sum := "db438eb19ea27f67629fb638f04976aafd513cfab37e99e519c4f2717d05de13", func := "sheave/sheavelaw29.ProductFits", spec := "productFits", inPlace := ["internal/abi.NoEscape"], unfollowed := true, recurses := true, named := ["internal/strconv.uint64pow10", "math/bits.deBruijn32tab", "math/bits.deBruijn64tab"], apart := false, laid := [("math/bits.deBruijn32tab", laid_math_bits_deBruijn32tab), ("math/bits.deBruijn64tab", laid_math_bits_deBruijn64tab), ("internal/strconv.uint64pow10", laid_internal_strconv_uint64pow10)], narrowed := true }
def ProductFitsUptoSaid : Prop := productFitsUptoRow.holds Tryd.pinned (OpenSpec.upto productFitsSpec)

/-- 'sheavelaw29.ProductRun', WHERE WHAT IT READS IS OF BULK AT MOST 1048576: true; the input reads as it did. -/
def productRunUptoRow : OpenClaim := { program := "ythpgcipmnblhpaadoor", sum := "db438eb19ea27f67629fb638f04976aafd513cfab37e99e519c4f2717d05de13", func := "sheave/sheavelaw29.ProductRun", spec := "productRun", inPlace := ["internal/abi.NoEscape"], unfollowed := true, recurses := true, named := ["internal/strconv.uint64pow10", "math/bits.deBruijn32tab", "math/bits.deBruijn64tab"], apart := false, laid := [("math/bits.deBruijn32tab", laid_math_bits_deBruijn32tab), ("math/bits.deBruijn64tab", laid_math_bits_deBruijn64tab), ("internal/strconv.uint64pow10", laid_internal_strconv_uint64pow10)], narrowed := true }
def ProductRunUptoSaid : Prop := productRunUptoRow.holds Tryd.pinned (OpenSpec.upto productRunSpec)

/-- 'sheavelaw29.ProductReachable', WHERE WHAT IT READS IS OF BULK AT MOST 1048576: true; the input reads as it did. -/
def productReachableUptoRow : OpenClaim := { program := "ythpgcipmnblhpaadoor", sum := "db438eb19ea27f67629fb638f04976aafd513cfab37e99e519c4f2717d05de13", func := "sheave/sheavelaw29.ProductReachable", spec := "productReachable", inPlace := ["internal/abi.NoEscape"], unfollowed := true, recurses := true, named := ["internal/strconv.uint64pow10", "math/bits.deBruijn32tab", "math/bits.deBruijn64tab"], apart := false, laid := [("math/bits.deBruijn32tab", laid_math_bits_deBruijn32tab), ("math/bits.deBruijn64tab", laid_math_bits_deBruijn64tab), ("internal/strconv.uint64pow10", laid_internal_strconv_uint64pow10)], narrowed := true }
def ProductReachableUptoSaid : Prop := productReachableUptoRow.holds Tryd.pinned (OpenSpec.upto productReachableSpec)

/-- 'sheavelaw29.ProductSwapped', WHERE WHAT IT READS IS OF BULK AT MOST 1048576: true; the input reads as it did. -/
def productSwappedUptoRow : OpenClaim := { program := "ythpgcipmnblhpaadoor", sum := "db438eb19ea27f67629fb638f04976aafd513cfab37e99e519c4f2717d05de13", func := "sheave/sheavelaw29.ProductSwapped", spec := "productSwapped", inPlace := ["internal/abi.NoEscape"], unfollowed := true, recurses := true, named := ["internal/strconv.uint64pow10", "math/bits.deBruijn32tab", "math/bits.deBruijn64tab"], apart := false, laid := [("math/bits.deBruijn32tab", laid_math_bits_deBruijn32tab), ("math/bits.deBruijn64tab", laid_math_bits_deBruijn64tab), ("internal/strconv.uint64pow10", laid_internal_strconv_uint64pow10)], narrowed := true }
def ProductSwappedUptoSaid : Prop := productSwappedUptoRow.holds Tryd.pinned (OpenSpec.upto productSwappedSpec)

/-- 'sheavelaw29.ProductCapacity', WHERE WHAT IT READS IS OF BULK AT MOST 1048576: true; the input reads as it did. -/
def productCapacityUptoRow : OpenClaim := { program := "ythpgcipmnblhpaadoor", sum := "db438eb19ea27f67629fb638f04976aafd513cfab37e99e519c4f2717d05de13", func := "sheave/sheavelaw29.ProductCapacity", spec := "productCapacity", inPlace := ["internal/abi.NoEscape"], unfollowed := true, recurses := true, named := ["internal/strconv.uint64pow10", "math/bits.deBruijn32tab", "math/bits.deBruijn64tab"], apart := false, laid := [("math/bits.deBruijn32tab", laid_math_bits_deBruijn32tab), ("math/bits.deBruijn64tab", laid_math_bits_deBruijn64tab), ("internal/strconv.uint64pow10", laid_internal_strconv_uint64pow10)], narrowed := true }
def ProductCapacityUptoSaid : Prop := productCapacityUptoRow.holds Tryd.pinned (OpenSpec.upto productCapacitySpec)

/-- 'sheavelaw29.ProductLarge', WHERE WHAT IT READS IS OF BULK AT MOST 1048576: true; the input reads as it did. -/
def productLargeUptoRow : OpenClaim := { program := "ythpgcipmnblhpaadoor", sum := "db438eb19ea27f67629fb638f04976aafd513cfab37e99e519c4f2717d05de13", func := "sheave/sheavelaw29.ProductLarge", spec := "productLarge", inPlace := ["internal/abi.NoEscape"], unfollowed := true, recurses := true, named := ["internal/strconv.uint64pow10", "math/bits.deBruijn32tab", "math/bits.deBruijn64tab"], apart := false, laid := [("math/bits.deBruijn32tab", laid_math_bits_deBruijn32tab), ("math/bits.deBruijn64tab", laid_math_bits_deBruijn64tab), ("internal/strconv.uint64pow10", laid_internal_strconv_uint64pow10)], narrowed := true }
def ProductLargeUptoSaid : Prop := productLargeUptoRow.holds Tryd.pinned (OpenSpec.upto productLargeSpec)

/-- 'sheavelaw29.ProductMoves', WHERE WHAT IT READS IS OF BULK AT MOST 1048576: true; the input reads as it did. -/
def productMovesUptoRow : OpenClaim := { program := "ythpgcipmnblhpaadoor", sum := "db438eb19ea27f67629fb638f04976aafd513cfab37e99e519c4f2717d05de13", func := "sheave/sheavelaw29.ProductMoves", spec := "productMoves", inPlace := ["internal/abi.NoEscape"], unfollowed := true, recurses := true, named := ["internal/strconv.uint64pow10", "math/bits.deBruijn32tab", "math/bits.deBruijn64tab"], apart := false, laid := [("math/bits.deBruijn32tab", laid_math_bits_deBruijn32tab), ("math/bits.deBruijn64tab", laid_math_bits_deBruijn64tab), ("internal/strconv.uint64pow10", laid_internal_strconv_uint64pow10)], narrowed := true }
def ProductMovesUptoSaid : Prop := productMovesUptoRow.holds Tryd.pinned (OpenSpec.upto productMovesSpec)

/-- 'sheavelaw29.ProductApply', WHERE WHAT IT READS IS OF BULK AT MOST 1048576: true; the input reads as it did. -/
def productApplyUptoRow : OpenClaim := { program := "ythpgcipmnblhpaadoor", sum := "db438eb19ea27f67629fb638f04976aafd513cfab37e99e519c4f2717d05de13", func := "sheave/sheavelaw29.ProductApply", spec := "productApply", inPlace := ["internal/abi.NoEscape"], unfollowed := true, recurses := true, named := ["internal/strconv.uint64pow10", "math/bits.deBruijn32tab", "math/bits.deBruijn64tab"], apart := false, laid := [("math/bits.deBruijn32tab", laid_math_bits_deBruijn32tab), ("math/bits.deBruijn64tab", laid_math_bits_deBruijn64tab), ("internal/strconv.uint64pow10", laid_internal_strconv_uint64pow10)], narrowed := true }
def ProductApplyUptoSaid : Prop := productApplyUptoRow.holds Tryd.pinned (OpenSpec.upto productApplySpec)

end Rows
end Go.Proofs.YthpgcipmnblhpaaDoor
