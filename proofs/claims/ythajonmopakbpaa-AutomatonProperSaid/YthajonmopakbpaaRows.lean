/-
  No cell of these rows narrows 'for every input' (looked for: loops, veiled, ifaces, maps, wideKeys, modest, calm, conditions, laid).
  DERIVED. THE GIVEN ROWS OF THIS SEAT. 7 by the template 'for every input the law returns true; each argument reads behind the call as it read before'; 0 by the template 'total and deterministic' (their statements: YthajonmopakbpaaTotals.lean).
  GIVEN WITH THE SEED: the statements are not yours to turn. If you find one false, say at which input.
  Laid BY PROGRAM, IN A SANDBOX (cutbox-rows.mjs): the forced cells as the released guide's own fill.sh prints them over the translation 34655be2c466ac62… (all of the seat's roots in one cut). By AI agents, Wed Nov 11 2026. No macro, syntax, notation, axiom, sorry.
-/
import Derived.Test.YthajonmopakbpaaChecked
import GoSem.Claim
import GoSem.ClaimJoined
import GoSem.ClaimMapViews
import Derived.JoinedTies
import Derived.KernelRfl
namespace Go.Proofs.Ythajonmopakbpaa
/- THE CELL 'sum', in the pinned program and in every row, IS THE sha256 OF THE DUMP (.gsa) THAT YthajonmopakbpaaProg.lean LOADS. Nothing in Lean hashes anything: it is a label: what it is worth is what the hold of that sum in a sandbox is worth. -/
noncomputable def Try.pinned : Pinned := { name := "ythajonmopakbpaa", sum := "34655be2c466ac62b97448300e369ca40f7538945726b3623863619366ef03fd", checked := Try.checked }
namespace Rows
def none {H : Type} : Left H := { results := [], args := [] }

/-- 'sheavelaw27.AutomatonValid': WHATEVER THE INPUT: true; the input reads as it did. -/
def automatonValidSpec : ChangeSpec := { name := "automatonValid", fn := fun _ => fun
  | [d] => { results := [.lit (.bool true)], args := [d] }
  | _ => none }
def automatonValidRow : OpenClaim := { program := "ythajonmopakbpaa", sum := "34655be2c466ac62b97448300e369ca40f7538945726b3623863619366ef03fd", func := "sheave/sheavelaw27.AutomatonValid", spec := "automatonValid", unfollowed := true, recurses := true, apart := false }
def AutomatonValidSaid : Prop := automatonValidRow.holds Try.pinned (OpenSpec.ofChange automatonValidSpec)

/-- ITS FALSE NEIGHBOUR: 'it returns false'. Refute it at one input. -/
def automatonValidWrong : ChangeSpec := { name := "automatonValid", fn := fun _ => fun
  | [d] => { results := [.lit (.bool false)], args := [d] }
  | _ => none }
def AutomatonValidWrongFalsely : Prop := automatonValidRow.holds Try.pinned (OpenSpec.ofChange automatonValidWrong)

/-- 'sheavelaw27.AutomatonParts': WHATEVER THE INPUT: true; the input reads as it did. -/
def automatonPartsSpec : ChangeSpec := { name := "automatonParts", fn := fun _ => fun
  | [d1, d2] => { results := [.lit (.bool true)], args := [d1, d2] }
  | _ => none }
def automatonPartsRow : OpenClaim := { program := "ythajonmopakbpaa", sum := "34655be2c466ac62b97448300e369ca40f7538945726b3623863619366ef03fd", func := "sheave/sheavelaw27.AutomatonParts", spec := "automatonParts", unfollowed := true, recurses := true, apart := false }
def AutomatonPartsSaid : Prop := automatonPartsRow.holds Try.pinned (OpenSpec.ofChange automatonPartsSpec)

/-- ITS FALSE NEIGHBOUR: 'it returns false'. Refute it at one input. -/
def automatonPartsWrong : ChangeSpec := { name := "automatonParts", fn := fun _ => fun
  | [d1, d2] => { results := [.lit (.bool false)], args := [d1, d2] }
  | _ => none }
def AutomatonPartsWrongFalsely : Prop := automatonPartsRow.holds Try.pinned (OpenSpec.ofChange automatonPartsWrong)

/-- 'sheavelaw27.AutomatonErrors': WHATEVER THE INPUT: true; the input reads as it did. -/
def automatonErrorsSpec : ChangeSpec := { name := "automatonErrors", fn := fun _ => fun
  | [d] => { results := [.lit (.bool true)], args := [d] }
  | _ => none }
def automatonErrorsRow : OpenClaim := { program := "ythajonmopakbpaa", sum := "34655be2c466ac62b97448300e369ca40f7538945726b3623863619366ef03fd", func := "sheave/sheavelaw27.AutomatonErrors", spec := "automatonErrors", unfollowed := true, recurses := true, apart := false }
def AutomatonErrorsSaid : Prop := automatonErrorsRow.holds Try.pinned (OpenSpec.ofChange automatonErrorsSpec)

/-- ITS FALSE NEIGHBOUR: 'it returns false'. Refute it at one input. -/
def automatonErrorsWrong : ChangeSpec := { name := "automatonErrors", fn := fun _ => fun
  | [d] => { results := [.lit (.bool false)], args := [d] }
  | _ => none }
def AutomatonErrorsWrongFalsely : Prop := automatonErrorsRow.holds Try.pinned (OpenSpec.ofChange automatonErrorsWrong)

/-- 'sheavelaw27.AutomatonDual': WHATEVER THE INPUT: true; the input reads as it did. -/
def automatonDualSpec : ChangeSpec := { name := "automatonDual", fn := fun _ => fun
  | [d] => { results := [.lit (.bool true)], args := [d] }
  | _ => none }
def automatonDualRow : OpenClaim := { program := "ythajonmopakbpaa", sum := "34655be2c466ac62b97448300e369ca40f7538945726b3623863619366ef03fd", func := "sheave/sheavelaw27.AutomatonDual", spec := "automatonDual", unfollowed := true, recurses := true, apart := false }
def AutomatonDualSaid : Prop := automatonDualRow.holds Try.pinned (OpenSpec.ofChange automatonDualSpec)

/-- ITS FALSE NEIGHBOUR: 'it returns false'. Refute it at one input. -/
def automatonDualWrong : ChangeSpec := { name := "automatonDual", fn := fun _ => fun
  | [d] => { results := [.lit (.bool false)], args := [d] }
  | _ => none }
def AutomatonDualWrongFalsely : Prop := automatonDualRow.holds Try.pinned (OpenSpec.ofChange automatonDualWrong)

/-- 'sheavelaw27.AutomatonTrim': WHATEVER THE INPUT: true; the input reads as it did. -/
def automatonTrimSpec : ChangeSpec := { name := "automatonTrim", fn := fun _ => fun
  | [d1, d2] => { results := [.lit (.bool true)], args := [d1, d2] }
  | _ => none }
def automatonTrimRow : OpenClaim := { program := "ythajonmopakbpaa", sum := "34655be2c466ac62b97448300e369ca40f7538945726b3623863619366ef03fd", func := "sheave/sheavelaw27.AutomatonTrim", spec := "automatonTrim", unfollowed := true, recurses := true, apart := false }
def AutomatonTrimSaid : Prop := automatonTrimRow.holds Try.pinned (OpenSpec.ofChange automatonTrimSpec)

/-- ITS FALSE NEIGHBOUR: 'it returns false'. Refute it at one input. -/
def automatonTrimWrong : ChangeSpec := { name := "automatonTrim", fn := fun _ => fun
  | [d1, d2] => { results := [.lit (.bool false)], args := [d1, d2] }
  | _ => none }
def AutomatonTrimWrongFalsely : Prop := automatonTrimRow.holds Try.pinned (OpenSpec.ofChange automatonTrimWrong)

/-- 'sheavelaw27.AutomatonRun': WHATEVER THE INPUT: true; the input reads as it did. -/
def automatonRunSpec : ChangeSpec := { name := "automatonRun", fn := fun _ => fun
  | [d1, d2, d3] => { results := [.lit (.bool true)], args := [d1, d2, d3] }
  | _ => none }
def automatonRunRow : OpenClaim := { program := "ythajonmopakbpaa", sum := "34655be2c466ac62b97448300e369ca40f7538945726b3623863619366ef03fd", func := "sheave/sheavelaw27.AutomatonRun", spec := "automatonRun", unfollowed := true, recurses := true, apart := false }
def AutomatonRunSaid : Prop := automatonRunRow.holds Try.pinned (OpenSpec.ofChange automatonRunSpec)

/-- ITS FALSE NEIGHBOUR: 'it returns false'. Refute it at one input. -/
def automatonRunWrong : ChangeSpec := { name := "automatonRun", fn := fun _ => fun
  | [d1, d2, d3] => { results := [.lit (.bool false)], args := [d1, d2, d3] }
  | _ => none }
def AutomatonRunWrongFalsely : Prop := automatonRunRow.holds Try.pinned (OpenSpec.ofChange automatonRunWrong)

/-- 'sheavelaw27.AutomatonProper': WHATEVER THE INPUT: true; the input reads as it did. -/
def automatonProperSpec : ChangeSpec := { name := "automatonProper", fn := fun _ => fun
  | [d1, d2] => { results := [.lit (.bool true)], args := [d1, d2] }
  | _ => none }
def automatonProperRow : OpenClaim := { program := "ythajonmopakbpaa", sum := "34655be2c466ac62b97448300e369ca40f7538945726b3623863619366ef03fd", func := "sheave/sheavelaw27.AutomatonProper", spec := "automatonProper", unfollowed := true, recurses := true, apart := false }
def AutomatonProperSaid : Prop := automatonProperRow.holds Try.pinned (OpenSpec.ofChange automatonProperSpec)

/-- ITS FALSE NEIGHBOUR: 'it returns false'. Refute it at one input. -/
def automatonProperWrong : ChangeSpec := { name := "automatonProper", fn := fun _ => fun
  | [d1, d2] => { results := [.lit (.bool false)], args := [d1, d2] }
  | _ => none }
def AutomatonProperWrongFalsely : Prop := automatonProperRow.holds Try.pinned (OpenSpec.ofChange automatonProperWrong)

/- THE SECOND FORM. 'bulk': how many values and letters a reading holds, each counted each time it is reached (what is shared counts as often as it is met; a slice's spare places count too). A statement '..UptoSaid' is the law's where the arguments, and the package variables that the reading takes, are together of bulk at most 1048576: NARROWER than '..Said'. Prove '..Said' where nothing that the law and all that it calls make is longer than what came in: it says more and counts as full. Else prove '..UptoSaid'. A law counts once. -/
mutual
def uptoBulk {H : Type} : DataW H → Nat
  | .lit (.string bytes) => bytes.length + 1
  | .lit _ => 1
  | .nil => 1
  | .ptr d => uptoBulk d + 1
  | .slice elems spare => uptoBulkAll elems + uptoBulkAll spare + 1
  | .agg parts => uptoBulkAll parts + 1
  | .iface _ d => uptoBulk d + 1
  | .map entries => uptoBulkEntries entries + 1
  | .held _ => 1
def uptoBulkAll {H : Type} : List (DataW H) → Nat
  | [] => 0
  | d :: r => uptoBulk d + uptoBulkAll r
def uptoBulkEntries {H : Type} : List (Lit × DataW H) → Nat
  | [] => 0
  | x :: r => uptoBulkEntry x + uptoBulkEntries r
def uptoBulkEntry {H : Type} : Lit × DataW H → Nat
  | (.string bytes, d) => bytes.length + uptoBulk d + 1
  | (_, d) => uptoBulk d + 1
 end
def uptoSmall : (H : Type) → List (DataW H) → Bool := fun _ ds => decide (uptoBulkAll ds ≤ 1048576)
def OpenSpec.upto (s : _root_.Go.ChangeSpec) : _root_.Go.OpenSpec := { _root_.Go.OpenSpec.ofChange s with cond := some uptoSmall }

/-- 'sheavelaw27.AutomatonValid', WHERE WHAT IT READS IS OF BULK AT MOST 1048576: true; the input reads as it did. -/
def automatonValidUptoRow : OpenClaim := { program := "ythajonmopakbpaa", sum := "34655be2c466ac62b97448300e369ca40f7538945726b3623863619366ef03fd", func := "sheave/sheavelaw27.AutomatonValid", spec := "automatonValid", unfollowed := true, recurses := true, apart := false, narrowed := true }
def AutomatonValidUptoSaid : Prop := automatonValidUptoRow.holds Try.pinned (OpenSpec.upto automatonValidSpec)

/-- 'sheavelaw27.AutomatonParts', WHERE WHAT IT READS IS OF BULK AT MOST 1048576: true; the input reads as it did. -/
def automatonPartsUptoRow : OpenClaim := { program := "ythajonmopakbpaa", sum := "34655be2c466ac62b97448300e369ca40f7538945726b3623863619366ef03fd", func := "sheave/sheavelaw27.AutomatonParts", spec := "automatonParts", unfollowed := true, recurses := true, apart := false, narrowed := true }
def AutomatonPartsUptoSaid : Prop := automatonPartsUptoRow.holds Try.pinned (OpenSpec.upto automatonPartsSpec)

/-- 'sheavelaw27.AutomatonErrors', WHERE WHAT IT READS IS OF BULK AT MOST 1048576: true; the input reads as it did. -/
def automatonErrorsUptoRow : OpenClaim := { program := "ythajonmopakbpaa", sum := "34655be2c466ac62b97448300e369ca40f7538945726b3623863619366ef03fd", func := "sheave/sheavelaw27.AutomatonErrors", spec := "automatonErrors", unfollowed := true, recurses := true, apart := false, narrowed := true }
def AutomatonErrorsUptoSaid : Prop := automatonErrorsUptoRow.holds Try.pinned (OpenSpec.upto automatonErrorsSpec)

/-- 'sheavelaw27.AutomatonDual', WHERE WHAT IT READS IS OF BULK AT MOST 1048576: true; the input reads as it did. -/
def automatonDualUptoRow : OpenClaim := { program := "ythajonmopakbpaa", sum := "34655be2c466ac62b97448300e369ca40f7538945726b3623863619366ef03fd", func := "sheave/sheavelaw27.AutomatonDual", spec := "automatonDual", unfollowed := true, recurses := true, apart := false, narrowed := true }
def AutomatonDualUptoSaid : Prop := automatonDualUptoRow.holds Try.pinned (OpenSpec.upto automatonDualSpec)

/-- 'sheavelaw27.AutomatonTrim', WHERE WHAT IT READS IS OF BULK AT MOST 1048576: true; the input reads as it did. -/
def automatonTrimUptoRow : OpenClaim := { program := "ythajonmopakbpaa", sum := "34655be2c466ac62b97448300e369ca40f7538945726b3623863619366ef03fd", func := "sheave/sheavelaw27.AutomatonTrim", spec := "automatonTrim", unfollowed := true, recurses := true, apart := false, narrowed := true }
def AutomatonTrimUptoSaid : Prop := automatonTrimUptoRow.holds Try.pinned (OpenSpec.upto automatonTrimSpec)

/-- 'sheavelaw27.AutomatonRun', WHERE WHAT IT READS IS OF BULK AT MOST 1048576: true; the input reads as it did. -/
def automatonRunUptoRow : OpenClaim := { program := "ythajonmopakbpaa", sum := "34655be2c466ac62b97448300e369ca40f7538945726b3623863619366ef03fd", func := "sheave/sheavelaw27.AutomatonRun", spec := "automatonRun", unfollowed := true, recurses := true, apart := false, narrowed := true }
def AutomatonRunUptoSaid : Prop := automatonRunUptoRow.holds Try.pinned (OpenSpec.upto automatonRunSpec)

/-- 'sheavelaw27.AutomatonProper', WHERE WHAT IT READS IS OF BULK AT MOST 1048576: true; the input reads as it did. -/
def automatonProperUptoRow : OpenClaim := { program := "ythajonmopakbpaa", sum := "34655be2c466ac62b97448300e369ca40f7538945726b3623863619366ef03fd", func := "sheave/sheavelaw27.AutomatonProper", spec := "automatonProper", unfollowed := true, recurses := true, apart := false, narrowed := true }
def AutomatonProperUptoSaid : Prop := automatonProperUptoRow.holds Try.pinned (OpenSpec.upto automatonProperSpec)

end Rows
end Go.Proofs.Ythajonmopakbpaa
