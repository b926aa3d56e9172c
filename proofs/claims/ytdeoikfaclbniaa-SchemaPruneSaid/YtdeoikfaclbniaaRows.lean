/-
  NARROWER THAN 'FOR EVERY INPUT', by the rows' own cells (each row's printed sentence says how): SchemaValid: loops · SchemaFind: loops · SchemaUses: loops · SchemaPrune: loops · SchemaEqual: loops · SchemaParts: loops.
  DERIVED. THE GIVEN ROWS OF THIS SEAT. 8 by the template 'for every input the law returns true; each argument reads behind the call as it read before'; 0 by the template 'total and deterministic' (their statements: YtdeoikfaclbniaaTotals.lean).
  GIVEN WITH THE SEED: the statements are not yours to turn. If you find one false, say at which input.
  Laid BY PROGRAM, IN A SANDBOX (cutbox-rows.mjs): the forced cells as the released guide's own fill.sh prints them over the translation f319465c7e0ec406… (all of the seat's roots in one cut). By AI agents, Wed Nov 11 2026. No macro, syntax, notation, axiom, sorry.
-/
import Derived.Test.YtdeoikfaclbniaaChecked
import GoSem.Claim
import GoSem.ClaimJoined
import GoSem.ClaimMapViews
import Derived.JoinedTies
import Derived.KernelRfl
namespace Go.Proofs.Ytdeoikfaclbniaa
/- THE CELL 'sum', in the pinned program and in every row, IS THE sha256 OF THE DUMP (.gsa) THAT YtdeoikfaclbniaaProg.lean LOADS. Nothing in Lean hashes anything: it is a label: what it is worth is what the hold of that sum in a sandbox is worth. -/
noncomputable def Try.pinned : Pinned := { name := "ytdeoikfaclbniaa", sum := "f319465c7e0ec4065e950874fd9bb795c8d5b74ecde0c3c501fdc56014a24e2a", checked := Try.checked }
namespace Rows
def none {H : Type} : Left H := { results := [], args := [] }

/-- 'sheavelaw07.SchemaValid': WHATEVER THE INPUT: true; the input reads as it did. -/
def schemaValidSpec : ChangeSpec := { name := "schemaValid", fn := fun _ => fun
  | [d] => { results := [.lit (.bool true)], args := [d] }
  | _ => none }
def schemaValidRow : OpenClaim := { program := "ytdeoikfaclbniaa", sum := "f319465c7e0ec4065e950874fd9bb795c8d5b74ecde0c3c501fdc56014a24e2a", func := "sheave/sheavelaw07.SchemaValid", spec := "schemaValid", unfollowed := true, recurses := true, loops := true, apart := false }
def SchemaValidSaid : Prop := schemaValidRow.holds Try.pinned (OpenSpec.ofChange schemaValidSpec)

/-- ITS FALSE NEIGHBOUR: 'it returns false'. Refute it at one input. -/
def schemaValidWrong : ChangeSpec := { name := "schemaValid", fn := fun _ => fun
  | [d] => { results := [.lit (.bool false)], args := [d] }
  | _ => none }
def SchemaValidWrongFalsely : Prop := schemaValidRow.holds Try.pinned (OpenSpec.ofChange schemaValidWrong)

/-- 'sheavelaw07.SchemaFind': WHATEVER THE INPUT: true; the input reads as it did. -/
def schemaFindSpec : ChangeSpec := { name := "schemaFind", fn := fun _ => fun
  | [d1, d2] => { results := [.lit (.bool true)], args := [d1, d2] }
  | _ => none }
def schemaFindRow : OpenClaim := { program := "ytdeoikfaclbniaa", sum := "f319465c7e0ec4065e950874fd9bb795c8d5b74ecde0c3c501fdc56014a24e2a", func := "sheave/sheavelaw07.SchemaFind", spec := "schemaFind", unfollowed := true, recurses := true, loops := true, apart := false }
def SchemaFindSaid : Prop := schemaFindRow.holds Try.pinned (OpenSpec.ofChange schemaFindSpec)

/-- ITS FALSE NEIGHBOUR: 'it returns false'. Refute it at one input. -/
def schemaFindWrong : ChangeSpec := { name := "schemaFind", fn := fun _ => fun
  | [d1, d2] => { results := [.lit (.bool false)], args := [d1, d2] }
  | _ => none }
def SchemaFindWrongFalsely : Prop := schemaFindRow.holds Try.pinned (OpenSpec.ofChange schemaFindWrong)

/-- 'sheavelaw07.SchemaUses': WHATEVER THE INPUT: true; the input reads as it did. -/
def schemaUsesSpec : ChangeSpec := { name := "schemaUses", fn := fun _ => fun
  | [d1, d2] => { results := [.lit (.bool true)], args := [d1, d2] }
  | _ => none }
def schemaUsesRow : OpenClaim := { program := "ytdeoikfaclbniaa", sum := "f319465c7e0ec4065e950874fd9bb795c8d5b74ecde0c3c501fdc56014a24e2a", func := "sheave/sheavelaw07.SchemaUses", spec := "schemaUses", unfollowed := true, recurses := true, loops := true, apart := false }
def SchemaUsesSaid : Prop := schemaUsesRow.holds Try.pinned (OpenSpec.ofChange schemaUsesSpec)

/-- ITS FALSE NEIGHBOUR: 'it returns false'. Refute it at one input. -/
def schemaUsesWrong : ChangeSpec := { name := "schemaUses", fn := fun _ => fun
  | [d1, d2] => { results := [.lit (.bool false)], args := [d1, d2] }
  | _ => none }
def SchemaUsesWrongFalsely : Prop := schemaUsesRow.holds Try.pinned (OpenSpec.ofChange schemaUsesWrong)

/-- 'sheavelaw07.SchemaPrune': WHATEVER THE INPUT: true; the input reads as it did. -/
def schemaPruneSpec : ChangeSpec := { name := "schemaPrune", fn := fun _ => fun
  | [d1, d2] => { results := [.lit (.bool true)], args := [d1, d2] }
  | _ => none }
def schemaPruneRow : OpenClaim := { program := "ytdeoikfaclbniaa", sum := "f319465c7e0ec4065e950874fd9bb795c8d5b74ecde0c3c501fdc56014a24e2a", func := "sheave/sheavelaw07.SchemaPrune", spec := "schemaPrune", unfollowed := true, recurses := true, loops := true, apart := false }
def SchemaPruneSaid : Prop := schemaPruneRow.holds Try.pinned (OpenSpec.ofChange schemaPruneSpec)

/-- ITS FALSE NEIGHBOUR: 'it returns false'. Refute it at one input. -/
def schemaPruneWrong : ChangeSpec := { name := "schemaPrune", fn := fun _ => fun
  | [d1, d2] => { results := [.lit (.bool false)], args := [d1, d2] }
  | _ => none }
def SchemaPruneWrongFalsely : Prop := schemaPruneRow.holds Try.pinned (OpenSpec.ofChange schemaPruneWrong)

/-- 'sheavelaw07.SchemaEqual': WHATEVER THE INPUT: true; the input reads as it did. -/
def schemaEqualSpec : ChangeSpec := { name := "schemaEqual", fn := fun _ => fun
  | [d1, d2] => { results := [.lit (.bool true)], args := [d1, d2] }
  | _ => none }
def schemaEqualRow : OpenClaim := { program := "ytdeoikfaclbniaa", sum := "f319465c7e0ec4065e950874fd9bb795c8d5b74ecde0c3c501fdc56014a24e2a", func := "sheave/sheavelaw07.SchemaEqual", spec := "schemaEqual", unfollowed := true, recurses := true, loops := true, apart := false }
def SchemaEqualSaid : Prop := schemaEqualRow.holds Try.pinned (OpenSpec.ofChange schemaEqualSpec)

/-- ITS FALSE NEIGHBOUR: 'it returns false'. Refute it at one input. -/
def schemaEqualWrong : ChangeSpec := { name := "schemaEqual", fn := fun _ => fun
  | [d1, d2] => { results := [.lit (.bool false)], args := [d1, d2] }
  | _ => none }
def SchemaEqualWrongFalsely : Prop := schemaEqualRow.holds Try.pinned (OpenSpec.ofChange schemaEqualWrong)

/-- 'sheavelaw07.SchemaAgain': WHATEVER THE INPUT: true; the input reads as it did. -/
def schemaAgainSpec : ChangeSpec := { name := "schemaAgain", fn := fun _ => fun
  | [d1, d2] => { results := [.lit (.bool true)], args := [d1, d2] }
  | _ => none }
def schemaAgainRow : OpenClaim := { program := "ytdeoikfaclbniaa", sum := "f319465c7e0ec4065e950874fd9bb795c8d5b74ecde0c3c501fdc56014a24e2a", func := "sheave/sheavelaw07.SchemaAgain", spec := "schemaAgain", unfollowed := true, recurses := true, apart := false }
def SchemaAgainSaid : Prop := schemaAgainRow.holds Try.pinned (OpenSpec.ofChange schemaAgainSpec)

/-- ITS FALSE NEIGHBOUR: 'it returns false'. Refute it at one input. -/
def schemaAgainWrong : ChangeSpec := { name := "schemaAgain", fn := fun _ => fun
  | [d1, d2] => { results := [.lit (.bool false)], args := [d1, d2] }
  | _ => none }
def SchemaAgainWrongFalsely : Prop := schemaAgainRow.holds Try.pinned (OpenSpec.ofChange schemaAgainWrong)

/-- 'sheavelaw07.SchemaClosed': WHATEVER THE INPUT: true; the input reads as it did. -/
def schemaClosedSpec : ChangeSpec := { name := "schemaClosed", fn := fun _ => fun
  | [d1, d2] => { results := [.lit (.bool true)], args := [d1, d2] }
  | _ => none }
def schemaClosedRow : OpenClaim := { program := "ytdeoikfaclbniaa", sum := "f319465c7e0ec4065e950874fd9bb795c8d5b74ecde0c3c501fdc56014a24e2a", func := "sheave/sheavelaw07.SchemaClosed", spec := "schemaClosed", unfollowed := true, recurses := true, apart := false }
def SchemaClosedSaid : Prop := schemaClosedRow.holds Try.pinned (OpenSpec.ofChange schemaClosedSpec)

/-- ITS FALSE NEIGHBOUR: 'it returns false'. Refute it at one input. -/
def schemaClosedWrong : ChangeSpec := { name := "schemaClosed", fn := fun _ => fun
  | [d1, d2] => { results := [.lit (.bool false)], args := [d1, d2] }
  | _ => none }
def SchemaClosedWrongFalsely : Prop := schemaClosedRow.holds Try.pinned (OpenSpec.ofChange schemaClosedWrong)

/-- 'sheavelaw07.SchemaParts': WHATEVER THE INPUT: true; the input reads as it did. -/
def schemaPartsSpec : ChangeSpec := { name := "schemaParts", fn := fun _ => fun
  | [d1, d2] => { results := [.lit (.bool true)], args := [d1, d2] }
  | _ => none }
def schemaPartsRow : OpenClaim := { program := "ytdeoikfaclbniaa", sum := "f319465c7e0ec4065e950874fd9bb795c8d5b74ecde0c3c501fdc56014a24e2a", func := "sheave/sheavelaw07.SchemaParts", spec := "schemaParts", unfollowed := true, recurses := true, loops := true, apart := false }
def SchemaPartsSaid : Prop := schemaPartsRow.holds Try.pinned (OpenSpec.ofChange schemaPartsSpec)

/-- ITS FALSE NEIGHBOUR: 'it returns false'. Refute it at one input. -/
def schemaPartsWrong : ChangeSpec := { name := "schemaParts", fn := fun _ => fun
  | [d1, d2] => { results := [.lit (.bool false)], args := [d1, d2] }
  | _ => none }
def SchemaPartsWrongFalsely : Prop := schemaPartsRow.holds Try.pinned (OpenSpec.ofChange schemaPartsWrong)

/- THE SECOND FORM. 'bulk': how many values and letters a reading holds, each counted each time it is reached (what is shared counts as often as it is met; a slice's spare places count too). A statement '..UptoSaid' is the law's where the arguments, and the package variables that the reading takes, are together of bulk at most 1048576: NARROWER than '..Said'. Prove '..Said' where nothing that the law and all that it calls make is longer than what came in: it says more and counts as full. Else prove '..UptoSaid'. A law counts once. -/
mutual
def uptoBulk {H : Type} : DataW H → Nat
  | .lit (.string bytes) => bytes.length + 1
  | .lit _ => 1
  | .nil => 1
  | .ptr d => uptoBulk d + 1
  | .slice elems spare => uptoBulkAll elems + uptoBulkAll spare + 1
  | .agg parts => uptoBulkAll parts + 1
  | .iface _ d => uptoBulk d + 1
  | .map entries => uptoBulkEntries entries + 1
  | .held _ => 1
def uptoBulkAll {H : Type} : List (DataW H) → Nat
  | [] => 0
  | d :: r => uptoBulk d + uptoBulkAll r
def uptoBulkEntries {H : Type} : List (Lit × DataW H) → Nat
  | [] => 0
  | x :: r => uptoBulkEntry x + uptoBulkEntries r
def uptoBulkEntry {H : Type} : Lit × DataW H → Nat
  | (.string bytes, d) => bytes.length + uptoBulk d + 1
  | (_, d) => uptoBulk d + 1
 end
def uptoSmall : (H : Type) → List (DataW H) → Bool := fun _ ds => decide (uptoBulkAll ds ≤ 1048576)
def OpenSpec.upto (s : _root_.Go.ChangeSpec) : _root_.Go.OpenSpec := { _root_.Go.OpenSpec.ofChange s with cond := some uptoSmall }

/-- 'sheavelaw07.SchemaValid', WHERE WHAT IT READS IS OF BULK AT MOST 1048576: true; the input reads as it did. -/
def schemaValidUptoRow : OpenClaim := { program := "ytdeoikfaclbniaa", sum := "f319465c7e0ec4065e950874fd9bb795c8d5b74ecde0c3c501fdc56014a24e2a", func := "sheave/sheavelaw07.SchemaValid", spec := "schemaValid", unfollowed := true, recurses := true, loops := true, apart := false, narrowed := true }
def SchemaValidUptoSaid : Prop := schemaValidUptoRow.holds Try.pinned (OpenSpec.upto schemaValidSpec)

/-- 'sheavelaw07.SchemaFind', WHERE WHAT IT READS IS OF BULK AT MOST 1048576: true; the input reads as it did. -/
def schemaFindUptoRow : OpenClaim := { program := "ytdeoikfaclbniaa", sum := "f319465c7e0ec4065e950874fd9bb795c8d5b74ecde0c3c501fdc56014a24e2a", func := "sheave/sheavelaw07.SchemaFind", spec := "schemaFind", unfollowed := true, recurses := true, loops := true, apart := false, narrowed := true }
def SchemaFindUptoSaid : Prop := schemaFindUptoRow.holds Try.pinned (OpenSpec.upto schemaFindSpec)

/-- 'sheavelaw07.SchemaUses', WHERE WHAT IT READS IS OF BULK AT MOST 1048576: true; the input reads as it did. -/
def schemaUsesUptoRow : OpenClaim := { program := "ytdeoikfaclbniaa", sum := "f319465c7e0ec4065e950874fd9bb795c8d5b74ecde0c3c501fdc56014a24e2a", func := "sheave/sheavelaw07.SchemaUses", spec := "schemaUses", unfollowed := true, recurses := true, loops := true, apart := false, narrowed := true }
def SchemaUsesUptoSaid : Prop := schemaUsesUptoRow.holds Try.pinned (OpenSpec.upto schemaUsesSpec)

/-- 'sheavelaw07.SchemaPrune', WHERE WHAT IT READS IS OF BULK AT MOST 1048576: true; the input reads as it did. -/
def schemaPruneUptoRow : OpenClaim := { program := "ytdeoikfaclbniaa", sum := "f319465c7e0ec4065e950874fd9bb795c8d5b74ecde0c3c501fdc56014a24e2a", func := "sheave/sheavelaw07.SchemaPrune", spec := "schemaPrune", unfollowed := true, recurses := true, loops := true, apart := false, narrowed := true }
def SchemaPruneUptoSaid : Prop := schemaPruneUptoRow.holds Try.pinned (OpenSpec.upto schemaPruneSpec)

/-- 'sheavelaw07.SchemaEqual', WHERE WHAT IT READS IS OF BULK AT MOST 1048576: true; the input reads as it did. -/
def schemaEqualUptoRow : OpenClaim := { program := "ytdeoikfaclbniaa", sum := "f319465c7e0ec4065e950874fd9bb795c8d5b74ecde0c3c501fdc56014a24e2a", func := "sheave/sheavelaw07.SchemaEqual", spec := "schemaEqual", unfollowed := true, recurses := true, loops := true, apart := false, narrowed := true }
def SchemaEqualUptoSaid : Prop := schemaEqualUptoRow.holds Try.pinned (OpenSpec.upto schemaEqualSpec)

/-- 'sheavelaw07.SchemaAgain', WHERE WHAT IT READS IS OF BULK AT MOST 1048576: true; the input reads as it did. -/
def schemaAgainUptoRow : OpenClaim := { program := "ytdeoikfaclbniaa", sum := "f319465c7e0ec4065e950874fd9bb795c8d5b74ecde0c3c501fdc56014a24e2a", func := "sheave/sheavelaw07.SchemaAgain", spec := "schemaAgain", unfollowed := true, recurses := true, apart := false, narrowed := true }
def SchemaAgainUptoSaid : Prop := schemaAgainUptoRow.holds Try.pinned (OpenSpec.upto schemaAgainSpec)

/-- 'sheavelaw07.SchemaClosed', WHERE WHAT IT READS IS OF BULK AT MOST 1048576: true; the input reads as it did. -/
def schemaClosedUptoRow : OpenClaim := { program := "ytdeoikfaclbniaa", sum := "f319465c7e0ec4065e950874fd9bb795c8d5b74ecde0c3c501fdc56014a24e2a", func := "sheave/sheavelaw07.SchemaClosed", spec := "schemaClosed", unfollowed := true, recurses := true, apart := false, narrowed := true }
def SchemaClosedUptoSaid : Prop := schemaClosedUptoRow.holds Try.pinned (OpenSpec.upto schemaClosedSpec)

/-- 'sheavelaw07.SchemaParts', WHERE WHAT IT READS IS OF BULK AT MOST 1048576: true; the input reads as it did. -/
def schemaPartsUptoRow : OpenClaim := { program := "ytdeoikfaclbniaa", sum := "f319465c7e0ec4065e950874fd9bb795c8d5b74ecde0c3c501fdc56014a24e2a", func := "sheave/sheavelaw07.SchemaParts", spec := "schemaParts", unfollowed := true, recurses := true, loops := true, apart := false, narrowed := true }
def SchemaPartsUptoSaid : Prop := schemaPartsUptoRow.holds Try.pinned (OpenSpec.upto schemaPartsSpec)

end Rows
end Go.Proofs.Ytdeoikfaclbniaa
