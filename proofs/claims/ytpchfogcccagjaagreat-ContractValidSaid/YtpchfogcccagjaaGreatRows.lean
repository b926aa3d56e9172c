/-
  NARROWER THAN 'FOR EVERY INPUT', by the rows' own cells (each row's printed sentence says how): ContractValid: loops · ContractFind: loops · ContractErrors: loops.
  DERIVED. THE GIVEN ROWS OF THIS SEAT. 8 by the template 'for every input the law returns true; each argument reads behind the call as it read before'; 0 by the template 'total and deterministic' (their statements: YtpchfogcccagjaaGreatTotals.lean).
  GIVEN WITH THE SEED: the statements are not yours to turn. If you find one false, say at which input.
  Laid BY PROGRAM, IN A SANDBOX (cutbox-rows.mjs): the forced cells as the released guide's own fill.sh prints them over the translation 5f021565cf9d62e9… (all of the seat's roots in one cut). By AI agents, Wed Nov 11 2026. No macro, syntax, notation, axiom, sorry.
-/
import Derived.Test.YtpchfogcccagjaaGreatChecked
import GoSem.Claim
import GoSem.ClaimJoined
import GoSem.ClaimMapViews
import Derived.JoinedTies
import Derived.KernelRfl
namespace Go.Proofs.YtpchfogcccagjaaGreat
/- THE CELL 'sum', in the pinned program and in every row, IS THE sha256 OF THE DUMP (.gsa) THAT YtpchfogcccagjaaGreatProg.lean LOADS. Nothing in Lean hashes anything: it is a label: what it is worth is what the hold of that sum in a sandbox is worth. -/
noncomputable def Tryz.pinned : Pinned := { name := "ytpchfogcccagjaagreat", sum := "5f021565cf9d62e9a3ef7d2ae7a5b07e644a7b1bdb714f15e6740b456ddc079d", checked := Tryz.checked }
namespace Rows
def none {H : Type} : Left H := { results := [], args := [] }

/-- 'sheavelaw32.ContractValid': WHATEVER THE INPUT: true; the input reads as it did. -/
def contractValidSpec : ChangeSpec := { name := "contractValid", fn := fun _ => fun
  | [d] => { results := [.lit (.bool true)], args := [d] }
  | _ => none }
def contractValidRow : OpenClaim := { program := "ytpchfogcccagjaagreat", sum := "5f021565cf9d62e9a3ef7d2ae7a5b07e644a7b1bdb714f15e6740b456ddc079d", func := "sheave/sheavelaw32.ContractValid", spec := "contractValid", unfollowed := true, recurses := true, loops := true, plainKeys := false, apart := false }
def ContractValidSaid : Prop := contractValidRow.holds Tryz.pinned (OpenSpec.ofChange contractValidSpec)

/-- ITS FALSE NEIGHBOUR: 'it returns false'. Refute it at one input. -/
def contractValidWrong : ChangeSpec := { name := "contractValid", fn := fun _ => fun
  | [d] => { results := [.lit (.bool false)], args := [d] }
  | _ => none }
def ContractValidWrongFalsely : Prop := contractValidRow.holds Tryz.pinned (OpenSpec.ofChange contractValidWrong)

/-- 'sheavelaw32.ContractFind': WHATEVER THE INPUT: true; the input reads as it did. -/
def contractFindSpec : ChangeSpec := { name := "contractFind", fn := fun _ => fun
  | [d1, d2] => { results := [.lit (.bool true)], args := [d1, d2] }
  | _ => none }
def contractFindRow : OpenClaim := { program := "ytpchfogcccagjaagreat", sum := "5f021565cf9d62e9a3ef7d2ae7a5b07e644a7b1bdb714f15e6740b456ddc079d", func := "sheave/sheavelaw32.ContractFind", spec := "contractFind", unfollowed := true, recurses := true, loops := true, plainKeys := false, apart := false }
def ContractFindSaid : Prop := contractFindRow.holds Tryz.pinned (OpenSpec.ofChange contractFindSpec)

/-- ITS FALSE NEIGHBOUR: 'it returns false'. Refute it at one input. -/
def contractFindWrong : ChangeSpec := { name := "contractFind", fn := fun _ => fun
  | [d1, d2] => { results := [.lit (.bool false)], args := [d1, d2] }
  | _ => none }
def ContractFindWrongFalsely : Prop := contractFindRow.holds Tryz.pinned (OpenSpec.ofChange contractFindWrong)

/-- 'sheavelaw32.ContractShrink': WHATEVER THE INPUT: true; the input reads as it did. -/
def contractShrinkSpec : ChangeSpec := { name := "contractShrink", fn := fun _ => fun
  | [d] => { results := [.lit (.bool true)], args := [d] }
  | _ => none }
def contractShrinkRow : OpenClaim := { program := "ytpchfogcccagjaagreat", sum := "5f021565cf9d62e9a3ef7d2ae7a5b07e644a7b1bdb714f15e6740b456ddc079d", func := "sheave/sheavelaw32.ContractShrink", spec := "contractShrink", unfollowed := true, recurses := true, plainKeys := false, apart := false }
def ContractShrinkSaid : Prop := contractShrinkRow.holds Tryz.pinned (OpenSpec.ofChange contractShrinkSpec)

/-- ITS FALSE NEIGHBOUR: 'it returns false'. Refute it at one input. -/
def contractShrinkWrong : ChangeSpec := { name := "contractShrink", fn := fun _ => fun
  | [d] => { results := [.lit (.bool false)], args := [d] }
  | _ => none }
def ContractShrinkWrongFalsely : Prop := contractShrinkRow.holds Tryz.pinned (OpenSpec.ofChange contractShrinkWrong)

/-- 'sheavelaw32.ContractShrunk': WHATEVER THE INPUT: true; the input reads as it did. -/
def contractShrunkSpec : ChangeSpec := { name := "contractShrunk", fn := fun _ => fun
  | [d] => { results := [.lit (.bool true)], args := [d] }
  | _ => none }
def contractShrunkRow : OpenClaim := { program := "ytpchfogcccagjaagreat", sum := "5f021565cf9d62e9a3ef7d2ae7a5b07e644a7b1bdb714f15e6740b456ddc079d", func := "sheave/sheavelaw32.ContractShrunk", spec := "contractShrunk", unfollowed := true, recurses := true, plainKeys := false, apart := false }
def ContractShrunkSaid : Prop := contractShrunkRow.holds Tryz.pinned (OpenSpec.ofChange contractShrunkSpec)

/-- ITS FALSE NEIGHBOUR: 'it returns false'. Refute it at one input. -/
def contractShrunkWrong : ChangeSpec := { name := "contractShrunk", fn := fun _ => fun
  | [d] => { results := [.lit (.bool false)], args := [d] }
  | _ => none }
def ContractShrunkWrongFalsely : Prop := contractShrunkRow.holds Tryz.pinned (OpenSpec.ofChange contractShrunkWrong)

/-- 'sheavelaw32.ContractSame': WHATEVER THE INPUT: true; the input reads as it did. -/
def contractSameSpec : ChangeSpec := { name := "contractSame", fn := fun _ => fun
  | [d1, d2, d3] => { results := [.lit (.bool true)], args := [d1, d2, d3] }
  | _ => none }
def contractSameRow : OpenClaim := { program := "ytpchfogcccagjaagreat", sum := "5f021565cf9d62e9a3ef7d2ae7a5b07e644a7b1bdb714f15e6740b456ddc079d", func := "sheave/sheavelaw32.ContractSame", spec := "contractSame", unfollowed := true, recurses := true, plainKeys := false, apart := false }
def ContractSameSaid : Prop := contractSameRow.holds Tryz.pinned (OpenSpec.ofChange contractSameSpec)

/-- ITS FALSE NEIGHBOUR: 'it returns false'. Refute it at one input. -/
def contractSameWrong : ChangeSpec := { name := "contractSame", fn := fun _ => fun
  | [d1, d2, d3] => { results := [.lit (.bool false)], args := [d1, d2, d3] }
  | _ => none }
def ContractSameWrongFalsely : Prop := contractSameRow.holds Tryz.pinned (OpenSpec.ofChange contractSameWrong)

/-- 'sheavelaw32.ContractErrors': WHATEVER THE INPUT: true; the input reads as it did. -/
def contractErrorsSpec : ChangeSpec := { name := "contractErrors", fn := fun _ => fun
  | [d1, d2] => { results := [.lit (.bool true)], args := [d1, d2] }
  | _ => none }
def contractErrorsRow : OpenClaim := { program := "ytpchfogcccagjaagreat", sum := "5f021565cf9d62e9a3ef7d2ae7a5b07e644a7b1bdb714f15e6740b456ddc079d", func := "sheave/sheavelaw32.ContractErrors", spec := "contractErrors", unfollowed := true, recurses := true, loops := true, plainKeys := false, apart := false }
def ContractErrorsSaid : Prop := contractErrorsRow.holds Tryz.pinned (OpenSpec.ofChange contractErrorsSpec)

/-- ITS FALSE NEIGHBOUR: 'it returns false'. Refute it at one input. -/
def contractErrorsWrong : ChangeSpec := { name := "contractErrors", fn := fun _ => fun
  | [d1, d2] => { results := [.lit (.bool false)], args := [d1, d2] }
  | _ => none }
def ContractErrorsWrongFalsely : Prop := contractErrorsRow.holds Tryz.pinned (OpenSpec.ofChange contractErrorsWrong)

/-- 'sheavelaw32.ContractOrder': WHATEVER THE INPUT: true; the input reads as it did. -/
def contractOrderSpec : ChangeSpec := { name := "contractOrder", fn := fun _ => fun
  | [d] => { results := [.lit (.bool true)], args := [d] }
  | _ => none }
def contractOrderRow : OpenClaim := { program := "ytpchfogcccagjaagreat", sum := "5f021565cf9d62e9a3ef7d2ae7a5b07e644a7b1bdb714f15e6740b456ddc079d", func := "sheave/sheavelaw32.ContractOrder", spec := "contractOrder", unfollowed := true, recurses := true, plainKeys := false, apart := false }
def ContractOrderSaid : Prop := contractOrderRow.holds Tryz.pinned (OpenSpec.ofChange contractOrderSpec)

/-- ITS FALSE NEIGHBOUR: 'it returns false'. Refute it at one input. -/
def contractOrderWrong : ChangeSpec := { name := "contractOrder", fn := fun _ => fun
  | [d] => { results := [.lit (.bool false)], args := [d] }
  | _ => none }
def ContractOrderWrongFalsely : Prop := contractOrderRow.holds Tryz.pinned (OpenSpec.ofChange contractOrderWrong)

/-- 'sheavelaw32.ContractRemoved': WHATEVER THE INPUT: true; the input reads as it did. -/
def contractRemovedSpec : ChangeSpec := { name := "contractRemoved", fn := fun _ => fun
  | [d1, d2] => { results := [.lit (.bool true)], args := [d1, d2] }
  | _ => none }
def contractRemovedRow : OpenClaim := { program := "ytpchfogcccagjaagreat", sum := "5f021565cf9d62e9a3ef7d2ae7a5b07e644a7b1bdb714f15e6740b456ddc079d", func := "sheave/sheavelaw32.ContractRemoved", spec := "contractRemoved", unfollowed := true, recurses := true, plainKeys := false, apart := false }
def ContractRemovedSaid : Prop := contractRemovedRow.holds Tryz.pinned (OpenSpec.ofChange contractRemovedSpec)

/-- ITS FALSE NEIGHBOUR: 'it returns false'. Refute it at one input. -/
def contractRemovedWrong : ChangeSpec := { name := "contractRemoved", fn := fun _ => fun
  | [d1, d2] => { results := [.lit (.bool false)], args := [d1, d2] }
  | _ => none }
def ContractRemovedWrongFalsely : Prop := contractRemovedRow.holds Tryz.pinned (OpenSpec.ofChange contractRemovedWrong)

/- THE SECOND FORM. 'bulk': how many values and letters a reading holds, each counted each time it is reached (what is shared counts as often as it is met; a slice's spare places count too). A statement '..UptoSaid' is the law's where the arguments, and the package variables that the reading takes, are together of bulk at most 1048576: NARROWER than '..Said'. Prove '..Said' where nothing that the law and all that it calls make is longer than what came in: it says more and counts as full. Else prove '..UptoSaid'. A law counts once. -/
mutual
def uptoBulk {H : Type} : DataW H → Nat
  | .lit (.string bytes) => bytes.length + 1
  | .lit _ => 1
  | .nil => 1
  | .ptr d => uptoBulk d + 1
  | .slice elems spare => uptoBulkAll elems + uptoBulkAll spare + 1
  | .agg parts => uptoBulkAll parts + 1
  | .iface _ d => uptoBulk d + 1
  | .map entries => uptoBulkEntries entries + 1
  | .held _ => 1
def uptoBulkAll {H : Type} : List (DataW H) → Nat
  | [] => 0
  | d :: r => uptoBulk d + uptoBulkAll r
def uptoBulkEntries {H : Type} : List (Lit × DataW H) → Nat
  | [] => 0
  | x :: r => uptoBulkEntry x + uptoBulkEntries r
def uptoBulkEntry {H : Type} : Lit × DataW H → Nat
  | (.string bytes, d) => bytes.length + uptoBulk d + 1
  | (_, d) => uptoBulk d + 1
 end
def uptoSmall : (H : Type) → List (DataW H) → Bool := fun _ ds => decide (uptoBulkAll ds ≤ 1048576)
def OpenSpec.upto (s : _root_.Go.ChangeSpec) : _root_.Go.OpenSpec := { _root_.Go.OpenSpec.ofChange s with cond := some uptoSmall }

/-- 'sheavelaw32.ContractValid', WHERE WHAT IT READS IS OF BULK AT MOST 1048576: true; the input reads as it did. -/
def contractValidUptoRow : OpenClaim := { program := "ytpchfogcccagjaagreat", sum := "5f021565cf9d62e9a3ef7d2ae7a5b07e644a7b1bdb714f15e6740b456ddc079d", func := "sheave/sheavelaw32.ContractValid", spec := "contractValid", unfollowed := true, recurses := true, loops := true, plainKeys := false, apart := false, narrowed := true }
def ContractValidUptoSaid : Prop := contractValidUptoRow.holds Tryz.pinned (OpenSpec.upto contractValidSpec)

/-- 'sheavelaw32.ContractFind', WHERE WHAT IT READS IS OF BULK AT MOST 1048576: true; the input reads as it did. -/
def contractFindUptoRow : OpenClaim := { program := "ytpchfogcccagjaagreat", sum := "5f021565cf9d62e9a3ef7d2ae7a5b07e644a7b1bdb714f15e6740b456ddc079d", func := "sheave/sheavelaw32.ContractFind", spec := "contractFind", unfollowed := true, recurses := true, loops := true, plainKeys := false, apart := false, narrowed := true }
def ContractFindUptoSaid : Prop := contractFindUptoRow.holds Tryz.pinned (OpenSpec.upto contractFindSpec)

/-- 'sheavelaw32.ContractShrink', WHERE WHAT IT READS IS OF BULK AT MOST 1048576: true; the input reads as it did. -/
def contractShrinkUptoRow : OpenClaim := { program := "ytpchfogcccagjaagreat", sum := "5f021565cf9d62e9a3ef7d2ae7a5b07e644a7b1bdb714f15e6740b456ddc079d", func := "sheave/sheavelaw32.ContractShrink", spec := "contractShrink", unfollowed := true, recurses := true, plainKeys := false, apart := false, narrowed := true }
def ContractShrinkUptoSaid : Prop := contractShrinkUptoRow.holds Tryz.pinned (OpenSpec.upto contractShrinkSpec)

/-- 'sheavelaw32.ContractShrunk', WHERE WHAT IT READS IS OF BULK AT MOST 1048576: true; the input reads as it did. -/
def contractShrunkUptoRow : OpenClaim := { program := "ytpchfogcccagjaagreat", sum := "5f021565cf9d62e9a3ef7d2ae7a5b07e644a7b1bdb714f15e6740b456ddc079d", func := "sheave/sheavelaw32.ContractShrunk", spec := "contractShrunk", unfollowed := true, recurses := true, plainKeys := false, apart := false, narrowed := true }
def ContractShrunkUptoSaid : Prop := contractShrunkUptoRow.holds Tryz.pinned (OpenSpec.upto contractShrunkSpec)

/-- 'sheavelaw32.ContractSame', WHERE WHAT IT READS IS OF BULK AT MOST 1048576: true; the input reads as it did. -/
def contractSameUptoRow : OpenClaim := { program := "ytpchfogcccagjaagreat", sum := "5f021565cf9d62e9a3ef7d2ae7a5b07e644a7b1bdb714f15e6740b456ddc079d", func := "sheave/sheavelaw32.ContractSame", spec := "contractSame", unfollowed := true, recurses := true, plainKeys := false, apart := false, narrowed := true }
def ContractSameUptoSaid : Prop := contractSameUptoRow.holds Tryz.pinned (OpenSpec.upto contractSameSpec)

/-- 'sheavelaw32.ContractErrors', WHERE WHAT IT READS IS OF BULK AT MOST 1048576: true; the input reads as it did. -/
def contractErrorsUptoRow : OpenClaim := { program := "ytpchfogcccagjaagreat", sum := "5f021565cf9d62e9a3ef7d2ae7a5b07e644a7b1bdb714f15e6740b456ddc079d", func := "sheave/sheavelaw32.ContractErrors", spec := "contractErrors", unfollowed := true, recurses := true, loops := true, plainKeys := false, apart := false, narrowed := true }
def ContractErrorsUptoSaid : Prop := contractErrorsUptoRow.holds Tryz.pinned (OpenSpec.upto contractErrorsSpec)

/-- 'sheavelaw32.ContractOrder', WHERE WHAT IT READS IS OF BULK AT MOST 1048576: true; the input reads as it did. -/
def contractOrderUptoRow : OpenClaim := { program := "ytpchfogcccagjaagreat", sum := "5f021565cf9d62e9a3ef7d2ae7a5b07e644a7b1bdb714f15e6740b456ddc079d", func := "sheave/sheavelaw32.ContractOrder", spec := "contractOrder", unfollowed := true, recurses := true, plainKeys := false, apart := false, narrowed := true }
def ContractOrderUptoSaid : Prop := contractOrderUptoRow.holds Tryz.pinned (OpenSpec.upto contractOrderSpec)

/-- 'sheavelaw32.ContractRemoved', WHERE WHAT IT READS IS OF BULK AT MOST 1048576: true; the input reads as it did. -/
def contractRemovedUptoRow : OpenClaim := { program := "ytpchfogcccagjaagreat", sum := "5f021565cf9d62e9a3ef7d2ae7a5b07e644a7b1bdb714f15e6740b456ddc079d", func := "sheave/sheavelaw32.ContractRemoved", spec := "contractRemoved", unfollowed := true, recurses := true, plainKeys := false, apart := false, narrowed := true }
def ContractRemovedUptoSaid : Prop := contractRemovedUptoRow.holds Tryz.pinned (OpenSpec.upto contractRemovedSpec)

end Rows
end Go.Proofs.YtpchfogcccagjaaGreat
