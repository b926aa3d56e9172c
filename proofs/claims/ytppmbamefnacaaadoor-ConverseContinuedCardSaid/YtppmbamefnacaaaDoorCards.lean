/-
  DERIVED. GIVEN WITH THE SEED: THE CARDS: each row of YtppmbamefnacaaaDoorRows.lean that lists a variable, with what it lists TIED to the program's text (the seventh form; the later family's looks); each row that meets fmt, with fmt's text TOLD by the authors' own Lean function (tested against real Go, not proved from fmt's source: count such statements apart). THE CARD IS WHAT COUNTS. Prove the row's statement (the work); the ties are given (YtppmbamefnacaaaDoorTie.lean); close each card by the builder's one call (the guide's Derived/Test/ToyasCard.lean, 'card_holds'). Laid BY PROGRAM, IN A SANDBOX (cutbox-door.mjs). By AI agents, Wed Nov 11 2026. No macro, syntax, notation, axiom, sorry.
-/
import Derived.Test.YtppmbamefnacaaaDoorRows
import GoSem.ClaimSeven
namespace Go.Proofs.YtppmbamefnacaaaDoor
namespace Rows

/-- THE TIED CARD OF 'sheavelaw30.ConverseContinued'. -/
def converseContinuedCard : Claim7 := { stood := { row := converseContinuedRow, standIns := [], harness := (true, "cd51bec7da2cec8415344473713af5d09667f14c253e10ab9f41eafab6e1de77"), looks := false }, kinds := [], alts := [], laidByText := true, laidKinds := [.data, .data, .data], laidTests := true, laidLooks := .later }
def ConverseContinuedCardSaid : Prop := Claim7.holds Tryd.pinned (.plain (OpenSpec.ofChange converseContinuedSpec)) converseContinuedCard

/-- THE TIED CARD OF 'sheavelaw30.ConverseRun'. -/
def converseRunCard : Claim7 := { stood := { row := converseRunRow, standIns := [], harness := (true, "cd51bec7da2cec8415344473713af5d09667f14c253e10ab9f41eafab6e1de77"), looks := false }, kinds := [], alts := [], laidByText := true, laidKinds := [.data, .data, .data], laidTests := true, laidLooks := .later }
def ConverseRunCardSaid : Prop := Claim7.holds Tryd.pinned (.plain (OpenSpec.ofChange converseRunSpec)) converseRunCard

/-- THE TIED CARD OF 'sheavelaw30.ConverseErrors'. -/
def converseErrorsCard : Claim7 := { stood := { row := converseErrorsRow, standIns := [], harness := (true, "cd51bec7da2cec8415344473713af5d09667f14c253e10ab9f41eafab6e1de77"), looks := false }, kinds := [], alts := [], laidByText := true, laidKinds := [.data, .data, .data], laidTests := true, laidLooks := .later }
def ConverseErrorsCardSaid : Prop := Claim7.holds Tryd.pinned (.plain (OpenSpec.ofChange converseErrorsSpec)) converseErrorsCard

/-- THE SECOND FORM's CARD OF 'sheavelaw30.ConverseContinued'. -/
def converseContinuedUptoCard : Claim7 := { stood := { row := converseContinuedUptoRow, standIns := [], harness := (true, "cd51bec7da2cec8415344473713af5d09667f14c253e10ab9f41eafab6e1de77"), looks := false }, kinds := [], alts := [], laidByText := true, laidKinds := [.data, .data, .data], laidTests := true, laidLooks := .later }
def ConverseContinuedUptoCardSaid : Prop := Claim7.holds Tryd.pinned (.plain (OpenSpec.upto converseContinuedSpec)) converseContinuedUptoCard

/-- THE SECOND FORM's CARD OF 'sheavelaw30.ConverseRun'. -/
def converseRunUptoCard : Claim7 := { stood := { row := converseRunUptoRow, standIns := [], harness := (true, "cd51bec7da2cec8415344473713af5d09667f14c253e10ab9f41eafab6e1de77"), looks := false }, kinds := [], alts := [], laidByText := true, laidKinds := [.data, .data, .data], laidTests := true, laidLooks := .later }
def ConverseRunUptoCardSaid : Prop := Claim7.holds Tryd.pinned (.plain (OpenSpec.upto converseRunSpec)) converseRunUptoCard

/-- THE SECOND FORM's CARD OF 'sheavelaw30.ConverseErrors'. -/
def converseErrorsUptoCard : Claim7 := { stood := { row := converseErrorsUptoRow, standIns := [], harness := (true, "cd51bec7da2cec8415344473713af5d09667f14c253e10ab9f41eafab6e1de77"), looks := false }, kinds := [], alts := [], laidByText := true, laidKinds := [.data, .data, .data], laidTests := true, laidLooks := .later }
def ConverseErrorsUptoCardSaid : Prop := Claim7.holds Tryd.pinned (.plain (OpenSpec.upto converseErrorsSpec)) converseErrorsUptoCard
end Rows
end Go.Proofs.YtppmbamefnacaaaDoor
