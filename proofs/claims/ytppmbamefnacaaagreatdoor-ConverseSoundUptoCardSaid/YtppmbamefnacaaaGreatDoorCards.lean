/-
  DERIVED. GIVEN WITH THE SEED: THE CARDS: each row of YtppmbamefnacaaaGreatDoorRows.lean that lists a variable, with what it lists TIED to the program's text (the seventh form; the later family's looks); each row that meets fmt, with fmt's text TOLD by the authors' own Lean function (tested against real Go, not proved from fmt's source: count such statements apart). THE CARD IS WHAT COUNTS. Prove the row's statement (the work); the ties are given (YtppmbamefnacaaaGreatDoorTie.lean); close each card by the builder's one call (the guide's Derived/Test/ToyasCard.lean, 'card_holds'). Laid BY PROGRAM, IN A SANDBOX (cutbox-door.mjs). By AI agents, Wed Nov 11 2026. No macro, syntax, notation, axiom, sorry.
-/
import Derived.Test.YtppmbamefnacaaaGreatDoorRows
import GoSem.ClaimSeven
namespace Go.Proofs.YtppmbamefnacaaaGreatDoor
namespace Rows

/-- THE TIED CARD OF 'sheavelaw30.ConverseStuck'. -/
def converseStuckCard : Claim7 := { stood := { row := converseStuckRow, standIns := [], harness := (true, "be33274c09db615ca1b100577149998aaafb4732e3d3ad533fb1272ef4151172"), looks := false }, kinds := [], alts := [], laidByText := true, laidKinds := [.data, .data, .data], laidTests := true, laidLooks := .later }
def ConverseStuckCardSaid : Prop := Claim7.holds Tryz.pinned (.plain (OpenSpec.ofChange converseStuckSpec)) converseStuckCard

/-- THE TIED CARD OF 'sheavelaw30.ConverseComplete'. -/
def converseCompleteCard : Claim7 := { stood := { row := converseCompleteRow, standIns := [], harness := (true, "be33274c09db615ca1b100577149998aaafb4732e3d3ad533fb1272ef4151172"), looks := false }, kinds := [], alts := [], laidByText := true, laidKinds := [.data, .data, .data], laidTests := true, laidLooks := .later }
def ConverseCompleteCardSaid : Prop := Claim7.holds Tryz.pinned (.plain (OpenSpec.ofChange converseCompleteSpec)) converseCompleteCard

/-- THE TIED CARD OF 'sheavelaw30.ConverseCheck'. -/
def converseCheckCard : Claim7 := { stood := { row := converseCheckRow, standIns := [], harness := (true, "be33274c09db615ca1b100577149998aaafb4732e3d3ad533fb1272ef4151172"), looks := false }, kinds := [], alts := [], laidByText := true, laidKinds := [.data, .data, .data], laidTests := true, laidLooks := .later }
def ConverseCheckCardSaid : Prop := Claim7.holds Tryz.pinned (.plain (OpenSpec.ofChange converseCheckSpec)) converseCheckCard

/-- THE TIED CARD OF 'sheavelaw30.ConverseSound'. -/
def converseSoundCard : Claim7 := { stood := { row := converseSoundRow, standIns := [], harness := (true, "be33274c09db615ca1b100577149998aaafb4732e3d3ad533fb1272ef4151172"), looks := false }, kinds := [], alts := [], laidByText := true, laidKinds := [.data, .data, .data], laidTests := true, laidLooks := .later }
def ConverseSoundCardSaid : Prop := Claim7.holds Tryz.pinned (.plain (OpenSpec.ofChange converseSoundSpec)) converseSoundCard

/-- THE TIED CARD OF 'sheavelaw30.ConverseSafe'. -/
def converseSafeCard : Claim7 := { stood := { row := converseSafeRow, standIns := [], harness := (true, "be33274c09db615ca1b100577149998aaafb4732e3d3ad533fb1272ef4151172"), looks := false }, kinds := [], alts := [], laidByText := true, laidKinds := [.data, .data, .data], laidTests := true, laidLooks := .later }
def ConverseSafeCardSaid : Prop := Claim7.holds Tryz.pinned (.plain (OpenSpec.ofChange converseSafeSpec)) converseSafeCard

/-- THE SECOND FORM's CARD OF 'sheavelaw30.ConverseStuck'. -/
def converseStuckUptoCard : Claim7 := { stood := { row := converseStuckUptoRow, standIns := [], harness := (true, "be33274c09db615ca1b100577149998aaafb4732e3d3ad533fb1272ef4151172"), looks := false }, kinds := [], alts := [], laidByText := true, laidKinds := [.data, .data, .data], laidTests := true, laidLooks := .later }
def ConverseStuckUptoCardSaid : Prop := Claim7.holds Tryz.pinned (.plain (OpenSpec.upto converseStuckSpec)) converseStuckUptoCard

/-- THE SECOND FORM's CARD OF 'sheavelaw30.ConverseComplete'. -/
def converseCompleteUptoCard : Claim7 := { stood := { row := converseCompleteUptoRow, standIns := [], harness := (true, "be33274c09db615ca1b100577149998aaafb4732e3d3ad533fb1272ef4151172"), looks := false }, kinds := [], alts := [], laidByText := true, laidKinds := [.data, .data, .data], laidTests := true, laidLooks := .later }
def ConverseCompleteUptoCardSaid : Prop := Claim7.holds Tryz.pinned (.plain (OpenSpec.upto converseCompleteSpec)) converseCompleteUptoCard

/-- THE SECOND FORM's CARD OF 'sheavelaw30.ConverseCheck'. -/
def converseCheckUptoCard : Claim7 := { stood := { row := converseCheckUptoRow, standIns := [], harness := (true, "be33274c09db615ca1b100577149998aaafb4732e3d3ad533fb1272ef4151172"), looks := false }, kinds := [], alts := [], laidByText := true, laidKinds := [.data, .data, .data], laidTests := true, laidLooks := .later }
def ConverseCheckUptoCardSaid : Prop := Claim7.holds Tryz.pinned (.plain (OpenSpec.upto converseCheckSpec)) converseCheckUptoCard

/-- THE SECOND FORM's CARD OF 'sheavelaw30.ConverseSound'. -/
def converseSoundUptoCard : Claim7 := { stood := { row := converseSoundUptoRow, standIns := [], harness := (true, "be33274c09db615ca1b100577149998aaafb4732e3d3ad533fb1272ef4151172"), looks := false }, kinds := [], alts := [], laidByText := true, laidKinds := [.data, .data, .data], laidTests := true, laidLooks := .later }
def ConverseSoundUptoCardSaid : Prop := Claim7.holds Tryz.pinned (.plain (OpenSpec.upto converseSoundSpec)) converseSoundUptoCard

/-- THE SECOND FORM's CARD OF 'sheavelaw30.ConverseSafe'. -/
def converseSafeUptoCard : Claim7 := { stood := { row := converseSafeUptoRow, standIns := [], harness := (true, "be33274c09db615ca1b100577149998aaafb4732e3d3ad533fb1272ef4151172"), looks := false }, kinds := [], alts := [], laidByText := true, laidKinds := [.data, .data, .data], laidTests := true, laidLooks := .later }
def ConverseSafeUptoCardSaid : Prop := Claim7.holds Tryz.pinned (.plain (OpenSpec.upto converseSafeSpec)) converseSafeUptoCard
end Rows
end Go.Proofs.YtppmbamefnacaaaGreatDoor
