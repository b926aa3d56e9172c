/-
  DERIVED. GIVEN WITH THE SEED: THE CARDS: each row of YtcdmmccepnbnhaaGreatDoorRows.lean that lists a variable, with what it lists TIED to the program's text (the seventh form; the later family's looks); each row that meets fmt, with fmt's text TOLD by the authors' own Lean function (tested against real Go, not proved from fmt's source: count such statements apart). THE CARD IS WHAT COUNTS. Prove the row's statement (the work); the ties are given (YtcdmmccepnbnhaaGreatDoorTie.lean); close each card by the builder's one call (the guide's Derived/Test/ToyasCard.lean, 'card_holds'). Laid BY PROGRAM, IN A SANDBOX (cutbox-door.mjs). By AI agents, Wed Nov 11 2026. No macro, syntax, notation, axiom, sorry.
-/
import Derived.Test.YtcdmmccepnbnhaaGreatDoorRows
import GoSem.ClaimSeven
namespace Go.Proofs.YtcdmmccepnbnhaaGreatDoor
namespace Rows

/-- THE TIED CARD OF 'sheavetop.TopCompleted'. -/
def topCompletedCard : Claim7 := { stood := { row := topCompletedRow, standIns := [], harness := (true, "6c1e89c1def8a1ae63cdd0ee2395e8602619e7f5f2bbb3af333891523949c3c0"), looks := false }, kinds := [], alts := [], laidByText := true, laidKinds := [.data, .data, .data], laidTests := true, laidLooks := .later }
def TopCompletedCardSaid : Prop := Claim7.holds Tryz.pinned (.plain (OpenSpec.ofChange topCompletedSpec)) topCompletedCard

/-- THE TIED CARD OF 'sheavetop.TopMinimized'. -/
def topMinimizedCard : Claim7 := { stood := { row := topMinimizedRow, standIns := [], harness := (true, "6c1e89c1def8a1ae63cdd0ee2395e8602619e7f5f2bbb3af333891523949c3c0"), looks := false }, kinds := [], alts := [], laidByText := true, laidKinds := [.data, .data, .data], laidTests := true, laidLooks := .later }
def TopMinimizedCardSaid : Prop := Claim7.holds Tryz.pinned (.plain (OpenSpec.ofChange topMinimizedSpec)) topMinimizedCard

/-- THE SECOND FORM's CARD OF 'sheavetop.TopCompleted'. -/
def topCompletedUptoCard : Claim7 := { stood := { row := topCompletedUptoRow, standIns := [], harness := (true, "6c1e89c1def8a1ae63cdd0ee2395e8602619e7f5f2bbb3af333891523949c3c0"), looks := false }, kinds := [], alts := [], laidByText := true, laidKinds := [.data, .data, .data], laidTests := true, laidLooks := .later }
def TopCompletedUptoCardSaid : Prop := Claim7.holds Tryz.pinned (.plain (OpenSpec.upto topCompletedSpec)) topCompletedUptoCard

/-- THE SECOND FORM's CARD OF 'sheavetop.TopMinimized'. -/
def topMinimizedUptoCard : Claim7 := { stood := { row := topMinimizedUptoRow, standIns := [], harness := (true, "6c1e89c1def8a1ae63cdd0ee2395e8602619e7f5f2bbb3af333891523949c3c0"), looks := false }, kinds := [], alts := [], laidByText := true, laidKinds := [.data, .data, .data], laidTests := true, laidLooks := .later }
def TopMinimizedUptoCardSaid : Prop := Claim7.holds Tryz.pinned (.plain (OpenSpec.upto topMinimizedSpec)) topMinimizedUptoCard
end Rows
end Go.Proofs.YtcdmmccepnbnhaaGreatDoor
