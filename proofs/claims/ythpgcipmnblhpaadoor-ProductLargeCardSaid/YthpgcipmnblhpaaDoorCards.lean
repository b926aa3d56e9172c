/-
  DERIVED. GIVEN WITH THE SEED: THE CARDS: each row of YthpgcipmnblhpaaDoorRows.lean that lists a variable, with what it lists TIED to the program's text (the seventh form; the later family's looks); each row that meets fmt, with fmt's text TOLD by the authors' own Lean function (tested against real Go, not proved from fmt's source: count such statements apart). THE CARD IS WHAT COUNTS. Prove the row's statement (the work); the ties are given (YthpgcipmnblhpaaDoorTie.lean); close each card by the builder's one call (the guide's Derived/Test/ToyasCard.lean, 'card_holds'). Laid BY PROGRAM, IN A SANDBOX (cutbox-door.mjs). By AI agents, Wed Nov 11 2026. No macro, syntax, notation, axiom, sorry.
-/
import Derived.Test.YthpgcipmnblhpaaDoorRows
import GoSem.ClaimSeven
namespace Go.Proofs.YthpgcipmnblhpaaDoor
namespace Rows

/-- THE TIED CARD OF 'sheavelaw29.ProductValid'. -/
def productValidCard : Claim7 := { stood := { row := productValidRow, standIns := [], harness := (true, "ea17cf7437f5870140e2c77e00aca8c253e0374b016c2564e3df0f190c39c864"), looks := false }, kinds := [], alts := [], laidByText := true, laidKinds := [.data, .data, .data], laidTests := true, laidLooks := .later }
def ProductValidCardSaid : Prop := Claim7.holds Tryd.pinned (.plain (OpenSpec.ofChange productValidSpec)) productValidCard

/-- THE TIED CARD OF 'sheavelaw29.ProductFits'. -/
def productFitsCard : Claim7 := { stood := { row := productFitsRow, standIns := [], harness := (true, "ea17cf7437f5870140e2c77e00aca8c253e0374b016c2564e3df0f190c39c864"), looks := false }, kinds := [], alts := [], laidByText := true, laidKinds := [.data, .data, .data], laidTests := true, laidLooks := .later }
def ProductFitsCardSaid : Prop := Claim7.holds Tryd.pinned (.plain (OpenSpec.ofChange productFitsSpec)) productFitsCard

/-- THE TIED CARD OF 'sheavelaw29.ProductRun'. -/
def productRunCard : Claim7 := { stood := { row := productRunRow, standIns := [], harness := (true, "ea17cf7437f5870140e2c77e00aca8c253e0374b016c2564e3df0f190c39c864"), looks := false }, kinds := [], alts := [], laidByText := true, laidKinds := [.data, .data, .data], laidTests := true, laidLooks := .later }
def ProductRunCardSaid : Prop := Claim7.holds Tryd.pinned (.plain (OpenSpec.ofChange productRunSpec)) productRunCard

/-- THE TIED CARD OF 'sheavelaw29.ProductReachable'. -/
def productReachableCard : Claim7 := { stood := { row := productReachableRow, standIns := [], harness := (true, "ea17cf7437f5870140e2c77e00aca8c253e0374b016c2564e3df0f190c39c864"), looks := false }, kinds := [], alts := [], laidByText := true, laidKinds := [.data, .data, .data], laidTests := true, laidLooks := .later }
def ProductReachableCardSaid : Prop := Claim7.holds Tryd.pinned (.plain (OpenSpec.ofChange productReachableSpec)) productReachableCard

/-- THE TIED CARD OF 'sheavelaw29.ProductSwapped'. -/
def productSwappedCard : Claim7 := { stood := { row := productSwappedRow, standIns := [], harness := (true, "ea17cf7437f5870140e2c77e00aca8c253e0374b016c2564e3df0f190c39c864"), looks := false }, kinds := [], alts := [], laidByText := true, laidKinds := [.data, .data, .data], laidTests := true, laidLooks := .later }
def ProductSwappedCardSaid : Prop := Claim7.holds Tryd.pinned (.plain (OpenSpec.ofChange productSwappedSpec)) productSwappedCard

/-- THE TIED CARD OF 'sheavelaw29.ProductCapacity'. -/
def productCapacityCard : Claim7 := { stood := { row := productCapacityRow, standIns := [], harness := (true, "ea17cf7437f5870140e2c77e00aca8c253e0374b016c2564e3df0f190c39c864"), looks := false }, kinds := [], alts := [], laidByText := true, laidKinds := [.data, .data, .data], laidTests := true, laidLooks := .later }
def ProductCapacityCardSaid : Prop := Claim7.holds Tryd.pinned (.plain (OpenSpec.ofChange productCapacitySpec)) productCapacityCard

/-- THE TIED CARD OF 'sheavelaw29.ProductLarge'. -/
def productLargeCard : Claim7 := { stood := { row := productLargeRow, standIns := [], harness := (true, "ea17cf7437f5870140e2c77e00aca8c253e0374b016c2564e3df0f190c39c864"), looks := false }, kinds := [], alts := [], laidByText := true, laidKinds := [.data, .data, .data], laidTests := true, laidLooks := .later }
def ProductLargeCardSaid : Prop := Claim7.holds Tryd.pinned (.plain (OpenSpec.ofChange productLargeSpec)) productLargeCard

/-- THE TIED CARD OF 'sheavelaw29.ProductMoves'. -/
def productMovesCard : Claim7 := { stood := { row := productMovesRow, standIns := [], harness := (true, "ea17cf7437f5870140e2c77e00aca8c253e0374b016c2564e3df0f190c39c864"), looks := false }, kinds := [], alts := [], laidByText := true, laidKinds := [.data, .data, .data], laidTests := true, laidLooks := .later }
def ProductMovesCardSaid : Prop := Claim7.holds Tryd.pinned (.plain (OpenSpec.ofChange productMovesSpec)) productMovesCard

/-- THE TIED CARD OF 'sheavelaw29.ProductApply'. -/
def productApplyCard : Claim7 := { stood := { row := productApplyRow, standIns := [], harness := (true, "ea17cf7437f5870140e2c77e00aca8c253e0374b016c2564e3df0f190c39c864"), looks := false }, kinds := [], alts := [], laidByText := true, laidKinds := [.data, .data, .data], laidTests := true, laidLooks := .later }
def ProductApplyCardSaid : Prop := Claim7.holds Tryd.pinned (.plain (OpenSpec.ofChange productApplySpec)) productApplyCard

/-- THE SECOND FORM's CARD OF 'sheavelaw29.ProductValid'. -/
def productValidUptoCard : Claim7 := { stood := { row := productValidUptoRow, standIns := [], harness := (true, "ea17cf7437f5870140e2c77e00aca8c253e0374b016c2564e3df0f190c39c864"), looks := false }, kinds := [], alts := [], laidByText := true, laidKinds := [.data, .data, .data], laidTests := true, laidLooks := .later }
def ProductValidUptoCardSaid : Prop := Claim7.holds Tryd.pinned (.plain (OpenSpec.upto productValidSpec)) productValidUptoCard

/-- THE SECOND FORM's CARD OF 'sheavelaw29.ProductFits'. -/
def productFitsUptoCard : Claim7 := { stood := { row := productFitsUptoRow, standIns := [], harness := (true, "ea17cf7437f5870140e2c77e00aca8c253e0374b016c2564e3df0f190c39c864"), looks := false }, kinds := [], alts := [], laidByText := true, laidKinds := [.data, .data, .data], laidTests := true, laidLooks := .later }
def ProductFitsUptoCardSaid : Prop := Claim7.holds Tryd.pinned (.plain (OpenSpec.upto productFitsSpec)) productFitsUptoCard

/-- THE SECOND FORM's CARD OF 'sheavelaw29.ProductRun'. -/
def productRunUptoCard : Claim7 := { stood := { row := productRunUptoRow, standIns := [], harness := (true, "ea17cf7437f5870140e2c77e00aca8c253e0374b016c2564e3df0f190c39c864"), looks := false }, kinds := [], alts := [], laidByText := true, laidKinds := [.data, .data, .data], laidTests := true, laidLooks := .later }
def ProductRunUptoCardSaid : Prop := Claim7.holds Tryd.pinned (.plain (OpenSpec.upto productRunSpec)) productRunUptoCard

/-- THE SECOND FORM's CARD OF 'sheavelaw29.ProductReachable'. -/
def productReachableUptoCard : Claim7 := { stood := { row := productReachableUptoRow, standIns := [], harness := (true, "ea17cf7437f5870140e2c77e00aca8c253e0374b016c2564e3df0f190c39c864"), looks := false }, kinds := [], alts := [], laidByText := true, laidKinds := [.data, .data, .data], laidTests := true, laidLooks := .later }
def ProductReachableUptoCardSaid : Prop := Claim7.holds Tryd.pinned (.plain (OpenSpec.upto productReachableSpec)) productReachableUptoCard

/-- THE SECOND FORM's CARD OF 'sheavelaw29.ProductSwapped'. -/
def productSwappedUptoCard : Claim7 := { stood := { row := productSwappedUptoRow, standIns := [], harness := (true, "ea17cf7437f5870140e2c77e00aca8c253e0374b016c2564e3df0f190c39c864"), looks := false }, kinds := [], alts := [], laidByText := true, laidKinds := [.data, .data, .data], laidTests := true, laidLooks := .later }
def ProductSwappedUptoCardSaid : Prop := Claim7.holds Tryd.pinned (.plain (OpenSpec.upto productSwappedSpec)) productSwappedUptoCard

/-- THE SECOND FORM's CARD OF 'sheavelaw29.ProductCapacity'. -/
def productCapacityUptoCard : Claim7 := { stood := { row := productCapacityUptoRow, standIns := [], harness := (true, "ea17cf7437f5870140e2c77e00aca8c253e0374b016c2564e3df0f190c39c864"), looks := false }, kinds := [], alts := [], laidByText := true, laidKinds := [.data, .data, .data], laidTests := true, laidLooks := .later }
def ProductCapacityUptoCardSaid : Prop := Claim7.holds Tryd.pinned (.plain (OpenSpec.upto productCapacitySpec)) productCapacityUptoCard

/-- THE SECOND FORM's CARD OF 'sheavelaw29.ProductLarge'. -/
def productLargeUptoCard : Claim7 := { stood := { row := productLargeUptoRow, standIns := [], harness := (true, "ea17cf7437f5870140e2c77e00aca8c253e0374b016c2564e3df0f190c39c864"), looks := false }, kinds := [], alts := [], laidByText := true, laidKinds := [.data, .data, .data], laidTests := true, laidLooks := .later }
def ProductLargeUptoCardSaid : Prop := Claim7.holds Tryd.pinned (.plain (OpenSpec.upto productLargeSpec)) productLargeUptoCard

/-- THE SECOND FORM's CARD OF 'sheavelaw29.ProductMoves'. -/
def productMovesUptoCard : Claim7 := { stood := { row := productMovesUptoRow, standIns := [], harness := (true, "ea17cf7437f5870140e2c77e00aca8c253e0374b016c2564e3df0f190c39c864"), looks := false }, kinds := [], alts := [], laidByText := true, laidKinds := [.data, .data, .data], laidTests := true, laidLooks := .later }
def ProductMovesUptoCardSaid : Prop := Claim7.holds Tryd.pinned (.plain (OpenSpec.upto productMovesSpec)) productMovesUptoCard

/-- THE SECOND FORM's CARD OF 'sheavelaw29.ProductApply'. -/
def productApplyUptoCard : Claim7 := { stood := { row := productApplyUptoRow, standIns := [], harness := (true, "ea17cf7437f5870140e2c77e00aca8c253e0374b016c2564e3df0f190c39c864"), looks := false }, kinds := [], alts := [], laidByText := true, laidKinds := [.data, .data, .data], laidTests := true, laidLooks := .later }
def ProductApplyUptoCardSaid : Prop := Claim7.holds Tryd.pinned (.plain (OpenSpec.upto productApplySpec)) productApplyUptoCard
end Rows
end Go.Proofs.YthpgcipmnblhpaaDoor
