/-
  DERIVED. GIVEN WITH THE SEED: THE CARDS: each row of YthaeflammjofeaaGreatDoorRows.lean that lists a variable, with what it lists TIED to the program's text (the seventh form; the later family's looks); each row that meets fmt, with fmt's text TOLD by the authors' own Lean function (tested against real Go, not proved from fmt's source: count such statements apart). THE CARD IS WHAT COUNTS. Prove the row's statement (the work); the ties are given (YthaeflammjofeaaGreatDoorTie.lean); close each card by the builder's one call (the guide's Derived/Test/ToyasCard.lean, 'card_holds'). Laid BY PROGRAM, IN A SANDBOX (cutbox-door.mjs). By AI agents, Wed Nov 11 2026. No macro, syntax, notation, axiom, sorry.
-/
import Derived.Test.YthaeflammjofeaaGreatDoorRows
import GoSem.ClaimSeven
namespace Go.Proofs.YthaeflammjofeaaGreatDoor
namespace Rows

/-- THE TIED CARD OF 'laws.FnExactMustStop'. -/
def fnExactMustStopCard : Claim7 := { stood := { row := fnExactMustStopRow, standIns := [], harness := (true, "3bb3da4d41960c52fdb0ab974768b82705d8aa8c712d6c7897a5d1eccc2a716c"), looks := false }, kinds := [], alts := [], laidByText := true, laidKinds := [.data], laidTests := true, laidLooks := .later }
def FnExactMustStopCardSaid : Prop := Claim7.holds Tryz.pinned (.plain (OpenSpec.ofChange fnExactMustStopSpec)) fnExactMustStopCard

/-- THE TIED CARD OF 'laws.FnExactSupplyBlocked'. -/
def fnExactSupplyBlockedCard : Claim7 := { stood := { row := fnExactSupplyBlockedRow, standIns := [], harness := (true, "3bb3da4d41960c52fdb0ab974768b82705d8aa8c712d6c7897a5d1eccc2a716c"), looks := false }, kinds := [], alts := [], laidByText := true, laidKinds := [.data], laidTests := true, laidLooks := .later }
def FnExactSupplyBlockedCardSaid : Prop := Claim7.holds Tryz.pinned (.plain (OpenSpec.ofChange fnExactSupplyBlockedSpec)) fnExactSupplyBlockedCard

/-- THE SECOND FORM's CARD OF 'laws.FnExactMustStop'. -/
def fnExactMustStopUptoCard : Claim7 := { stood := { row := fnExactMustStopUptoRow, standIns := [], harness := (true, "3bb3da4d41960c52fdb0ab974768b82705d8aa8c712d6c7897a5d1eccc2a716c"), looks := false }, kinds := [], alts := [], laidByText := true, laidKinds := [.data], laidTests := true, laidLooks := .later }
def FnExactMustStopUptoCardSaid : Prop := Claim7.holds Tryz.pinned (.plain (OpenSpec.upto fnExactMustStopSpec)) fnExactMustStopUptoCard

/-- THE SECOND FORM's CARD OF 'laws.FnExactSupplyBlocked'. -/
def fnExactSupplyBlockedUptoCard : Claim7 := { stood := { row := fnExactSupplyBlockedUptoRow, standIns := [], harness := (true, "3bb3da4d41960c52fdb0ab974768b82705d8aa8c712d6c7897a5d1eccc2a716c"), looks := false }, kinds := [], alts := [], laidByText := true, laidKinds := [.data], laidTests := true, laidLooks := .later }
def FnExactSupplyBlockedUptoCardSaid : Prop := Claim7.holds Tryz.pinned (.plain (OpenSpec.upto fnExactSupplyBlockedSpec)) fnExactSupplyBlockedUptoCard
end Rows
end Go.Proofs.YthaeflammjofeaaGreatDoor
