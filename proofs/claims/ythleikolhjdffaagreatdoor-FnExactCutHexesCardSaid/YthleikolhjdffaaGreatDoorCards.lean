/-
  DERIVED. GIVEN WITH THE SEED: THE CARDS: each row of YthleikolhjdffaaGreatDoorRows.lean that lists a variable, with what it lists TIED to the program's text (the seventh form; the later family's looks); each row that meets fmt, with fmt's text TOLD by the authors' own Lean function (tested against real Go, not proved from fmt's source: count such statements apart). THE CARD IS WHAT COUNTS. Prove the row's statement (the work); the ties are given (YthleikolhjdffaaGreatDoorTie.lean); close each card by the builder's one call (the guide's Derived/Test/ToyasCard.lean, 'card_holds'). Laid BY PROGRAM, IN A SANDBOX (cutbox-door.mjs). By AI agents, Wed Nov 11 2026. No macro, syntax, notation, axiom, sorry.
-/
import Derived.Test.YthleikolhjdffaaGreatDoorRows
import GoSem.ClaimSeven
namespace Go.Proofs.YthleikolhjdffaaGreatDoor
namespace Rows

/-- THE TIED CARD OF 'laws.FnExactStateText'. -/
def fnExactStateTextCard : Claim7 := { stood := { row := fnExactStateTextRow, standIns := [], harness := (true, "358dec49e861771c515d813c60400bda36987a3c3d762f14669e53ef3ad43dff"), looks := false }, kinds := [], alts := [], laidByText := true, laidKinds := [.data, .data, .data, .data], laidTests := true, laidLooks := .later }
def FnExactStateTextCardSaid : Prop := Claim7.holds Tryz.pinned (.plain (OpenSpec.ofChange fnExactStateTextSpec)) fnExactStateTextCard

/-- THE TIED CARD OF 'laws.FnExactSuppliedUnits'. -/
def fnExactSuppliedUnitsCard : Claim7 := { stood := { row := fnExactSuppliedUnitsRow, standIns := [], harness := (true, "358dec49e861771c515d813c60400bda36987a3c3d762f14669e53ef3ad43dff"), looks := false }, kinds := [], alts := [], laidByText := true, laidKinds := [.data], laidTests := true, laidLooks := .later }
def FnExactSuppliedUnitsCardSaid : Prop := Claim7.holds Tryz.pinned (.plain (OpenSpec.ofChange fnExactSuppliedUnitsSpec)) fnExactSuppliedUnitsCard

/-- THE TIED CARD OF 'laws.FnExactCutHexes'. -/
def fnExactCutHexesCard : Claim7 := { stood := { row := fnExactCutHexesRow, standIns := [], harness := (true, "358dec49e861771c515d813c60400bda36987a3c3d762f14669e53ef3ad43dff"), looks := false }, kinds := [], alts := [], laidByText := true, laidKinds := [.data], laidTests := true, laidLooks := .later }
def FnExactCutHexesCardSaid : Prop := Claim7.holds Tryz.pinned (.plain (OpenSpec.ofChange fnExactCutHexesSpec)) fnExactCutHexesCard

/-- THE SECOND FORM's CARD OF 'laws.FnExactStateText'. -/
def fnExactStateTextUptoCard : Claim7 := { stood := { row := fnExactStateTextUptoRow, standIns := [], harness := (true, "358dec49e861771c515d813c60400bda36987a3c3d762f14669e53ef3ad43dff"), looks := false }, kinds := [], alts := [], laidByText := true, laidKinds := [.data, .data, .data, .data], laidTests := true, laidLooks := .later }
def FnExactStateTextUptoCardSaid : Prop := Claim7.holds Tryz.pinned (.plain (OpenSpec.upto fnExactStateTextSpec)) fnExactStateTextUptoCard

/-- THE SECOND FORM's CARD OF 'laws.FnExactSuppliedUnits'. -/
def fnExactSuppliedUnitsUptoCard : Claim7 := { stood := { row := fnExactSuppliedUnitsUptoRow, standIns := [], harness := (true, "358dec49e861771c515d813c60400bda36987a3c3d762f14669e53ef3ad43dff"), looks := false }, kinds := [], alts := [], laidByText := true, laidKinds := [.data], laidTests := true, laidLooks := .later }
def FnExactSuppliedUnitsUptoCardSaid : Prop := Claim7.holds Tryz.pinned (.plain (OpenSpec.upto fnExactSuppliedUnitsSpec)) fnExactSuppliedUnitsUptoCard

/-- THE SECOND FORM's CARD OF 'laws.FnExactCutHexes'. -/
def fnExactCutHexesUptoCard : Claim7 := { stood := { row := fnExactCutHexesUptoRow, standIns := [], harness := (true, "358dec49e861771c515d813c60400bda36987a3c3d762f14669e53ef3ad43dff"), looks := false }, kinds := [], alts := [], laidByText := true, laidKinds := [.data], laidTests := true, laidLooks := .later }
def FnExactCutHexesUptoCardSaid : Prop := Claim7.holds Tryz.pinned (.plain (OpenSpec.upto fnExactCutHexesSpec)) fnExactCutHexesUptoCard
end Rows
end Go.Proofs.YthleikolhjdffaaGreatDoor
