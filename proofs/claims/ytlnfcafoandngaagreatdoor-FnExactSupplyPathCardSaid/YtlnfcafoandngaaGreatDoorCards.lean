/-
  DERIVED. GIVEN WITH THE SEED: THE CARDS: each row of YtlnfcafoandngaaGreatDoorRows.lean that lists a variable, with what it lists TIED to the program's text (the seventh form; the later family's looks); each row that meets fmt, with fmt's text TOLD by the authors' own Lean function (tested against real Go, not proved from fmt's source: count such statements apart). THE CARD IS WHAT COUNTS. Prove the row's statement (the work); the ties are given (YtlnfcafoandngaaGreatDoorTie.lean); close each card by the builder's one call (the guide's Derived/Test/ToyasCard.lean, 'card_holds'). Laid BY PROGRAM, IN A SANDBOX (cutbox-door.mjs). By AI agents, Wed Nov 11 2026. No macro, syntax, notation, axiom, sorry.
-/
import Derived.Test.YtlnfcafoandngaaGreatDoorRows
import GoSem.ClaimSeven
namespace Go.Proofs.YtlnfcafoandngaaGreatDoor
namespace Rows

/-- THE TIED CARD OF 'laws.FnExactSupplyPath'. -/
def fnExactSupplyPathCard : Claim7 := { stood := { row := fnExactSupplyPathRow, standIns := [], harness := (true, "a5b6ef72c3b0bc580c7dda5091cd0ab4b9aecbc6d78197fa06ab55aafca0c7d1"), looks := false }, kinds := [], alts := [], laidByText := true, laidKinds := [.data], laidTests := true, laidLooks := .later }
def FnExactSupplyPathCardSaid : Prop := Claim7.holds Tryz.pinned (.plain (OpenSpec.ofChange fnExactSupplyPathSpec)) fnExactSupplyPathCard

/-- THE SECOND FORM's CARD OF 'laws.FnExactSupplyPath'. -/
def fnExactSupplyPathUptoCard : Claim7 := { stood := { row := fnExactSupplyPathUptoRow, standIns := [], harness := (true, "a5b6ef72c3b0bc580c7dda5091cd0ab4b9aecbc6d78197fa06ab55aafca0c7d1"), looks := false }, kinds := [], alts := [], laidByText := true, laidKinds := [.data], laidTests := true, laidLooks := .later }
def FnExactSupplyPathUptoCardSaid : Prop := Claim7.holds Tryz.pinned (.plain (OpenSpec.upto fnExactSupplyPathSpec)) fnExactSupplyPathUptoCard
end Rows
end Go.Proofs.YtlnfcafoandngaaGreatDoor
