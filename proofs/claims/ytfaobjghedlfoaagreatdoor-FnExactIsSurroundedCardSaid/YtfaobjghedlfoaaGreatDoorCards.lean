/-
  DERIVED. GIVEN WITH THE SEED: THE CARDS: each row of YtfaobjghedlfoaaGreatDoorRows.lean that lists a variable, with what it lists TIED to the program's text (the seventh form; the later family's looks); each row that meets fmt, with fmt's text TOLD by the authors' own Lean function (tested against real Go, not proved from fmt's source: count such statements apart). THE CARD IS WHAT COUNTS. Prove the row's statement (the work); the ties are given (YtfaobjghedlfoaaGreatDoorTie.lean); close each card by the builder's one call (the guide's Derived/Test/ToyasCard.lean, 'card_holds'). Laid BY PROGRAM, IN A SANDBOX (cutbox-door.mjs). By AI agents, Wed Nov 11 2026. No macro, syntax, notation, axiom, sorry.
-/
import Derived.Test.YtfaobjghedlfoaaGreatDoorRows
import GoSem.ClaimSeven
namespace Go.Proofs.YtfaobjghedlfoaaGreatDoor
namespace Rows

/-- THE TIED CARD OF 'laws.FnExactStepAllowed'. -/
def fnExactStepAllowedCard : Claim7 := { stood := { row := fnExactStepAllowedRow, standIns := [], harness := (true, "58ba0d27ed90abded11920c5fe8318d863750cae16bf61d1a93449069a307ed5"), looks := false }, kinds := [], alts := [], laidByText := true, laidKinds := [.data], laidTests := true, laidLooks := .later }
def FnExactStepAllowedCardSaid : Prop := Claim7.holds Tryz.pinned (.plain (OpenSpec.ofChange fnExactStepAllowedSpec)) fnExactStepAllowedCard

/-- THE TIED CARD OF 'laws.FnExactIsSurrounded'. -/
def fnExactIsSurroundedCard : Claim7 := { stood := { row := fnExactIsSurroundedRow, standIns := [], harness := (true, "58ba0d27ed90abded11920c5fe8318d863750cae16bf61d1a93449069a307ed5"), looks := false }, kinds := [], alts := [], laidByText := true, laidKinds := [.data], laidTests := true, laidLooks := .later }
def FnExactIsSurroundedCardSaid : Prop := Claim7.holds Tryz.pinned (.plain (OpenSpec.ofChange fnExactIsSurroundedSpec)) fnExactIsSurroundedCard

/-- THE SECOND FORM's CARD OF 'laws.FnExactStepAllowed'. -/
def fnExactStepAllowedUptoCard : Claim7 := { stood := { row := fnExactStepAllowedUptoRow, standIns := [], harness := (true, "58ba0d27ed90abded11920c5fe8318d863750cae16bf61d1a93449069a307ed5"), looks := false }, kinds := [], alts := [], laidByText := true, laidKinds := [.data], laidTests := true, laidLooks := .later }
def FnExactStepAllowedUptoCardSaid : Prop := Claim7.holds Tryz.pinned (.plain (OpenSpec.upto fnExactStepAllowedSpec)) fnExactStepAllowedUptoCard

/-- THE SECOND FORM's CARD OF 'laws.FnExactIsSurrounded'. -/
def fnExactIsSurroundedUptoCard : Claim7 := { stood := { row := fnExactIsSurroundedUptoRow, standIns := [], harness := (true, "58ba0d27ed90abded11920c5fe8318d863750cae16bf61d1a93449069a307ed5"), looks := false }, kinds := [], alts := [], laidByText := true, laidKinds := [.data], laidTests := true, laidLooks := .later }
def FnExactIsSurroundedUptoCardSaid : Prop := Claim7.holds Tryz.pinned (.plain (OpenSpec.upto fnExactIsSurroundedSpec)) fnExactIsSurroundedUptoCard
end Rows
end Go.Proofs.YtfaobjghedlfoaaGreatDoor
