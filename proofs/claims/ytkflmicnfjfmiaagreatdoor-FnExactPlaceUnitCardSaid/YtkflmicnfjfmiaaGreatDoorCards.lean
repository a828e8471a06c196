/-
  DERIVED. GIVEN WITH THE SEED: THE CARDS: each row of YtkflmicnfjfmiaaGreatDoorRows.lean that lists a variable, with what it lists TIED to the program's text (the seventh form; the later family's looks); each row that meets fmt, with fmt's text TOLD by the authors' own Lean function (tested against real Go, not proved from fmt's source: count such statements apart). THE CARD IS WHAT COUNTS. Prove the row's statement (the work); the ties are given (YtkflmicnfjfmiaaGreatDoorTie.lean); close each card by the builder's one call (the guide's Derived/Test/ToyasCard.lean, 'card_holds'). Laid BY PROGRAM, IN A SANDBOX (cutbox-door.mjs). By AI agents, Wed Nov 11 2026. No macro, syntax, notation, axiom, sorry.
-/
import Derived.Test.YtkflmicnfjfmiaaGreatDoorRows
import GoSem.ClaimSeven
namespace Go.Proofs.YtkflmicnfjfmiaaGreatDoor
namespace Rows

/-- THE TIED CARD OF 'laws.FnExactPlaceUnit'. -/
def fnExactPlaceUnitCard : Claim7 := { stood := { row := fnExactPlaceUnitRow, standIns := [], harness := (true, "46ddaba9b310042f74c0d40c7fdd0898dc34fcd95416be6004b20f7e933f9b2c"), looks := false }, kinds := [], alts := [], laidByText := true, laidKinds := [.data], laidTests := true, laidLooks := .later }
def FnExactPlaceUnitCardSaid : Prop := Claim7.holds Tryz.pinned (.plain (OpenSpec.ofChange fnExactPlaceUnitSpec)) fnExactPlaceUnitCard

/-- THE TIED CARD OF 'laws.FnExactLoseSteps'. -/
def fnExactLoseStepsCard : Claim7 := { stood := { row := fnExactLoseStepsRow, standIns := [], harness := (true, "46ddaba9b310042f74c0d40c7fdd0898dc34fcd95416be6004b20f7e933f9b2c"), looks := false }, kinds := [], alts := [], laidByText := true, laidKinds := [.data], laidTests := true, laidLooks := .later }
def FnExactLoseStepsCardSaid : Prop := Claim7.holds Tryz.pinned (.plain (OpenSpec.ofChange fnExactLoseStepsSpec)) fnExactLoseStepsCard

/-- THE TIED CARD OF 'laws.FnExactClearFrom'. -/
def fnExactClearFromCard : Claim7 := { stood := { row := fnExactClearFromRow, standIns := [], harness := (true, "46ddaba9b310042f74c0d40c7fdd0898dc34fcd95416be6004b20f7e933f9b2c"), looks := false }, kinds := [], alts := [], laidByText := true, laidKinds := [.data], laidTests := true, laidLooks := .later }
def FnExactClearFromCardSaid : Prop := Claim7.holds Tryz.pinned (.plain (OpenSpec.ofChange fnExactClearFromSpec)) fnExactClearFromCard

/-- THE TIED CARD OF 'laws.FnExactSeenFrom'. -/
def fnExactSeenFromCard : Claim7 := { stood := { row := fnExactSeenFromRow, standIns := [], harness := (true, "46ddaba9b310042f74c0d40c7fdd0898dc34fcd95416be6004b20f7e933f9b2c"), looks := false }, kinds := [], alts := [], laidByText := true, laidKinds := [.data], laidTests := true, laidLooks := .later }
def FnExactSeenFromCardSaid : Prop := Claim7.holds Tryz.pinned (.plain (OpenSpec.ofChange fnExactSeenFromSpec)) fnExactSeenFromCard

/-- THE TIED CARD OF 'laws.FnExactSeenBy'. -/
def fnExactSeenByCard : Claim7 := { stood := { row := fnExactSeenByRow, standIns := [], harness := (true, "46ddaba9b310042f74c0d40c7fdd0898dc34fcd95416be6004b20f7e933f9b2c"), looks := false }, kinds := [], alts := [], laidByText := true, laidKinds := [.data], laidTests := true, laidLooks := .later }
def FnExactSeenByCardSaid : Prop := Claim7.holds Tryz.pinned (.plain (OpenSpec.ofChange fnExactSeenBySpec)) fnExactSeenByCard

/-- THE SECOND FORM's CARD OF 'laws.FnExactPlaceUnit'. -/
def fnExactPlaceUnitUptoCard : Claim7 := { stood := { row := fnExactPlaceUnitUptoRow, standIns := [], harness := (true, "46ddaba9b310042f74c0d40c7fdd0898dc34fcd95416be6004b20f7e933f9b2c"), looks := false }, kinds := [], alts := [], laidByText := true, laidKinds := [.data], laidTests := true, laidLooks := .later }
def FnExactPlaceUnitUptoCardSaid : Prop := Claim7.holds Tryz.pinned (.plain (OpenSpec.upto fnExactPlaceUnitSpec)) fnExactPlaceUnitUptoCard

/-- THE SECOND FORM's CARD OF 'laws.FnExactLoseSteps'. -/
def fnExactLoseStepsUptoCard : Claim7 := { stood := { row := fnExactLoseStepsUptoRow, standIns := [], harness := (true, "46ddaba9b310042f74c0d40c7fdd0898dc34fcd95416be6004b20f7e933f9b2c"), looks := false }, kinds := [], alts := [], laidByText := true, laidKinds := [.data], laidTests := true, laidLooks := .later }
def FnExactLoseStepsUptoCardSaid : Prop := Claim7.holds Tryz.pinned (.plain (OpenSpec.upto fnExactLoseStepsSpec)) fnExactLoseStepsUptoCard

/-- THE SECOND FORM's CARD OF 'laws.FnExactClearFrom'. -/
def fnExactClearFromUptoCard : Claim7 := { stood := { row := fnExactClearFromUptoRow, standIns := [], harness := (true, "46ddaba9b310042f74c0d40c7fdd0898dc34fcd95416be6004b20f7e933f9b2c"), looks := false }, kinds := [], alts := [], laidByText := true, laidKinds := [.data], laidTests := true, laidLooks := .later }
def FnExactClearFromUptoCardSaid : Prop := Claim7.holds Tryz.pinned (.plain (OpenSpec.upto fnExactClearFromSpec)) fnExactClearFromUptoCard

/-- THE SECOND FORM's CARD OF 'laws.FnExactSeenFrom'. -/
def fnExactSeenFromUptoCard : Claim7 := { stood := { row := fnExactSeenFromUptoRow, standIns := [], harness := (true, "46ddaba9b310042f74c0d40c7fdd0898dc34fcd95416be6004b20f7e933f9b2c"), looks := false }, kinds := [], alts := [], laidByText := true, laidKinds := [.data], laidTests := true, laidLooks := .later }
def FnExactSeenFromUptoCardSaid : Prop := Claim7.holds Tryz.pinned (.plain (OpenSpec.upto fnExactSeenFromSpec)) fnExactSeenFromUptoCard

/-- THE SECOND FORM's CARD OF 'laws.FnExactSeenBy'. -/
def fnExactSeenByUptoCard : Claim7 := { stood := { row := fnExactSeenByUptoRow, standIns := [], harness := (true, "46ddaba9b310042f74c0d40c7fdd0898dc34fcd95416be6004b20f7e933f9b2c"), looks := false }, kinds := [], alts := [], laidByText := true, laidKinds := [.data], laidTests := true, laidLooks := .later }
def FnExactSeenByUptoCardSaid : Prop := Claim7.holds Tryz.pinned (.plain (OpenSpec.upto fnExactSeenBySpec)) fnExactSeenByUptoCard
end Rows
end Go.Proofs.YtkflmicnfjfmiaaGreatDoor
