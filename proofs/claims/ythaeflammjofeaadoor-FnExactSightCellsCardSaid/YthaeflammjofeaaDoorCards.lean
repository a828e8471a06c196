/-
  DERIVED. GIVEN WITH THE SEED: THE CARDS: each row of YthaeflammjofeaaDoorRows.lean that lists a variable, with what it lists TIED to the program's text (the seventh form; the later family's looks); each row that meets fmt, with fmt's text TOLD by the authors' own Lean function (tested against real Go, not proved from fmt's source: count such statements apart). THE CARD IS WHAT COUNTS. Prove the row's statement (the work); the ties are given (YthaeflammjofeaaDoorTie.lean); close each card by the builder's one call (the guide's Derived/Test/ToyasCard.lean, 'card_holds'). Laid BY PROGRAM, IN A SANDBOX (cutbox-door.mjs). By AI agents, Wed Nov 11 2026. No macro, syntax, notation, axiom, sorry.
-/
import Derived.Test.YthaeflammjofeaaDoorRows
import GoSem.ClaimSeven
namespace Go.Proofs.YthaeflammjofeaaDoor
namespace Rows

/-- THE TIED CARD OF 'laws.FnExactDistancesFrom'. -/
def fnExactDistancesFromCard : Claim7 := { stood := { row := fnExactDistancesFromRow, standIns := [], harness := (true, "284dd28f5c5e9a10f056284efac01fb4eb774ca98bddd33185c222372725aaab"), looks := false }, kinds := [], alts := [], laidByText := true, laidKinds := [.data], laidTests := true, laidLooks := .later }
def FnExactDistancesFromCardSaid : Prop := Claim7.holds Tryd.pinned (.plain (OpenSpec.ofChange fnExactDistancesFromSpec)) fnExactDistancesFromCard

/-- THE TIED CARD OF 'laws.FnExactSightCells'. -/
def fnExactSightCellsCard : Claim7 := { stood := { row := fnExactSightCellsRow, standIns := [], harness := (true, "284dd28f5c5e9a10f056284efac01fb4eb774ca98bddd33185c222372725aaab"), looks := false }, kinds := [], alts := [], laidByText := true, laidKinds := [.data], laidTests := true, laidLooks := .later }
def FnExactSightCellsCardSaid : Prop := Claim7.holds Tryd.pinned (.plain (OpenSpec.ofChange fnExactSightCellsSpec)) fnExactSightCellsCard

/-- THE TIED CARD OF 'laws.FnExactReachOf'. -/
def fnExactReachOfCard : Claim7 := { stood := { row := fnExactReachOfRow, standIns := [], harness := (true, "284dd28f5c5e9a10f056284efac01fb4eb774ca98bddd33185c222372725aaab"), looks := false }, kinds := [], alts := [], laidByText := true, laidKinds := [.data], laidTests := true, laidLooks := .later }
def FnExactReachOfCardSaid : Prop := Claim7.holds Tryd.pinned (.plain (OpenSpec.ofChange fnExactReachOfSpec)) fnExactReachOfCard

/-- THE TIED CARD OF 'laws.FnExactUnitsOf'. -/
def fnExactUnitsOfCard : Claim7 := { stood := { row := fnExactUnitsOfRow, standIns := [], harness := (true, "284dd28f5c5e9a10f056284efac01fb4eb774ca98bddd33185c222372725aaab"), looks := false }, kinds := [], alts := [], laidByText := true, laidKinds := [.data], laidTests := true, laidLooks := .later }
def FnExactUnitsOfCardSaid : Prop := Claim7.holds Tryd.pinned (.plain (OpenSpec.ofChange fnExactUnitsOfSpec)) fnExactUnitsOfCard

/-- THE SECOND FORM's CARD OF 'laws.FnExactDistancesFrom'. -/
def fnExactDistancesFromUptoCard : Claim7 := { stood := { row := fnExactDistancesFromUptoRow, standIns := [], harness := (true, "284dd28f5c5e9a10f056284efac01fb4eb774ca98bddd33185c222372725aaab"), looks := false }, kinds := [], alts := [], laidByText := true, laidKinds := [.data], laidTests := true, laidLooks := .later }
def FnExactDistancesFromUptoCardSaid : Prop := Claim7.holds Tryd.pinned (.plain (OpenSpec.upto fnExactDistancesFromSpec)) fnExactDistancesFromUptoCard

/-- THE SECOND FORM's CARD OF 'laws.FnExactSightCells'. -/
def fnExactSightCellsUptoCard : Claim7 := { stood := { row := fnExactSightCellsUptoRow, standIns := [], harness := (true, "284dd28f5c5e9a10f056284efac01fb4eb774ca98bddd33185c222372725aaab"), looks := false }, kinds := [], alts := [], laidByText := true, laidKinds := [.data], laidTests := true, laidLooks := .later }
def FnExactSightCellsUptoCardSaid : Prop := Claim7.holds Tryd.pinned (.plain (OpenSpec.upto fnExactSightCellsSpec)) fnExactSightCellsUptoCard

/-- THE SECOND FORM's CARD OF 'laws.FnExactReachOf'. -/
def fnExactReachOfUptoCard : Claim7 := { stood := { row := fnExactReachOfUptoRow, standIns := [], harness := (true, "284dd28f5c5e9a10f056284efac01fb4eb774ca98bddd33185c222372725aaab"), looks := false }, kinds := [], alts := [], laidByText := true, laidKinds := [.data], laidTests := true, laidLooks := .later }
def FnExactReachOfUptoCardSaid : Prop := Claim7.holds Tryd.pinned (.plain (OpenSpec.upto fnExactReachOfSpec)) fnExactReachOfUptoCard

/-- THE SECOND FORM's CARD OF 'laws.FnExactUnitsOf'. -/
def fnExactUnitsOfUptoCard : Claim7 := { stood := { row := fnExactUnitsOfUptoRow, standIns := [], harness := (true, "284dd28f5c5e9a10f056284efac01fb4eb774ca98bddd33185c222372725aaab"), looks := false }, kinds := [], alts := [], laidByText := true, laidKinds := [.data], laidTests := true, laidLooks := .later }
def FnExactUnitsOfUptoCardSaid : Prop := Claim7.holds Tryd.pinned (.plain (OpenSpec.upto fnExactUnitsOfSpec)) fnExactUnitsOfUptoCard
end Rows
end Go.Proofs.YthaeflammjofeaaDoor
