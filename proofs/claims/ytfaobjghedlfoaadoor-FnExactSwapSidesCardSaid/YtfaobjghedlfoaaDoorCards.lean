/-
  DERIVED. GIVEN WITH THE SEED: THE CARDS: each row of YtfaobjghedlfoaaDoorRows.lean that lists a variable, with what it lists TIED to the program's text (the seventh form; the later family's looks); each row that meets fmt, with fmt's text TOLD by the authors' own Lean function (tested against real Go, not proved from fmt's source: count such statements apart). THE CARD IS WHAT COUNTS. Prove the row's statement (the work); the ties are given (YtfaobjghedlfoaaDoorTie.lean); close each card by the builder's one call (the guide's Derived/Test/ToyasCard.lean, 'card_holds'). Laid BY PROGRAM, IN A SANDBOX (cutbox-door.mjs). By AI agents, Wed Nov 11 2026. No macro, syntax, notation, axiom, sorry.
-/
import Derived.Test.YtfaobjghedlfoaaDoorRows
import GoSem.ClaimSeven
namespace Go.Proofs.YtfaobjghedlfoaaDoor
namespace Rows

/-- THE TIED CARD OF 'laws.FnExactUnitsAt'. -/
def fnExactUnitsAtCard : Claim7 := { stood := { row := fnExactUnitsAtRow, standIns := [], harness := (true, "a4444cc7b132ec9f0c40b90efe8ac436fe83340e66f53109d12c58dd8981974a"), looks := false }, kinds := [], alts := [], laidByText := true, laidKinds := [.data], laidTests := true, laidLooks := .later }
def FnExactUnitsAtCardSaid : Prop := Claim7.holds Tryd.pinned (.plain (OpenSpec.ofChange fnExactUnitsAtSpec)) fnExactUnitsAtCard

/-- THE TIED CARD OF 'laws.FnExactBestLookout'. -/
def fnExactBestLookoutCard : Claim7 := { stood := { row := fnExactBestLookoutRow, standIns := [], harness := (true, "a4444cc7b132ec9f0c40b90efe8ac436fe83340e66f53109d12c58dd8981974a"), looks := false }, kinds := [], alts := [], laidByText := true, laidKinds := [.data], laidTests := true, laidLooks := .later }
def FnExactBestLookoutCardSaid : Prop := Claim7.holds Tryd.pinned (.plain (OpenSpec.ofChange fnExactBestLookoutSpec)) fnExactBestLookoutCard

/-- THE TIED CARD OF 'laws.FnExactFarthestFrom'. -/
def fnExactFarthestFromCard : Claim7 := { stood := { row := fnExactFarthestFromRow, standIns := [], harness := (true, "a4444cc7b132ec9f0c40b90efe8ac436fe83340e66f53109d12c58dd8981974a"), looks := false }, kinds := [], alts := [], laidByText := true, laidKinds := [.data], laidTests := true, laidLooks := .later }
def FnExactFarthestFromCardSaid : Prop := Claim7.holds Tryd.pinned (.plain (OpenSpec.ofChange fnExactFarthestFromSpec)) fnExactFarthestFromCard

/-- THE TIED CARD OF 'laws.FnExactSwapSides'. -/
def fnExactSwapSidesCard : Claim7 := { stood := { row := fnExactSwapSidesRow, standIns := [], harness := (true, "a4444cc7b132ec9f0c40b90efe8ac436fe83340e66f53109d12c58dd8981974a"), looks := false }, kinds := [], alts := [], laidByText := true, laidKinds := [.data], laidTests := true, laidLooks := .later }
def FnExactSwapSidesCardSaid : Prop := Claim7.holds Tryd.pinned (.plain (OpenSpec.ofChange fnExactSwapSidesSpec)) fnExactSwapSidesCard

/-- THE SECOND FORM's CARD OF 'laws.FnExactUnitsAt'. -/
def fnExactUnitsAtUptoCard : Claim7 := { stood := { row := fnExactUnitsAtUptoRow, standIns := [], harness := (true, "a4444cc7b132ec9f0c40b90efe8ac436fe83340e66f53109d12c58dd8981974a"), looks := false }, kinds := [], alts := [], laidByText := true, laidKinds := [.data], laidTests := true, laidLooks := .later }
def FnExactUnitsAtUptoCardSaid : Prop := Claim7.holds Tryd.pinned (.plain (OpenSpec.upto fnExactUnitsAtSpec)) fnExactUnitsAtUptoCard

/-- THE SECOND FORM's CARD OF 'laws.FnExactBestLookout'. -/
def fnExactBestLookoutUptoCard : Claim7 := { stood := { row := fnExactBestLookoutUptoRow, standIns := [], harness := (true, "a4444cc7b132ec9f0c40b90efe8ac436fe83340e66f53109d12c58dd8981974a"), looks := false }, kinds := [], alts := [], laidByText := true, laidKinds := [.data], laidTests := true, laidLooks := .later }
def FnExactBestLookoutUptoCardSaid : Prop := Claim7.holds Tryd.pinned (.plain (OpenSpec.upto fnExactBestLookoutSpec)) fnExactBestLookoutUptoCard

/-- THE SECOND FORM's CARD OF 'laws.FnExactFarthestFrom'. -/
def fnExactFarthestFromUptoCard : Claim7 := { stood := { row := fnExactFarthestFromUptoRow, standIns := [], harness := (true, "a4444cc7b132ec9f0c40b90efe8ac436fe83340e66f53109d12c58dd8981974a"), looks := false }, kinds := [], alts := [], laidByText := true, laidKinds := [.data], laidTests := true, laidLooks := .later }
def FnExactFarthestFromUptoCardSaid : Prop := Claim7.holds Tryd.pinned (.plain (OpenSpec.upto fnExactFarthestFromSpec)) fnExactFarthestFromUptoCard

/-- THE SECOND FORM's CARD OF 'laws.FnExactSwapSides'. -/
def fnExactSwapSidesUptoCard : Claim7 := { stood := { row := fnExactSwapSidesUptoRow, standIns := [], harness := (true, "a4444cc7b132ec9f0c40b90efe8ac436fe83340e66f53109d12c58dd8981974a"), looks := false }, kinds := [], alts := [], laidByText := true, laidKinds := [.data], laidTests := true, laidLooks := .later }
def FnExactSwapSidesUptoCardSaid : Prop := Claim7.holds Tryd.pinned (.plain (OpenSpec.upto fnExactSwapSidesSpec)) fnExactSwapSidesUptoCard
end Rows
end Go.Proofs.YtfaobjghedlfoaaDoor
