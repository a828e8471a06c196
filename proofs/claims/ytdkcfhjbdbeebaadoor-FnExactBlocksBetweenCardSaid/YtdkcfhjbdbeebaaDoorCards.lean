/-
  DERIVED. GIVEN WITH THE SEED: THE CARDS: each row of YtdkcfhjbdbeebaaDoorRows.lean that lists a variable, with what it lists TIED to the program's text (the seventh form; the later family's looks); each row that meets fmt, with fmt's text TOLD by the authors' own Lean function (tested against real Go, not proved from fmt's source: count such statements apart). THE CARD IS WHAT COUNTS. Prove the row's statement (the work); the ties are given (YtdkcfhjbdbeebaaDoorTie.lean); close each card by the builder's one call (the guide's Derived/Test/ToyasCard.lean, 'card_holds'). Laid BY PROGRAM, IN A SANDBOX (cutbox-door.mjs). By AI agents, Wed Nov 11 2026. No macro, syntax, notation, axiom, sorry.
-/
import Derived.Test.YtdkcfhjbdbeebaaDoorRows
import GoSem.ClaimSeven
namespace Go.Proofs.YtdkcfhjbdbeebaaDoor
namespace Rows

/-- THE TIED CARD OF 'laws.FnExactBlocksBetween'. -/
def fnExactBlocksBetweenCard : Claim7 := { stood := { row := fnExactBlocksBetweenRow, standIns := [], harness := (true, "cf2a6e3724b75f3319b2037378dc8dc2a2f9497f37902a0c34c99be5c5d2df32"), looks := false }, kinds := [], alts := [], laidByText := true, laidKinds := [.data], laidTests := true, laidLooks := .later }
def FnExactBlocksBetweenCardSaid : Prop := Claim7.holds Tryd.pinned (.plain (OpenSpec.ofChange fnExactBlocksBetweenSpec)) fnExactBlocksBetweenCard

/-- THE TIED CARD OF 'laws.FnExactStepCost'. -/
def fnExactStepCostCard : Claim7 := { stood := { row := fnExactStepCostRow, standIns := [], harness := (true, "cf2a6e3724b75f3319b2037378dc8dc2a2f9497f37902a0c34c99be5c5d2df32"), looks := false }, kinds := [], alts := [], laidByText := true, laidKinds := [.data], laidTests := true, laidLooks := .later }
def FnExactStepCostCardSaid : Prop := Claim7.holds Tryd.pinned (.plain (OpenSpec.ofChange fnExactStepCostSpec)) fnExactStepCostCard

/-- THE SECOND FORM's CARD OF 'laws.FnExactBlocksBetween'. -/
def fnExactBlocksBetweenUptoCard : Claim7 := { stood := { row := fnExactBlocksBetweenUptoRow, standIns := [], harness := (true, "cf2a6e3724b75f3319b2037378dc8dc2a2f9497f37902a0c34c99be5c5d2df32"), looks := false }, kinds := [], alts := [], laidByText := true, laidKinds := [.data], laidTests := true, laidLooks := .later }
def FnExactBlocksBetweenUptoCardSaid : Prop := Claim7.holds Tryd.pinned (.plain (OpenSpec.upto fnExactBlocksBetweenSpec)) fnExactBlocksBetweenUptoCard

/-- THE SECOND FORM's CARD OF 'laws.FnExactStepCost'. -/
def fnExactStepCostUptoCard : Claim7 := { stood := { row := fnExactStepCostUptoRow, standIns := [], harness := (true, "cf2a6e3724b75f3319b2037378dc8dc2a2f9497f37902a0c34c99be5c5d2df32"), looks := false }, kinds := [], alts := [], laidByText := true, laidKinds := [.data], laidTests := true, laidLooks := .later }
def FnExactStepCostUptoCardSaid : Prop := Claim7.holds Tryd.pinned (.plain (OpenSpec.upto fnExactStepCostSpec)) fnExactStepCostUptoCard
end Rows
end Go.Proofs.YtdkcfhjbdbeebaaDoor
