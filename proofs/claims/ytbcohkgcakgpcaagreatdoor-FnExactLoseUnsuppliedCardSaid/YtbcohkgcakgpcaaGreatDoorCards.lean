/-
  DERIVED. GIVEN WITH THE SEED: THE CARDS: each row of YtbcohkgcakgpcaaGreatDoorRows.lean that lists a variable, with what it lists TIED to the program's text (the seventh form; the later family's looks); each row that meets fmt, with fmt's text TOLD by the authors' own Lean function (tested against real Go, not proved from fmt's source: count such statements apart). THE CARD IS WHAT COUNTS. Prove the row's statement (the work); the ties are given (YtbcohkgcakgpcaaGreatDoorTie.lean); close each card by the builder's one call (the guide's Derived/Test/ToyasCard.lean, 'card_holds'). Laid BY PROGRAM, IN A SANDBOX (cutbox-door.mjs). By AI agents, Wed Nov 11 2026. No macro, syntax, notation, axiom, sorry.
-/
import Derived.Test.YtbcohkgcakgpcaaGreatDoorRows
import GoSem.ClaimSeven
namespace Go.Proofs.YtbcohkgcakgpcaaGreatDoor
namespace Rows

/-- THE TIED CARD OF 'laws.FnExactLoseUnsupplied'. -/
def fnExactLoseUnsuppliedCard : Claim7 := { stood := { row := fnExactLoseUnsuppliedRow, standIns := [], harness := (true, "d110e5a94b2839c7971747757fba460b14a52714a97ed03c05a3d84cfd6bdf5c"), looks := false }, kinds := [], alts := [], laidByText := true, laidKinds := [.data], laidTests := true, laidLooks := .later }
def FnExactLoseUnsuppliedCardSaid : Prop := Claim7.holds Tryz.pinned (.plain (OpenSpec.ofChange fnExactLoseUnsuppliedSpec)) fnExactLoseUnsuppliedCard

/-- THE SECOND FORM's CARD OF 'laws.FnExactLoseUnsupplied'. -/
def fnExactLoseUnsuppliedUptoCard : Claim7 := { stood := { row := fnExactLoseUnsuppliedUptoRow, standIns := [], harness := (true, "d110e5a94b2839c7971747757fba460b14a52714a97ed03c05a3d84cfd6bdf5c"), looks := false }, kinds := [], alts := [], laidByText := true, laidKinds := [.data], laidTests := true, laidLooks := .later }
def FnExactLoseUnsuppliedUptoCardSaid : Prop := Claim7.holds Tryz.pinned (.plain (OpenSpec.upto fnExactLoseUnsuppliedSpec)) fnExactLoseUnsuppliedUptoCard
end Rows
end Go.Proofs.YtbcohkgcakgpcaaGreatDoor
