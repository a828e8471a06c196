/-
  DERIVED. GIVEN WITH THE SEED: THE CARDS: each row of YtkflmicnfjfmiaaDoorRows.lean that lists a variable, with what it lists TIED to the program's text (the seventh form; the later family's looks); each row that meets fmt, with fmt's text TOLD by the authors' own Lean function (tested against real Go, not proved from fmt's source: count such statements apart). THE CARD IS WHAT COUNTS. Prove the row's statement (the work); the ties are given (YtkflmicnfjfmiaaDoorTie.lean); close each card by the builder's one call (the guide's Derived/Test/ToyasCard.lean, 'card_holds'). Laid BY PROGRAM, IN A SANDBOX (cutbox-door.mjs). By AI agents, Wed Nov 11 2026. No macro, syntax, notation, axiom, sorry.
-/
import Derived.Test.YtkflmicnfjfmiaaDoorRows
import GoSem.ClaimSeven
namespace Go.Proofs.YtkflmicnfjfmiaaDoor
namespace Rows

/-- THE TIED CARD OF 'laws.FnExactCheapestPath'. -/
def fnExactCheapestPathCard : Claim7 := { stood := { row := fnExactCheapestPathRow, standIns := [], harness := (true, "8d64ab259eb2cba67e0c28bab18870c0428980f03e5a9e5b8cb869682c52b558"), looks := false }, kinds := [], alts := [], laidByText := true, laidKinds := [.data], laidTests := true, laidLooks := .later }
def FnExactCheapestPathCardSaid : Prop := Claim7.holds Tryd.pinned (.plain (OpenSpec.ofChange fnExactCheapestPathSpec)) fnExactCheapestPathCard

/-- THE SECOND FORM's CARD OF 'laws.FnExactCheapestPath'. -/
def fnExactCheapestPathUptoCard : Claim7 := { stood := { row := fnExactCheapestPathUptoRow, standIns := [], harness := (true, "8d64ab259eb2cba67e0c28bab18870c0428980f03e5a9e5b8cb869682c52b558"), looks := false }, kinds := [], alts := [], laidByText := true, laidKinds := [.data], laidTests := true, laidLooks := .later }
def FnExactCheapestPathUptoCardSaid : Prop := Claim7.holds Tryd.pinned (.plain (OpenSpec.upto fnExactCheapestPathSpec)) fnExactCheapestPathUptoCard
end Rows
end Go.Proofs.YtkflmicnfjfmiaaDoor
