/-
  DERIVED. GIVEN WITH THE SEED: THE CARDS: each row of YtjnpnpkjmlihdaaDoorRows.lean that lists a variable, with what it lists TIED to the program's text (the seventh form; the later family's looks); each row that meets fmt, with fmt's text TOLD by the authors' own Lean function (tested against real Go, not proved from fmt's source: count such statements apart). THE CARD IS WHAT COUNTS. Prove the row's statement (the work); the ties are given (YtjnpnpkjmlihdaaDoorTie.lean); close each card by the builder's one call (the guide's Derived/Test/ToyasCard.lean, 'card_holds'). Laid BY PROGRAM, IN A SANDBOX (cutbox-door.mjs). By AI agents, Wed Nov 11 2026. No macro, syntax, notation, axiom, sorry.
-/
import Derived.Test.YtjnpnpkjmlihdaaDoorRows
import GoSem.ClaimSeven
namespace Go.Proofs.YtjnpnpkjmlihdaaDoor
namespace Rows

/-- THE TIED CARD OF 'laws.FnExactCountCheapest'. -/
def fnExactCountCheapestCard : Claim7 := { stood := { row := fnExactCountCheapestRow, standIns := [], harness := (true, "0e0a2d93d5929fc745d256dbc78528ad6e4322d1f71327b8c41cd5f7419392c9"), looks := false }, kinds := [], alts := [], laidByText := true, laidKinds := [.data], laidTests := true, laidLooks := .later }
def FnExactCountCheapestCardSaid : Prop := Claim7.holds Tryd.pinned (.plain (OpenSpec.ofChange fnExactCountCheapestSpec)) fnExactCountCheapestCard

/-- THE SECOND FORM's CARD OF 'laws.FnExactCountCheapest'. -/
def fnExactCountCheapestUptoCard : Claim7 := { stood := { row := fnExactCountCheapestUptoRow, standIns := [], harness := (true, "0e0a2d93d5929fc745d256dbc78528ad6e4322d1f71327b8c41cd5f7419392c9"), looks := false }, kinds := [], alts := [], laidByText := true, laidKinds := [.data], laidTests := true, laidLooks := .later }
def FnExactCountCheapestUptoCardSaid : Prop := Claim7.holds Tryd.pinned (.plain (OpenSpec.upto fnExactCountCheapestSpec)) fnExactCountCheapestUptoCard
end Rows
end Go.Proofs.YtjnpnpkjmlihdaaDoor
