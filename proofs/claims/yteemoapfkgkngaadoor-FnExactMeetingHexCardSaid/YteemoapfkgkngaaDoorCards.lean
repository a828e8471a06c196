/-
  DERIVED. GIVEN WITH THE SEED: THE CARDS: each row of YteemoapfkgkngaaDoorRows.lean that lists a variable, with what it lists TIED to the program's text (the seventh form; the later family's looks); each row that meets fmt, with fmt's text TOLD by the authors' own Lean function (tested against real Go, not proved from fmt's source: count such statements apart). THE CARD IS WHAT COUNTS. Prove the row's statement (the work); the ties are given (YteemoapfkgkngaaDoorTie.lean); close each card by the builder's one call (the guide's Derived/Test/ToyasCard.lean, 'card_holds'). Laid BY PROGRAM, IN A SANDBOX (cutbox-door.mjs). By AI agents, Wed Nov 11 2026. No macro, syntax, notation, axiom, sorry.
-/
import Derived.Test.YteemoapfkgkngaaDoorRows
import GoSem.ClaimSeven
namespace Go.Proofs.YteemoapfkgkngaaDoor
namespace Rows

/-- THE TIED CARD OF 'laws.FnExactStepCosts'. -/
def fnExactStepCostsCard : Claim7 := { stood := { row := fnExactStepCostsRow, standIns := [], harness := (true, "2f8e53416173e8c1db3a516822f9948f81b324dfd4cc5550c19c923fced93584"), looks := false }, kinds := [], alts := [], laidByText := true, laidKinds := [.data], laidTests := true, laidLooks := .later }
def FnExactStepCostsCardSaid : Prop := Claim7.holds Tryd.pinned (.plain (OpenSpec.ofChange fnExactStepCostsSpec)) fnExactStepCostsCard

/-- THE TIED CARD OF 'laws.FnExactFirstBlock'. -/
def fnExactFirstBlockCard : Claim7 := { stood := { row := fnExactFirstBlockRow, standIns := [], harness := (true, "2f8e53416173e8c1db3a516822f9948f81b324dfd4cc5550c19c923fced93584"), looks := false }, kinds := [], alts := [], laidByText := true, laidKinds := [.data], laidTests := true, laidLooks := .later }
def FnExactFirstBlockCardSaid : Prop := Claim7.holds Tryd.pinned (.plain (OpenSpec.ofChange fnExactFirstBlockSpec)) fnExactFirstBlockCard

/-- THE TIED CARD OF 'laws.FnExactMeetingHex'. -/
def fnExactMeetingHexCard : Claim7 := { stood := { row := fnExactMeetingHexRow, standIns := [], harness := (true, "2f8e53416173e8c1db3a516822f9948f81b324dfd4cc5550c19c923fced93584"), looks := false }, kinds := [], alts := [], laidByText := true, laidKinds := [.data], laidTests := true, laidLooks := .later }
def FnExactMeetingHexCardSaid : Prop := Claim7.holds Tryd.pinned (.plain (OpenSpec.ofChange fnExactMeetingHexSpec)) fnExactMeetingHexCard

/-- THE TIED CARD OF 'laws.FnExactSightCode'. -/
def fnExactSightCodeCard : Claim7 := { stood := { row := fnExactSightCodeRow, standIns := [], harness := (true, "2f8e53416173e8c1db3a516822f9948f81b324dfd4cc5550c19c923fced93584"), looks := false }, kinds := [], alts := [], laidByText := true, laidKinds := [.data], laidTests := true, laidLooks := .later }
def FnExactSightCodeCardSaid : Prop := Claim7.holds Tryd.pinned (.plain (OpenSpec.ofChange fnExactSightCodeSpec)) fnExactSightCodeCard

/-- THE SECOND FORM's CARD OF 'laws.FnExactStepCosts'. -/
def fnExactStepCostsUptoCard : Claim7 := { stood := { row := fnExactStepCostsUptoRow, standIns := [], harness := (true, "2f8e53416173e8c1db3a516822f9948f81b324dfd4cc5550c19c923fced93584"), looks := false }, kinds := [], alts := [], laidByText := true, laidKinds := [.data], laidTests := true, laidLooks := .later }
def FnExactStepCostsUptoCardSaid : Prop := Claim7.holds Tryd.pinned (.plain (OpenSpec.upto fnExactStepCostsSpec)) fnExactStepCostsUptoCard

/-- THE SECOND FORM's CARD OF 'laws.FnExactFirstBlock'. -/
def fnExactFirstBlockUptoCard : Claim7 := { stood := { row := fnExactFirstBlockUptoRow, standIns := [], harness := (true, "2f8e53416173e8c1db3a516822f9948f81b324dfd4cc5550c19c923fced93584"), looks := false }, kinds := [], alts := [], laidByText := true, laidKinds := [.data], laidTests := true, laidLooks := .later }
def FnExactFirstBlockUptoCardSaid : Prop := Claim7.holds Tryd.pinned (.plain (OpenSpec.upto fnExactFirstBlockSpec)) fnExactFirstBlockUptoCard

/-- THE SECOND FORM's CARD OF 'laws.FnExactMeetingHex'. -/
def fnExactMeetingHexUptoCard : Claim7 := { stood := { row := fnExactMeetingHexUptoRow, standIns := [], harness := (true, "2f8e53416173e8c1db3a516822f9948f81b324dfd4cc5550c19c923fced93584"), looks := false }, kinds := [], alts := [], laidByText := true, laidKinds := [.data], laidTests := true, laidLooks := .later }
def FnExactMeetingHexUptoCardSaid : Prop := Claim7.holds Tryd.pinned (.plain (OpenSpec.upto fnExactMeetingHexSpec)) fnExactMeetingHexUptoCard

/-- THE SECOND FORM's CARD OF 'laws.FnExactSightCode'. -/
def fnExactSightCodeUptoCard : Claim7 := { stood := { row := fnExactSightCodeUptoRow, standIns := [], harness := (true, "2f8e53416173e8c1db3a516822f9948f81b324dfd4cc5550c19c923fced93584"), looks := false }, kinds := [], alts := [], laidByText := true, laidKinds := [.data], laidTests := true, laidLooks := .later }
def FnExactSightCodeUptoCardSaid : Prop := Claim7.holds Tryd.pinned (.plain (OpenSpec.upto fnExactSightCodeSpec)) fnExactSightCodeUptoCard
end Rows
end Go.Proofs.YteemoapfkgkngaaDoor
