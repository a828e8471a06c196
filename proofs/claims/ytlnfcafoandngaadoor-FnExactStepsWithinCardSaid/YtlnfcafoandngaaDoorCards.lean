/-
  DERIVED. GIVEN WITH THE SEED: THE CARDS: each row of YtlnfcafoandngaaDoorRows.lean that lists a variable, with what it lists TIED to the program's text (the seventh form; the later family's looks); each row that meets fmt, with fmt's text TOLD by the authors' own Lean function (tested against real Go, not proved from fmt's source: count such statements apart). THE CARD IS WHAT COUNTS. Prove the row's statement (the work); the ties are given (YtlnfcafoandngaaDoorTie.lean); close each card by the builder's one call (the guide's Derived/Test/ToyasCard.lean, 'card_holds'). Laid BY PROGRAM, IN A SANDBOX (cutbox-door.mjs). By AI agents, Wed Nov 11 2026. No macro, syntax, notation, axiom, sorry.
-/
import Derived.Test.YtlnfcafoandngaaDoorRows
import GoSem.ClaimSeven
namespace Go.Proofs.YtlnfcafoandngaaDoor
namespace Rows

/-- THE TIED CARD OF 'laws.FnExactPathHexes'. -/
def fnExactPathHexesCard : Claim7 := { stood := { row := fnExactPathHexesRow, standIns := [], harness := (true, "e0f81a688196e21c8e50da8478f5e024a83de607446795403b466532118f5bd9"), looks := false }, kinds := [], alts := [], laidByText := true, laidKinds := [.data], laidTests := true, laidLooks := .later }
def FnExactPathHexesCardSaid : Prop := Claim7.holds Tryd.pinned (.plain (OpenSpec.ofChange fnExactPathHexesSpec)) fnExactPathHexesCard

/-- THE TIED CARD OF 'laws.FnExactCostliestStep'. -/
def fnExactCostliestStepCard : Claim7 := { stood := { row := fnExactCostliestStepRow, standIns := [], harness := (true, "e0f81a688196e21c8e50da8478f5e024a83de607446795403b466532118f5bd9"), looks := false }, kinds := [], alts := [], laidByText := true, laidKinds := [.data], laidTests := true, laidLooks := .later }
def FnExactCostliestStepCardSaid : Prop := Claim7.holds Tryd.pinned (.plain (OpenSpec.ofChange fnExactCostliestStepSpec)) fnExactCostliestStepCard

/-- THE TIED CARD OF 'laws.FnExactCheapestStep'. -/
def fnExactCheapestStepCard : Claim7 := { stood := { row := fnExactCheapestStepRow, standIns := [], harness := (true, "e0f81a688196e21c8e50da8478f5e024a83de607446795403b466532118f5bd9"), looks := false }, kinds := [], alts := [], laidByText := true, laidKinds := [.data], laidTests := true, laidLooks := .later }
def FnExactCheapestStepCardSaid : Prop := Claim7.holds Tryd.pinned (.plain (OpenSpec.ofChange fnExactCheapestStepSpec)) fnExactCheapestStepCard

/-- THE TIED CARD OF 'laws.FnExactStepsWithin'. -/
def fnExactStepsWithinCard : Claim7 := { stood := { row := fnExactStepsWithinRow, standIns := [], harness := (true, "e0f81a688196e21c8e50da8478f5e024a83de607446795403b466532118f5bd9"), looks := false }, kinds := [], alts := [], laidByText := true, laidKinds := [.data], laidTests := true, laidLooks := .later }
def FnExactStepsWithinCardSaid : Prop := Claim7.holds Tryd.pinned (.plain (OpenSpec.ofChange fnExactStepsWithinSpec)) fnExactStepsWithinCard

/-- THE TIED CARD OF 'laws.FnExactReversePath'. -/
def fnExactReversePathCard : Claim7 := { stood := { row := fnExactReversePathRow, standIns := [], harness := (true, "e0f81a688196e21c8e50da8478f5e024a83de607446795403b466532118f5bd9"), looks := false }, kinds := [], alts := [], laidByText := true, laidKinds := [.data], laidTests := true, laidLooks := .later }
def FnExactReversePathCardSaid : Prop := Claim7.holds Tryd.pinned (.plain (OpenSpec.ofChange fnExactReversePathSpec)) fnExactReversePathCard

/-- THE SECOND FORM's CARD OF 'laws.FnExactPathHexes'. -/
def fnExactPathHexesUptoCard : Claim7 := { stood := { row := fnExactPathHexesUptoRow, standIns := [], harness := (true, "e0f81a688196e21c8e50da8478f5e024a83de607446795403b466532118f5bd9"), looks := false }, kinds := [], alts := [], laidByText := true, laidKinds := [.data], laidTests := true, laidLooks := .later }
def FnExactPathHexesUptoCardSaid : Prop := Claim7.holds Tryd.pinned (.plain (OpenSpec.upto fnExactPathHexesSpec)) fnExactPathHexesUptoCard

/-- THE SECOND FORM's CARD OF 'laws.FnExactCostliestStep'. -/
def fnExactCostliestStepUptoCard : Claim7 := { stood := { row := fnExactCostliestStepUptoRow, standIns := [], harness := (true, "e0f81a688196e21c8e50da8478f5e024a83de607446795403b466532118f5bd9"), looks := false }, kinds := [], alts := [], laidByText := true, laidKinds := [.data], laidTests := true, laidLooks := .later }
def FnExactCostliestStepUptoCardSaid : Prop := Claim7.holds Tryd.pinned (.plain (OpenSpec.upto fnExactCostliestStepSpec)) fnExactCostliestStepUptoCard

/-- THE SECOND FORM's CARD OF 'laws.FnExactCheapestStep'. -/
def fnExactCheapestStepUptoCard : Claim7 := { stood := { row := fnExactCheapestStepUptoRow, standIns := [], harness := (true, "e0f81a688196e21c8e50da8478f5e024a83de607446795403b466532118f5bd9"), looks := false }, kinds := [], alts := [], laidByText := true, laidKinds := [.data], laidTests := true, laidLooks := .later }
def FnExactCheapestStepUptoCardSaid : Prop := Claim7.holds Tryd.pinned (.plain (OpenSpec.upto fnExactCheapestStepSpec)) fnExactCheapestStepUptoCard

/-- THE SECOND FORM's CARD OF 'laws.FnExactStepsWithin'. -/
def fnExactStepsWithinUptoCard : Claim7 := { stood := { row := fnExactStepsWithinUptoRow, standIns := [], harness := (true, "e0f81a688196e21c8e50da8478f5e024a83de607446795403b466532118f5bd9"), looks := false }, kinds := [], alts := [], laidByText := true, laidKinds := [.data], laidTests := true, laidLooks := .later }
def FnExactStepsWithinUptoCardSaid : Prop := Claim7.holds Tryd.pinned (.plain (OpenSpec.upto fnExactStepsWithinSpec)) fnExactStepsWithinUptoCard

/-- THE SECOND FORM's CARD OF 'laws.FnExactReversePath'. -/
def fnExactReversePathUptoCard : Claim7 := { stood := { row := fnExactReversePathUptoRow, standIns := [], harness := (true, "e0f81a688196e21c8e50da8478f5e024a83de607446795403b466532118f5bd9"), looks := false }, kinds := [], alts := [], laidByText := true, laidKinds := [.data], laidTests := true, laidLooks := .later }
def FnExactReversePathUptoCardSaid : Prop := Claim7.holds Tryd.pinned (.plain (OpenSpec.upto fnExactReversePathSpec)) fnExactReversePathUptoCard
end Rows
end Go.Proofs.YtlnfcafoandngaaDoor
