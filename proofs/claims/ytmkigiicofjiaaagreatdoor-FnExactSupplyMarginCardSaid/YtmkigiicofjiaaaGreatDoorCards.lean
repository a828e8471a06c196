/-
  DERIVED. GIVEN WITH THE SEED: THE CARDS: each row of YtmkigiicofjiaaaGreatDoorRows.lean that lists a variable, with what it lists TIED to the program's text (the seventh form; the later family's looks); each row that meets fmt, with fmt's text TOLD by the authors' own Lean function (tested against real Go, not proved from fmt's source: count such statements apart). THE CARD IS WHAT COUNTS. Prove the row's statement (the work); the ties are given (YtmkigiicofjiaaaGreatDoorTie.lean); close each card by the builder's one call (the guide's Derived/Test/ToyasCard.lean, 'card_holds'). Laid BY PROGRAM, IN A SANDBOX (cutbox-door.mjs). By AI agents, Wed Nov 11 2026. No macro, syntax, notation, axiom, sorry.
-/
import Derived.Test.YtmkigiicofjiaaaGreatDoorRows
import GoSem.ClaimSeven
namespace Go.Proofs.YtmkigiicofjiaaaGreatDoor
namespace Rows

/-- THE TIED CARD OF 'laws.FnExactInSupply'. -/
def fnExactInSupplyCard : Claim7 := { stood := { row := fnExactInSupplyRow, standIns := [], harness := (true, "5f9bc069dc4b8af7872bda4c2a554bb9ab7c48609e7346d5e39fb1d6121db6d8"), looks := false }, kinds := [], alts := [], laidByText := true, laidKinds := [.data], laidTests := true, laidLooks := .later }
def FnExactInSupplyCardSaid : Prop := Claim7.holds Tryz.pinned (.plain (OpenSpec.ofChange fnExactInSupplySpec)) fnExactInSupplyCard

/-- THE TIED CARD OF 'laws.FnExactFreeExits'. -/
def fnExactFreeExitsCard : Claim7 := { stood := { row := fnExactFreeExitsRow, standIns := [], harness := (true, "5f9bc069dc4b8af7872bda4c2a554bb9ab7c48609e7346d5e39fb1d6121db6d8"), looks := false }, kinds := [], alts := [], laidByText := true, laidKinds := [.data], laidTests := true, laidLooks := .later }
def FnExactFreeExitsCardSaid : Prop := Claim7.holds Tryz.pinned (.plain (OpenSpec.ofChange fnExactFreeExitsSpec)) fnExactFreeExitsCard

/-- THE TIED CARD OF 'laws.FnExactSupplyMargin'. -/
def fnExactSupplyMarginCard : Claim7 := { stood := { row := fnExactSupplyMarginRow, standIns := [], harness := (true, "5f9bc069dc4b8af7872bda4c2a554bb9ab7c48609e7346d5e39fb1d6121db6d8"), looks := false }, kinds := [], alts := [], laidByText := true, laidKinds := [.data], laidTests := true, laidLooks := .later }
def FnExactSupplyMarginCardSaid : Prop := Claim7.holds Tryz.pinned (.plain (OpenSpec.ofChange fnExactSupplyMarginSpec)) fnExactSupplyMarginCard

/-- THE TIED CARD OF 'laws.FnExactControlMap'. -/
def fnExactControlMapCard : Claim7 := { stood := { row := fnExactControlMapRow, standIns := [], harness := (true, "5f9bc069dc4b8af7872bda4c2a554bb9ab7c48609e7346d5e39fb1d6121db6d8"), looks := false }, kinds := [], alts := [], laidByText := true, laidKinds := [.data], laidTests := true, laidLooks := .later }
def FnExactControlMapCardSaid : Prop := Claim7.holds Tryz.pinned (.plain (OpenSpec.ofChange fnExactControlMapSpec)) fnExactControlMapCard

/-- THE TIED CARD OF 'laws.FnExactCountControlled'. -/
def fnExactCountControlledCard : Claim7 := { stood := { row := fnExactCountControlledRow, standIns := [], harness := (true, "5f9bc069dc4b8af7872bda4c2a554bb9ab7c48609e7346d5e39fb1d6121db6d8"), looks := false }, kinds := [], alts := [], laidByText := true, laidKinds := [.data], laidTests := true, laidLooks := .later }
def FnExactCountControlledCardSaid : Prop := Claim7.holds Tryz.pinned (.plain (OpenSpec.ofChange fnExactCountControlledSpec)) fnExactCountControlledCard

/-- THE TIED CARD OF 'laws.FnExactSupplyDistances'. -/
def fnExactSupplyDistancesCard : Claim7 := { stood := { row := fnExactSupplyDistancesRow, standIns := [], harness := (true, "5f9bc069dc4b8af7872bda4c2a554bb9ab7c48609e7346d5e39fb1d6121db6d8"), looks := false }, kinds := [], alts := [], laidByText := true, laidKinds := [.data], laidTests := true, laidLooks := .later }
def FnExactSupplyDistancesCardSaid : Prop := Claim7.holds Tryz.pinned (.plain (OpenSpec.ofChange fnExactSupplyDistancesSpec)) fnExactSupplyDistancesCard

/-- THE SECOND FORM's CARD OF 'laws.FnExactInSupply'. -/
def fnExactInSupplyUptoCard : Claim7 := { stood := { row := fnExactInSupplyUptoRow, standIns := [], harness := (true, "5f9bc069dc4b8af7872bda4c2a554bb9ab7c48609e7346d5e39fb1d6121db6d8"), looks := false }, kinds := [], alts := [], laidByText := true, laidKinds := [.data], laidTests := true, laidLooks := .later }
def FnExactInSupplyUptoCardSaid : Prop := Claim7.holds Tryz.pinned (.plain (OpenSpec.upto fnExactInSupplySpec)) fnExactInSupplyUptoCard

/-- THE SECOND FORM's CARD OF 'laws.FnExactFreeExits'. -/
def fnExactFreeExitsUptoCard : Claim7 := { stood := { row := fnExactFreeExitsUptoRow, standIns := [], harness := (true, "5f9bc069dc4b8af7872bda4c2a554bb9ab7c48609e7346d5e39fb1d6121db6d8"), looks := false }, kinds := [], alts := [], laidByText := true, laidKinds := [.data], laidTests := true, laidLooks := .later }
def FnExactFreeExitsUptoCardSaid : Prop := Claim7.holds Tryz.pinned (.plain (OpenSpec.upto fnExactFreeExitsSpec)) fnExactFreeExitsUptoCard

/-- THE SECOND FORM's CARD OF 'laws.FnExactSupplyMargin'. -/
def fnExactSupplyMarginUptoCard : Claim7 := { stood := { row := fnExactSupplyMarginUptoRow, standIns := [], harness := (true, "5f9bc069dc4b8af7872bda4c2a554bb9ab7c48609e7346d5e39fb1d6121db6d8"), looks := false }, kinds := [], alts := [], laidByText := true, laidKinds := [.data], laidTests := true, laidLooks := .later }
def FnExactSupplyMarginUptoCardSaid : Prop := Claim7.holds Tryz.pinned (.plain (OpenSpec.upto fnExactSupplyMarginSpec)) fnExactSupplyMarginUptoCard

/-- THE SECOND FORM's CARD OF 'laws.FnExactControlMap'. -/
def fnExactControlMapUptoCard : Claim7 := { stood := { row := fnExactControlMapUptoRow, standIns := [], harness := (true, "5f9bc069dc4b8af7872bda4c2a554bb9ab7c48609e7346d5e39fb1d6121db6d8"), looks := false }, kinds := [], alts := [], laidByText := true, laidKinds := [.data], laidTests := true, laidLooks := .later }
def FnExactControlMapUptoCardSaid : Prop := Claim7.holds Tryz.pinned (.plain (OpenSpec.upto fnExactControlMapSpec)) fnExactControlMapUptoCard

/-- THE SECOND FORM's CARD OF 'laws.FnExactCountControlled'. -/
def fnExactCountControlledUptoCard : Claim7 := { stood := { row := fnExactCountControlledUptoRow, standIns := [], harness := (true, "5f9bc069dc4b8af7872bda4c2a554bb9ab7c48609e7346d5e39fb1d6121db6d8"), looks := false }, kinds := [], alts := [], laidByText := true, laidKinds := [.data], laidTests := true, laidLooks := .later }
def FnExactCountControlledUptoCardSaid : Prop := Claim7.holds Tryz.pinned (.plain (OpenSpec.upto fnExactCountControlledSpec)) fnExactCountControlledUptoCard

/-- THE SECOND FORM's CARD OF 'laws.FnExactSupplyDistances'. -/
def fnExactSupplyDistancesUptoCard : Claim7 := { stood := { row := fnExactSupplyDistancesUptoRow, standIns := [], harness := (true, "5f9bc069dc4b8af7872bda4c2a554bb9ab7c48609e7346d5e39fb1d6121db6d8"), looks := false }, kinds := [], alts := [], laidByText := true, laidKinds := [.data], laidTests := true, laidLooks := .later }
def FnExactSupplyDistancesUptoCardSaid : Prop := Claim7.holds Tryz.pinned (.plain (OpenSpec.upto fnExactSupplyDistancesSpec)) fnExactSupplyDistancesUptoCard
end Rows
end Go.Proofs.YtmkigiicofjiaaaGreatDoor
