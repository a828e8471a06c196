/-
  DERIVED. GIVEN WITH THE SEED: THE CARDS: each row of YtbcohkgcakgpcaaDoorRows.lean that lists a variable, with what it lists TIED to the program's text (the seventh form; the later family's looks); each row that meets fmt, with fmt's text TOLD by the authors' own Lean function (tested against real Go, not proved from fmt's source: count such statements apart). THE CARD IS WHAT COUNTS. Prove the row's statement (the work); the ties are given (YtbcohkgcakgpcaaDoorTie.lean); close each card by the builder's one call (the guide's Derived/Test/ToyasCard.lean, 'card_holds'). Laid BY PROGRAM, IN A SANDBOX (cutbox-door.mjs). By AI agents, Wed Nov 11 2026. No macro, syntax, notation, axiom, sorry.
-/
import Derived.Test.YtbcohkgcakgpcaaDoorRows
import GoSem.ClaimSeven
namespace Go.Proofs.YtbcohkgcakgpcaaDoor
namespace Rows

/-- THE TIED CARD OF 'laws.FnExactPathCost'. -/
def fnExactPathCostCard : Claim7 := { stood := { row := fnExactPathCostRow, standIns := [], harness := (true, "2d53f63667f673a4d9bd3459c67532a9344c81ccd962df69aa60459bd9158c22"), looks := false }, kinds := [], alts := [], laidByText := true, laidKinds := [.data], laidTests := true, laidLooks := .later }
def FnExactPathCostCardSaid : Prop := Claim7.holds Tryd.pinned (.plain (OpenSpec.ofChange fnExactPathCostSpec)) fnExactPathCostCard

/-- THE TIED CARD OF 'laws.FnExactDetourCost'. -/
def fnExactDetourCostCard : Claim7 := { stood := { row := fnExactDetourCostRow, standIns := [], harness := (true, "2d53f63667f673a4d9bd3459c67532a9344c81ccd962df69aa60459bd9158c22"), looks := false }, kinds := [], alts := [], laidByText := true, laidKinds := [.data], laidTests := true, laidLooks := .later }
def FnExactDetourCostCardSaid : Prop := Claim7.holds Tryd.pinned (.plain (OpenSpec.ofChange fnExactDetourCostSpec)) fnExactDetourCostCard

/-- THE TIED CARD OF 'laws.FnExactTurnsNeeded'. -/
def fnExactTurnsNeededCard : Claim7 := { stood := { row := fnExactTurnsNeededRow, standIns := [], harness := (true, "2d53f63667f673a4d9bd3459c67532a9344c81ccd962df69aa60459bd9158c22"), looks := false }, kinds := [], alts := [], laidByText := true, laidKinds := [.data], laidTests := true, laidLooks := .later }
def FnExactTurnsNeededCardSaid : Prop := Claim7.holds Tryd.pinned (.plain (OpenSpec.ofChange fnExactTurnsNeededSpec)) fnExactTurnsNeededCard

/-- THE TIED CARD OF 'laws.FnExactCheckDistances'. -/
def fnExactCheckDistancesCard : Claim7 := { stood := { row := fnExactCheckDistancesRow, standIns := [], harness := (true, "2d53f63667f673a4d9bd3459c67532a9344c81ccd962df69aa60459bd9158c22"), looks := false }, kinds := [], alts := [], laidByText := true, laidKinds := [.data], laidTests := true, laidLooks := .later }
def FnExactCheckDistancesCardSaid : Prop := Claim7.holds Tryd.pinned (.plain (OpenSpec.ofChange fnExactCheckDistancesSpec)) fnExactCheckDistancesCard

/-- THE TIED CARD OF 'laws.FnExactStackRoom'. -/
def fnExactStackRoomCard : Claim7 := { stood := { row := fnExactStackRoomRow, standIns := [], harness := (true, "2d53f63667f673a4d9bd3459c67532a9344c81ccd962df69aa60459bd9158c22"), looks := false }, kinds := [], alts := [], laidByText := true, laidKinds := [.data], laidTests := true, laidLooks := .later }
def FnExactStackRoomCardSaid : Prop := Claim7.holds Tryd.pinned (.plain (OpenSpec.ofChange fnExactStackRoomSpec)) fnExactStackRoomCard

/-- THE SECOND FORM's CARD OF 'laws.FnExactPathCost'. -/
def fnExactPathCostUptoCard : Claim7 := { stood := { row := fnExactPathCostUptoRow, standIns := [], harness := (true, "2d53f63667f673a4d9bd3459c67532a9344c81ccd962df69aa60459bd9158c22"), looks := false }, kinds := [], alts := [], laidByText := true, laidKinds := [.data], laidTests := true, laidLooks := .later }
def FnExactPathCostUptoCardSaid : Prop := Claim7.holds Tryd.pinned (.plain (OpenSpec.upto fnExactPathCostSpec)) fnExactPathCostUptoCard

/-- THE SECOND FORM's CARD OF 'laws.FnExactDetourCost'. -/
def fnExactDetourCostUptoCard : Claim7 := { stood := { row := fnExactDetourCostUptoRow, standIns := [], harness := (true, "2d53f63667f673a4d9bd3459c67532a9344c81ccd962df69aa60459bd9158c22"), looks := false }, kinds := [], alts := [], laidByText := true, laidKinds := [.data], laidTests := true, laidLooks := .later }
def FnExactDetourCostUptoCardSaid : Prop := Claim7.holds Tryd.pinned (.plain (OpenSpec.upto fnExactDetourCostSpec)) fnExactDetourCostUptoCard

/-- THE SECOND FORM's CARD OF 'laws.FnExactTurnsNeeded'. -/
def fnExactTurnsNeededUptoCard : Claim7 := { stood := { row := fnExactTurnsNeededUptoRow, standIns := [], harness := (true, "2d53f63667f673a4d9bd3459c67532a9344c81ccd962df69aa60459bd9158c22"), looks := false }, kinds := [], alts := [], laidByText := true, laidKinds := [.data], laidTests := true, laidLooks := .later }
def FnExactTurnsNeededUptoCardSaid : Prop := Claim7.holds Tryd.pinned (.plain (OpenSpec.upto fnExactTurnsNeededSpec)) fnExactTurnsNeededUptoCard

/-- THE SECOND FORM's CARD OF 'laws.FnExactCheckDistances'. -/
def fnExactCheckDistancesUptoCard : Claim7 := { stood := { row := fnExactCheckDistancesUptoRow, standIns := [], harness := (true, "2d53f63667f673a4d9bd3459c67532a9344c81ccd962df69aa60459bd9158c22"), looks := false }, kinds := [], alts := [], laidByText := true, laidKinds := [.data], laidTests := true, laidLooks := .later }
def FnExactCheckDistancesUptoCardSaid : Prop := Claim7.holds Tryd.pinned (.plain (OpenSpec.upto fnExactCheckDistancesSpec)) fnExactCheckDistancesUptoCard

/-- THE SECOND FORM's CARD OF 'laws.FnExactStackRoom'. -/
def fnExactStackRoomUptoCard : Claim7 := { stood := { row := fnExactStackRoomUptoRow, standIns := [], harness := (true, "2d53f63667f673a4d9bd3459c67532a9344c81ccd962df69aa60459bd9158c22"), looks := false }, kinds := [], alts := [], laidByText := true, laidKinds := [.data], laidTests := true, laidLooks := .later }
def FnExactStackRoomUptoCardSaid : Prop := Claim7.holds Tryd.pinned (.plain (OpenSpec.upto fnExactStackRoomSpec)) fnExactStackRoomUptoCard
end Rows
end Go.Proofs.YtbcohkgcakgpcaaDoor
