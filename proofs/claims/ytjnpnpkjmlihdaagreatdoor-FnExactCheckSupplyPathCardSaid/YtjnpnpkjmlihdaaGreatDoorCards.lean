/-
  DERIVED. GIVEN WITH THE SEED: THE CARDS: each row of YtjnpnpkjmlihdaaGreatDoorRows.lean that lists a variable, with what it lists TIED to the program's text (the seventh form; the later family's looks); each row that meets fmt, with fmt's text TOLD by the authors' own Lean function (tested against real Go, not proved from fmt's source: count such statements apart). THE CARD IS WHAT COUNTS. Prove the row's statement (the work); the ties are given (YtjnpnpkjmlihdaaGreatDoorTie.lean); close each card by the builder's one call (the guide's Derived/Test/ToyasCard.lean, 'card_holds'). Laid BY PROGRAM, IN A SANDBOX (cutbox-door.mjs). By AI agents, Wed Nov 11 2026. No macro, syntax, notation, axiom, sorry.
-/
import Derived.Test.YtjnpnpkjmlihdaaGreatDoorRows
import GoSem.ClaimSeven
namespace Go.Proofs.YtjnpnpkjmlihdaaGreatDoor
namespace Rows

/-- THE TIED CARD OF 'laws.FnExactZoneSources'. -/
def fnExactZoneSourcesCard : Claim7 := { stood := { row := fnExactZoneSourcesRow, standIns := [], harness := (true, "820e25f8cd7ba0f790ba98ff91df19d22d04cc6ba8fc8fa8c55eeb9307edee82"), looks := false }, kinds := [], alts := [], laidByText := true, laidKinds := [.data], laidTests := true, laidLooks := .later }
def FnExactZoneSourcesCardSaid : Prop := Claim7.holds Tryz.pinned (.plain (OpenSpec.ofChange fnExactZoneSourcesSpec)) fnExactZoneSourcesCard

/-- THE TIED CARD OF 'laws.FnExactContestedHexes'. -/
def fnExactContestedHexesCard : Claim7 := { stood := { row := fnExactContestedHexesRow, standIns := [], harness := (true, "820e25f8cd7ba0f790ba98ff91df19d22d04cc6ba8fc8fa8c55eeb9307edee82"), looks := false }, kinds := [], alts := [], laidByText := true, laidKinds := [.data], laidTests := true, laidLooks := .later }
def FnExactContestedHexesCardSaid : Prop := Claim7.holds Tryz.pinned (.plain (OpenSpec.ofChange fnExactContestedHexesSpec)) fnExactContestedHexesCard

/-- THE TIED CARD OF 'laws.FnExactZoneHexes'. -/
def fnExactZoneHexesCard : Claim7 := { stood := { row := fnExactZoneHexesRow, standIns := [], harness := (true, "820e25f8cd7ba0f790ba98ff91df19d22d04cc6ba8fc8fa8c55eeb9307edee82"), looks := false }, kinds := [], alts := [], laidByText := true, laidKinds := [.data], laidTests := true, laidLooks := .later }
def FnExactZoneHexesCardSaid : Prop := Claim7.holds Tryz.pinned (.plain (OpenSpec.ofChange fnExactZoneHexesSpec)) fnExactZoneHexesCard

/-- THE TIED CARD OF 'laws.FnExactCheckSupplyPath'. -/
def fnExactCheckSupplyPathCard : Claim7 := { stood := { row := fnExactCheckSupplyPathRow, standIns := [], harness := (true, "820e25f8cd7ba0f790ba98ff91df19d22d04cc6ba8fc8fa8c55eeb9307edee82"), looks := false }, kinds := [], alts := [], laidByText := true, laidKinds := [.data], laidTests := true, laidLooks := .later }
def FnExactCheckSupplyPathCardSaid : Prop := Claim7.holds Tryz.pinned (.plain (OpenSpec.ofChange fnExactCheckSupplyPathSpec)) fnExactCheckSupplyPathCard

/-- THE TIED CARD OF 'laws.FnExactWatchersOf'. -/
def fnExactWatchersOfCard : Claim7 := { stood := { row := fnExactWatchersOfRow, standIns := [], harness := (true, "820e25f8cd7ba0f790ba98ff91df19d22d04cc6ba8fc8fa8c55eeb9307edee82"), looks := false }, kinds := [], alts := [], laidByText := true, laidKinds := [.data], laidTests := true, laidLooks := .later }
def FnExactWatchersOfCardSaid : Prop := Claim7.holds Tryz.pinned (.plain (OpenSpec.ofChange fnExactWatchersOfSpec)) fnExactWatchersOfCard

/-- THE SECOND FORM's CARD OF 'laws.FnExactZoneSources'. -/
def fnExactZoneSourcesUptoCard : Claim7 := { stood := { row := fnExactZoneSourcesUptoRow, standIns := [], harness := (true, "820e25f8cd7ba0f790ba98ff91df19d22d04cc6ba8fc8fa8c55eeb9307edee82"), looks := false }, kinds := [], alts := [], laidByText := true, laidKinds := [.data], laidTests := true, laidLooks := .later }
def FnExactZoneSourcesUptoCardSaid : Prop := Claim7.holds Tryz.pinned (.plain (OpenSpec.upto fnExactZoneSourcesSpec)) fnExactZoneSourcesUptoCard

/-- THE SECOND FORM's CARD OF 'laws.FnExactContestedHexes'. -/
def fnExactContestedHexesUptoCard : Claim7 := { stood := { row := fnExactContestedHexesUptoRow, standIns := [], harness := (true, "820e25f8cd7ba0f790ba98ff91df19d22d04cc6ba8fc8fa8c55eeb9307edee82"), looks := false }, kinds := [], alts := [], laidByText := true, laidKinds := [.data], laidTests := true, laidLooks := .later }
def FnExactContestedHexesUptoCardSaid : Prop := Claim7.holds Tryz.pinned (.plain (OpenSpec.upto fnExactContestedHexesSpec)) fnExactContestedHexesUptoCard

/-- THE SECOND FORM's CARD OF 'laws.FnExactZoneHexes'. -/
def fnExactZoneHexesUptoCard : Claim7 := { stood := { row := fnExactZoneHexesUptoRow, standIns := [], harness := (true, "820e25f8cd7ba0f790ba98ff91df19d22d04cc6ba8fc8fa8c55eeb9307edee82"), looks := false }, kinds := [], alts := [], laidByText := true, laidKinds := [.data], laidTests := true, laidLooks := .later }
def FnExactZoneHexesUptoCardSaid : Prop := Claim7.holds Tryz.pinned (.plain (OpenSpec.upto fnExactZoneHexesSpec)) fnExactZoneHexesUptoCard

/-- THE SECOND FORM's CARD OF 'laws.FnExactCheckSupplyPath'. -/
def fnExactCheckSupplyPathUptoCard : Claim7 := { stood := { row := fnExactCheckSupplyPathUptoRow, standIns := [], harness := (true, "820e25f8cd7ba0f790ba98ff91df19d22d04cc6ba8fc8fa8c55eeb9307edee82"), looks := false }, kinds := [], alts := [], laidByText := true, laidKinds := [.data], laidTests := true, laidLooks := .later }
def FnExactCheckSupplyPathUptoCardSaid : Prop := Claim7.holds Tryz.pinned (.plain (OpenSpec.upto fnExactCheckSupplyPathSpec)) fnExactCheckSupplyPathUptoCard

/-- THE SECOND FORM's CARD OF 'laws.FnExactWatchersOf'. -/
def fnExactWatchersOfUptoCard : Claim7 := { stood := { row := fnExactWatchersOfUptoRow, standIns := [], harness := (true, "820e25f8cd7ba0f790ba98ff91df19d22d04cc6ba8fc8fa8c55eeb9307edee82"), looks := false }, kinds := [], alts := [], laidByText := true, laidKinds := [.data], laidTests := true, laidLooks := .later }
def FnExactWatchersOfUptoCardSaid : Prop := Claim7.holds Tryz.pinned (.plain (OpenSpec.upto fnExactWatchersOfSpec)) fnExactWatchersOfUptoCard
end Rows
end Go.Proofs.YtjnpnpkjmlihdaaGreatDoor
