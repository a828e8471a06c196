/-
  DERIVED. GIVEN WITH THE SEED: THE CARDS: each row of YteemoapfkgkngaaGreatDoorRows.lean that lists a variable, with what it lists TIED to the program's text (the seventh form; the later family's looks); each row that meets fmt, with fmt's text TOLD by the authors' own Lean function (tested against real Go, not proved from fmt's source: count such statements apart). THE CARD IS WHAT COUNTS. Prove the row's statement (the work); the ties are given (YteemoapfkgkngaaGreatDoorTie.lean); close each card by the builder's one call (the guide's Derived/Test/ToyasCard.lean, 'card_holds'). Laid BY PROGRAM, IN A SANDBOX (cutbox-door.mjs). By AI agents, Wed Nov 11 2026. No macro, syntax, notation, axiom, sorry.
-/
import Derived.Test.YteemoapfkgkngaaGreatDoorRows
import GoSem.ClaimSeven
namespace Go.Proofs.YteemoapfkgkngaaGreatDoor
namespace Rows

/-- THE TIED CARD OF 'laws.FnExactParseState'. -/
def fnExactParseStateCard : Claim7 := { stood := { row := fnExactParseStateRow, standIns := [], harness := (true, "3fc2258ae384be124200d92598350b5ad2207e7e8d6dc0bfd5c0497bccec70bd"), looks := true }, kinds := [], alts := [], laidByText := true, laidKinds := [.data, .data, .data, .data, .sentinel, .sentinel, .data, .pinned], laidTests := true, laidLooks := .later }
def FnExactParseStateCardSaid : Prop := Claim7.holds Tryz.pinned (.plain (OpenSpec.ofChange fnExactParseStateSpec)) fnExactParseStateCard

/-- THE TIED CARD OF 'laws.FnExactInZone'. -/
def fnExactInZoneCard : Claim7 := { stood := { row := fnExactInZoneRow, standIns := [], harness := (true, "3fc2258ae384be124200d92598350b5ad2207e7e8d6dc0bfd5c0497bccec70bd"), looks := true }, kinds := [], alts := [], laidByText := true, laidKinds := [.data], laidTests := true, laidLooks := .later }
def FnExactInZoneCardSaid : Prop := Claim7.holds Tryz.pinned (.plain (OpenSpec.ofChange fnExactInZoneSpec)) fnExactInZoneCard

/-- THE SECOND FORM's CARD OF 'laws.FnExactParseState'. -/
def fnExactParseStateUptoCard : Claim7 := { stood := { row := fnExactParseStateUptoRow, standIns := [], harness := (true, "3fc2258ae384be124200d92598350b5ad2207e7e8d6dc0bfd5c0497bccec70bd"), looks := true }, kinds := [], alts := [], laidByText := true, laidKinds := [.data, .data, .data, .data, .sentinel, .sentinel, .data, .pinned], laidTests := true, laidLooks := .later }
def FnExactParseStateUptoCardSaid : Prop := Claim7.holds Tryz.pinned (.plain (OpenSpec.upto fnExactParseStateSpec)) fnExactParseStateUptoCard

/-- THE SECOND FORM's CARD OF 'laws.FnExactInZone'. -/
def fnExactInZoneUptoCard : Claim7 := { stood := { row := fnExactInZoneUptoRow, standIns := [], harness := (true, "3fc2258ae384be124200d92598350b5ad2207e7e8d6dc0bfd5c0497bccec70bd"), looks := true }, kinds := [], alts := [], laidByText := true, laidKinds := [.data], laidTests := true, laidLooks := .later }
def FnExactInZoneUptoCardSaid : Prop := Claim7.holds Tryz.pinned (.plain (OpenSpec.upto fnExactInZoneSpec)) fnExactInZoneUptoCard
end Rows
end Go.Proofs.YteemoapfkgkngaaGreatDoor
