/-
  NARROWER THAN 'FOR EVERY INPUT', by the rows' own cells (each row's printed sentence says how): FnExactPathCost: laid · FnExactDetourCost: laid · FnExactTurnsNeeded: laid · FnExactCheckDistances: laid · FnExactStackRoom: laid.
  DERIVED. THE GIVEN ROWS OF THIS SEAT. 5 by the template 'for every input the law returns true; each argument reads behind the call as it read before'; 0 by the template 'total and deterministic' (their statements: YtbcohkgcakgpcaaDoorTotals.lean).
  GIVEN WITH THE SEED: the statements are not yours to turn. If you find one false, say at which input.
  Laid BY PROGRAM, IN A SANDBOX (cutbox-rows.mjs): the forced cells as the released guide's own fill.sh prints them over the translation fee8bdfab2461465… (all of the seat's roots in one cut). By AI agents, Wed Nov 11 2026. No macro, syntax, notation, axiom, sorry.
-/
import Derived.Test.YtbcohkgcakgpcaaDoorChecked
import GoSem.Claim
import GoSem.ClaimJoined
import GoSem.ClaimMapViews
import Derived.JoinedTies
import Derived.KernelRfl
namespace Go.Proofs.YtbcohkgcakgpcaaDoor
/- THE CELL 'sum', in the pinned program and in every row, IS THE sha256 OF THE DUMP (.gsa) THAT YtbcohkgcakgpcaaDoorProg.lean LOADS. Nothing in Lean hashes anything: it is a label: what it is worth is what the hold of that sum in a sandbox is worth. -/
noncomputable def Tryd.pinned : Pinned := { name := "ytbcohkgcakgpcaadoor", sum := "fee8bdfab24614650d4ea588cf51e766f98765c38cde95007d51a750764a5d88", checked := Tryd.checked }
namespace Rows
def none {H : Type} : Left H := { results := [], args := [] }

/- WHAT THE LISTED PACKAGE-LEVEL VARIABLES READ AS WHEN THE CALL BEGINS. Each datum BY PROGRAM (the guide's laid-datum.mjs) off the statement by which the dump's own 'gosem.cut.vars' lays the variable. In a bare row this is a premise. The card (YtbcohkgcakgpcaaDoorCards.lean) ties it to the program's text. -/
def laid_loop_example_g00886_impl_directions {H : Type} : DataW H := .agg [.agg [.lit (.int .i64 1), .lit (.int .i64 0)], .agg [.lit (.int .i64 1), .lit (.int .i64 (-1))], .agg [.lit (.int .i64 0), .lit (.int .i64 (-1))], .agg [.lit (.int .i64 (-1)), .lit (.int .i64 0)], .agg [.lit (.int .i64 (-1)), .lit (.int .i64 1)], .agg [.lit (.int .i64 0), .lit (.int .i64 1)]]

/-- 'laws.FnExactPathCost': WHATEVER THE INPUT: true; the input reads as it did. -/
def fnExactPathCostSpec : ChangeSpec := { name := "fnExactPathCost", vars := ["loop.example/g00886/impl.directions"], fn := fun _ => fun
  | [d1, d2, d3, d4, d5, g1] => { results := [.lit (.bool true)], args := [d1, d2, d3, d4, d5], vars := [g1] }
  | _ => none }
def fnExactPathCostRow : OpenClaim := { program := "ytbcohkgcakgpcaadoor", sum := "fee8bdfab24614650d4ea588cf51e766f98765c38cde95007d51a750764a5d88", func := "loop.example/g00886/laws.FnExactPathCost", spec := "fnExactPathCost", unfollowed := true, recurses := true, named := ["loop.example/g00886/impl.directions"], apart := false, laid := [("loop.example/g00886/impl.directions", laid_loop_example_g00886_impl_directions)] }
def FnExactPathCostSaid : Prop := fnExactPathCostRow.holds Tryd.pinned (OpenSpec.ofChange fnExactPathCostSpec)

/-- ITS FALSE NEIGHBOUR: 'it returns false'. Refute it at one input. -/
def fnExactPathCostWrong : ChangeSpec := { name := "fnExactPathCost", vars := ["loop.example/g00886/impl.directions"], fn := fun _ => fun
  | [d1, d2, d3, d4, d5, g1] => { results := [.lit (.bool false)], args := [d1, d2, d3, d4, d5], vars := [g1] }
  | _ => none }
def FnExactPathCostWrongFalsely : Prop := fnExactPathCostRow.holds Tryd.pinned (OpenSpec.ofChange fnExactPathCostWrong)

/-- 'laws.FnExactDetourCost': WHATEVER THE INPUT: true; the input reads as it did. -/
def fnExactDetourCostSpec : ChangeSpec := { name := "fnExactDetourCost", vars := ["loop.example/g00886/impl.directions"], fn := fun _ => fun
  | [d1, d2, d3, d4, d5, d6, g1] => { results := [.lit (.bool true)], args := [d1, d2, d3, d4, d5, d6], vars := [g1] }
  | _ => none }
def fnExactDetourCostRow : OpenClaim := { program := "ytbcohkgcakgpcaadoor", sum := "fee8bdfab24614650d4ea588cf51e766f98765c38cde95007d51a750764a5d88", func := "loop.example/g00886/laws.FnExactDetourCost", spec := "fnExactDetourCost", unfollowed := true, recurses := true, named := ["loop.example/g00886/impl.directions"], apart := false, laid := [("loop.example/g00886/impl.directions", laid_loop_example_g00886_impl_directions)] }
def FnExactDetourCostSaid : Prop := fnExactDetourCostRow.holds Tryd.pinned (OpenSpec.ofChange fnExactDetourCostSpec)

/-- ITS FALSE NEIGHBOUR: 'it returns false'. Refute it at one input. -/
def fnExactDetourCostWrong : ChangeSpec := { name := "fnExactDetourCost", vars := ["loop.example/g00886/impl.directions"], fn := fun _ => fun
  | [d1, d2, d3, d4, d5, d6, g1] => { results := [.lit (.bool false)], args := [d1, d2, d3, d4, d5, d6], vars := [g1] }
  | _ => none }
def FnExactDetourCostWrongFalsely : Prop := fnExactDetourCostRow.holds Tryd.pinned (OpenSpec.ofChange fnExactDetourCostWrong)

/-- 'laws.FnExactTurnsNeeded': WHATEVER THE INPUT: true; the input reads as it did. -/
def fnExactTurnsNeededSpec : ChangeSpec := { name := "fnExactTurnsNeeded", vars := ["loop.example/g00886/impl.directions"], fn := fun _ => fun
  | [d1, d2, d3, d4, d5, g1] => { results := [.lit (.bool true)], args := [d1, d2, d3, d4, d5], vars := [g1] }
  | _ => none }
def fnExactTurnsNeededRow : OpenClaim := { program := "ytbcohkgcakgpcaadoor", sum := "fee8bdfab24614650d4ea588cf51e766f98765c38cde95007d51a750764a5d88", func := "loop.example/g00886/laws.FnExactTurnsNeeded", spec := "fnExactTurnsNeeded", unfollowed := true, recurses := true, named := ["loop.example/g00886/impl.directions"], apart := false, laid := [("loop.example/g00886/impl.directions", laid_loop_example_g00886_impl_directions)] }
def FnExactTurnsNeededSaid : Prop := fnExactTurnsNeededRow.holds Tryd.pinned (OpenSpec.ofChange fnExactTurnsNeededSpec)

/-- ITS FALSE NEIGHBOUR: 'it returns false'. Refute it at one input. -/
def fnExactTurnsNeededWrong : ChangeSpec := { name := "fnExactTurnsNeeded", vars := ["loop.example/g00886/impl.directions"], fn := fun _ => fun
  | [d1, d2, d3, d4, d5, g1] => { results := [.lit (.bool false)], args := [d1, d2, d3, d4, d5], vars := [g1] }
  | _ => none }
def FnExactTurnsNeededWrongFalsely : Prop := fnExactTurnsNeededRow.holds Tryd.pinned (OpenSpec.ofChange fnExactTurnsNeededWrong)

/-- 'laws.FnExactCheckDistances': WHATEVER THE INPUT: true; the input reads as it did. -/
def fnExactCheckDistancesSpec : ChangeSpec := { name := "fnExactCheckDistances", vars := ["loop.example/g00886/impl.directions"], fn := fun _ => fun
  | [d1, d2, d3, d4, d5, g1] => { results := [.lit (.bool true)], args := [d1, d2, d3, d4, d5], vars := [g1] }
  | _ => none }
def fnExactCheckDistancesRow : OpenClaim := { program := "ytbcohkgcakgpcaadoor", sum := "fee8bdfab24614650d4ea588cf51e766f98765c38cde95007d51a750764a5d88", func := "loop.example/g00886/laws.FnExactCheckDistances", spec := "fnExactCheckDistances", unfollowed := true, recurses := true, named := ["loop.example/g00886/impl.directions"], apart := false, laid := [("loop.example/g00886/impl.directions", laid_loop_example_g00886_impl_directions)] }
def FnExactCheckDistancesSaid : Prop := fnExactCheckDistancesRow.holds Tryd.pinned (OpenSpec.ofChange fnExactCheckDistancesSpec)

/-- ITS FALSE NEIGHBOUR: 'it returns false'. Refute it at one input. -/
def fnExactCheckDistancesWrong : ChangeSpec := { name := "fnExactCheckDistances", vars := ["loop.example/g00886/impl.directions"], fn := fun _ => fun
  | [d1, d2, d3, d4, d5, g1] => { results := [.lit (.bool false)], args := [d1, d2, d3, d4, d5], vars := [g1] }
  | _ => none }
def FnExactCheckDistancesWrongFalsely : Prop := fnExactCheckDistancesRow.holds Tryd.pinned (OpenSpec.ofChange fnExactCheckDistancesWrong)

/-- 'laws.FnExactStackRoom': WHATEVER THE INPUT: true; the input reads as it did. -/
def fnExactStackRoomSpec : ChangeSpec := { name := "fnExactStackRoom", vars := ["loop.example/g00886/impl.directions"], fn := fun _ => fun
  | [d1, d2, d3, d4, g1] => { results := [.lit (.bool true)], args := [d1, d2, d3, d4], vars := [g1] }
  | _ => none }
def fnExactStackRoomRow : OpenClaim := { program := "ytbcohkgcakgpcaadoor", sum := "fee8bdfab24614650d4ea588cf51e766f98765c38cde95007d51a750764a5d88", func := "loop.example/g00886/laws.FnExactStackRoom", spec := "fnExactStackRoom", unfollowed := true, recurses := true, named := ["loop.example/g00886/impl.directions"], apart := false, laid := [("loop.example/g00886/impl.directions", laid_loop_example_g00886_impl_directions)] }
def FnExactStackRoomSaid : Prop := fnExactStackRoomRow.holds Tryd.pinned (OpenSpec.ofChange fnExactStackRoomSpec)

/-- ITS FALSE NEIGHBOUR: 'it returns false'. Refute it at one input. -/
def fnExactStackRoomWrong : ChangeSpec := { name := "fnExactStackRoom", vars := ["loop.example/g00886/impl.directions"], fn := fun _ => fun
  | [d1, d2, d3, d4, g1] => { results := [.lit (.bool false)], args := [d1, d2, d3, d4], vars := [g1] }
  | _ => none }
def FnExactStackRoomWrongFalsely : Prop := fnExactStackRoomRow.holds Tryd.pinned (OpenSpec.ofChange fnExactStackRoomWrong)

/- THE SECOND FORM. 'bulk': how many values and letters a reading holds, each counted each time it is reached (what is shared counts as often as it is met; a slice's spare places count too). A statement '..UptoSaid' is the law's where the arguments, and the package variables that the reading takes, are together of bulk at most 1048576: NARROWER than '..Said'. Prove '..Said' where nothing that the law and all that it calls make is longer than what came in: it says more and counts as full. Else prove '..UptoSaid'. A law counts once. -/
mutual
def uptoBulk {H : Type} : DataW H → Nat
  | .lit (.string bytes) => bytes.length + 1
  | .lit _ => 1
  | .nil => 1
  | .ptr d => uptoBulk d + 1
  | .slice elems spare => uptoBulkAll elems + uptoBulkAll spare + 1
  | .agg parts => uptoBulkAll parts + 1
  | .iface _ d => uptoBulk d + 1
  | .map entries => uptoBulkEntries entries + 1
  | .held _ => 1
def uptoBulkAll {H : Type} : List (DataW H) → Nat
  | [] => 0
  | d :: r => uptoBulk d + uptoBulkAll r
def uptoBulkEntries {H : Type} : List (Lit × DataW H) → Nat
  | [] => 0
  | x :: r => uptoBulkEntry x + uptoBulkEntries r
def uptoBulkEntry {H : Type} : Lit × DataW H → Nat
  | (.string bytes, d) => bytes.length + uptoBulk d + 1
  | (_, d) => uptoBulk d + 1
 end
def uptoSmall : (H : Type) → List (DataW H) → Bool := fun _ ds => decide (uptoBulkAll ds ≤ 1048576)
def OpenSpec.upto (s : _root_.Go.ChangeSpec) : _root_.Go.OpenSpec := { _root_.Go.OpenSpec.ofChange s with cond := some uptoSmall }

/-- 'laws.FnExactPathCost', WHERE WHAT IT READS IS OF BULK AT MOST 1048576: true; the input reads as it did. -/
def fnExactPathCostUptoRow : OpenClaim := { program := "ytbcohkgcakgpcaadoor", sum := "fee8bdfab24614650d4ea588cf51e766f98765c38cde95007d51a750764a5d88", func := "loop.example/g00886/laws.FnExactPathCost", spec := "fnExactPathCost", unfollowed := true, recurses := true, named := ["loop.example/g00886/impl.directions"], apart := false, laid := [("loop.example/g00886/impl.directions", laid_loop_example_g00886_impl_directions)], narrowed := true }
def FnExactPathCostUptoSaid : Prop := fnExactPathCostUptoRow.holds Tryd.pinned (OpenSpec.upto fnExactPathCostSpec)

/-- 'laws.FnExactDetourCost', WHERE WHAT IT READS IS OF BULK AT MOST 1048576: true; the input reads as it did. -/
def fnExactDetourCostUptoRow : OpenClaim := { program := "ytbcohkgcakgpcaadoor", sum := "fee8bdfab24614650d4ea588cf51e766f98765c38cde95007d51a750764a5d88", func := "loop.example/g00886/laws.FnExactDetourCost", spec := "fnExactDetourCost", unfollowed := true, recurses := true, named := ["loop.example/g00886/impl.directions"], apart := false, laid := [("loop.example/g00886/impl.directions", laid_loop_example_g00886_impl_directions)], narrowed := true }
def FnExactDetourCostUptoSaid : Prop := fnExactDetourCostUptoRow.holds Tryd.pinned (OpenSpec.upto fnExactDetourCostSpec)

/-- 'laws.FnExactTurnsNeeded', WHERE WHAT IT READS IS OF BULK AT MOST 1048576: true; the input reads as it did. -/
def fnExactTurnsNeededUptoRow : OpenClaim := { program := "ytbcohkgcakgpcaadoor", sum := "fee8bdfab24614650d4ea588cf51e766f98765c38cde95007d51a750764a5d88", func := "loop.example/g00886/laws.FnExactTurnsNeeded", spec := "fnExactTurnsNeeded", unfollowed := true, recurses := true, named := ["loop.example/g00886/impl.directions"], apart := false, laid := [("loop.example/g00886/impl.directions", laid_loop_example_g00886_impl_directions)], narrowed := true }
def FnExactTurnsNeededUptoSaid : Prop := fnExactTurnsNeededUptoRow.holds Tryd.pinned (OpenSpec.upto fnExactTurnsNeededSpec)

/-- 'laws.FnExactCheckDistances', WHERE WHAT IT READS IS OF BULK AT MOST 1048576: true; the input reads as it did. -/
def fnExactCheckDistancesUptoRow : OpenClaim := { program := "ytbcohkgcakgpcaadoor", sum := "fee8bdfab24614650d4ea588cf51e766f98765c38cde95007d51a750764a5d88", func := "loop.example/g00886/laws.FnExactCheckDistances", spec := "fnExactCheckDistances", unfollowed := true, recurses := true, named := ["loop.example/g00886/impl.directions"], apart := false, laid := [("loop.example/g00886/impl.directions", laid_loop_example_g00886_impl_directions)], narrowed := true }
def FnExactCheckDistancesUptoSaid : Prop := fnExactCheckDistancesUptoRow.holds Tryd.pinned (OpenSpec.upto fnExactCheckDistancesSpec)

/-- 'laws.FnExactStackRoom', WHERE WHAT IT READS IS OF BULK AT MOST 1048576: true; the input reads as it did. -/
def fnExactStackRoomUptoRow : OpenClaim := { program := "ytbcohkgcakgpcaadoor", sum := "fee8bdfab24614650d4ea588cf51e766f98765c38cde95007d51a750764a5d88", func := "loop.example/g00886/laws.FnExactStackRoom", spec := "fnExactStackRoom", unfollowed := true, recurses := true, named := ["loop.example/g00886/impl.directions"], apart := false, laid := [("loop.example/g00886/impl.directions", laid_loop_example_g00886_impl_directions)], narrowed := true }
def FnExactStackRoomUptoSaid : Prop := fnExactStackRoomUptoRow.holds Tryd.pinned (OpenSpec.upto fnExactStackRoomSpec)

end Rows
end Go.Proofs.YtbcohkgcakgpcaaDoor
