/-
  NARROWER THAN 'FOR EVERY INPUT', by the rows' own cells (each row's printed sentence says how): FnExactDistancesFrom: laid · FnExactSightCells: laid · FnExactReachOf: laid · FnExactUnitsOf: laid.
  DERIVED. THE GIVEN ROWS OF THIS SEAT. 4 by the template 'for every input the law returns true; each argument reads behind the call as it read before'; 0 by the template 'total and deterministic' (their statements: YthaeflammjofeaaDoorTotals.lean).
  GIVEN WITH THE SEED: the statements are not yours to turn. If you find one false, say at which input.
  Laid BY PROGRAM, IN A SANDBOX (cutbox-rows.mjs): the forced cells as the released guide's own fill.sh prints them over the translation 5cab49ef7b896402… (all of the seat's roots in one cut). By AI agents, Wed Nov 11 2026. No macro, syntax, notation, axiom, sorry.
-/
import Derived.Test.YthaeflammjofeaaDoorChecked
import GoSem.Claim
import GoSem.ClaimJoined
import GoSem.ClaimMapViews
import Derived.JoinedTies
import Derived.KernelRfl
namespace Go.Proofs.YthaeflammjofeaaDoor
/- THE CELL 'sum', in the pinned program and in every row, IS THE sha256 OF THE DUMP (.gsa) THAT YthaeflammjofeaaDoorProg.lean LOADS. Nothing in Lean hashes anything: it is a label: what it is worth is what the hold of that sum in a sandbox is worth. -/
noncomputable def Tryd.pinned : Pinned := { name := "ythaeflammjofeaadoor", sum := "5cab49ef7b8964026eb97c94d76aa503d913be338e3f1363fc98b547db01b4ef", checked := Tryd.checked }
namespace Rows
def none {H : Type} : Left H := { results := [], args := [] }

/- WHAT THE LISTED PACKAGE-LEVEL VARIABLES READ AS WHEN THE CALL BEGINS. Each datum BY PROGRAM (the guide's laid-datum.mjs) off the statement by which the dump's own 'gosem.cut.vars' lays the variable. In a bare row this is a premise. The card (YthaeflammjofeaaDoorCards.lean) ties it to the program's text. -/
def laid_loop_example_g00886_impl_directions {H : Type} : DataW H := .agg [.agg [.lit (.int .i64 1), .lit (.int .i64 0)], .agg [.lit (.int .i64 1), .lit (.int .i64 (-1))], .agg [.lit (.int .i64 0), .lit (.int .i64 (-1))], .agg [.lit (.int .i64 (-1)), .lit (.int .i64 0)], .agg [.lit (.int .i64 (-1)), .lit (.int .i64 1)], .agg [.lit (.int .i64 0), .lit (.int .i64 1)]]

/-- 'laws.FnExactDistancesFrom': WHATEVER THE INPUT: true; the input reads as it did. -/
def fnExactDistancesFromSpec : ChangeSpec := { name := "fnExactDistancesFrom", vars := ["loop.example/g00886/impl.directions"], fn := fun _ => fun
  | [d1, d2, d3, d4, g1] => { results := [.lit (.bool true)], args := [d1, d2, d3, d4], vars := [g1] }
  | _ => none }
def fnExactDistancesFromRow : OpenClaim := { program := "ythaeflammjofeaadoor", sum := "5cab49ef7b8964026eb97c94d76aa503d913be338e3f1363fc98b547db01b4ef", func := "loop.example/g00886/laws.FnExactDistancesFrom", spec := "fnExactDistancesFrom", unfollowed := true, recurses := true, named := ["loop.example/g00886/impl.directions"], apart := false, laid := [("loop.example/g00886/impl.directions", laid_loop_example_g00886_impl_directions)] }
def FnExactDistancesFromSaid : Prop := fnExactDistancesFromRow.holds Tryd.pinned (OpenSpec.ofChange fnExactDistancesFromSpec)

/-- ITS FALSE NEIGHBOUR: 'it returns false'. Refute it at one input. -/
def fnExactDistancesFromWrong : ChangeSpec := { name := "fnExactDistancesFrom", vars := ["loop.example/g00886/impl.directions"], fn := fun _ => fun
  | [d1, d2, d3, d4, g1] => { results := [.lit (.bool false)], args := [d1, d2, d3, d4], vars := [g1] }
  | _ => none }
def FnExactDistancesFromWrongFalsely : Prop := fnExactDistancesFromRow.holds Tryd.pinned (OpenSpec.ofChange fnExactDistancesFromWrong)

/-- 'laws.FnExactSightCells': WHATEVER THE INPUT: true; the input reads as it did. -/
def fnExactSightCellsSpec : ChangeSpec := { name := "fnExactSightCells", vars := ["loop.example/g00886/impl.directions"], fn := fun _ => fun
  | [d1, d2, d3, g1] => { results := [.lit (.bool true)], args := [d1, d2, d3], vars := [g1] }
  | _ => none }
def fnExactSightCellsRow : OpenClaim := { program := "ythaeflammjofeaadoor", sum := "5cab49ef7b8964026eb97c94d76aa503d913be338e3f1363fc98b547db01b4ef", func := "loop.example/g00886/laws.FnExactSightCells", spec := "fnExactSightCells", unfollowed := true, recurses := true, named := ["loop.example/g00886/impl.directions"], apart := false, laid := [("loop.example/g00886/impl.directions", laid_loop_example_g00886_impl_directions)] }
def FnExactSightCellsSaid : Prop := fnExactSightCellsRow.holds Tryd.pinned (OpenSpec.ofChange fnExactSightCellsSpec)

/-- ITS FALSE NEIGHBOUR: 'it returns false'. Refute it at one input. -/
def fnExactSightCellsWrong : ChangeSpec := { name := "fnExactSightCells", vars := ["loop.example/g00886/impl.directions"], fn := fun _ => fun
  | [d1, d2, d3, g1] => { results := [.lit (.bool false)], args := [d1, d2, d3], vars := [g1] }
  | _ => none }
def FnExactSightCellsWrongFalsely : Prop := fnExactSightCellsRow.holds Tryd.pinned (OpenSpec.ofChange fnExactSightCellsWrong)

/-- 'laws.FnExactReachOf': WHATEVER THE INPUT: true; the input reads as it did. -/
def fnExactReachOfSpec : ChangeSpec := { name := "fnExactReachOf", vars := ["loop.example/g00886/impl.directions"], fn := fun _ => fun
  | [d1, d2, d3, d4, d5, g1] => { results := [.lit (.bool true)], args := [d1, d2, d3, d4, d5], vars := [g1] }
  | _ => none }
def fnExactReachOfRow : OpenClaim := { program := "ythaeflammjofeaadoor", sum := "5cab49ef7b8964026eb97c94d76aa503d913be338e3f1363fc98b547db01b4ef", func := "loop.example/g00886/laws.FnExactReachOf", spec := "fnExactReachOf", unfollowed := true, recurses := true, named := ["loop.example/g00886/impl.directions"], apart := false, laid := [("loop.example/g00886/impl.directions", laid_loop_example_g00886_impl_directions)] }
def FnExactReachOfSaid : Prop := fnExactReachOfRow.holds Tryd.pinned (OpenSpec.ofChange fnExactReachOfSpec)

/-- ITS FALSE NEIGHBOUR: 'it returns false'. Refute it at one input. -/
def fnExactReachOfWrong : ChangeSpec := { name := "fnExactReachOf", vars := ["loop.example/g00886/impl.directions"], fn := fun _ => fun
  | [d1, d2, d3, d4, d5, g1] => { results := [.lit (.bool false)], args := [d1, d2, d3, d4, d5], vars := [g1] }
  | _ => none }
def FnExactReachOfWrongFalsely : Prop := fnExactReachOfRow.holds Tryd.pinned (OpenSpec.ofChange fnExactReachOfWrong)

/-- 'laws.FnExactUnitsOf': WHATEVER THE INPUT: true; the input reads as it did. -/
def fnExactUnitsOfSpec : ChangeSpec := { name := "fnExactUnitsOf", vars := ["loop.example/g00886/impl.directions"], fn := fun _ => fun
  | [d1, d2, d3, g1] => { results := [.lit (.bool true)], args := [d1, d2, d3], vars := [g1] }
  | _ => none }
def fnExactUnitsOfRow : OpenClaim := { program := "ythaeflammjofeaadoor", sum := "5cab49ef7b8964026eb97c94d76aa503d913be338e3f1363fc98b547db01b4ef", func := "loop.example/g00886/laws.FnExactUnitsOf", spec := "fnExactUnitsOf", unfollowed := true, recurses := true, named := ["loop.example/g00886/impl.directions"], apart := false, laid := [("loop.example/g00886/impl.directions", laid_loop_example_g00886_impl_directions)] }
def FnExactUnitsOfSaid : Prop := fnExactUnitsOfRow.holds Tryd.pinned (OpenSpec.ofChange fnExactUnitsOfSpec)

/-- ITS FALSE NEIGHBOUR: 'it returns false'. Refute it at one input. -/
def fnExactUnitsOfWrong : ChangeSpec := { name := "fnExactUnitsOf", vars := ["loop.example/g00886/impl.directions"], fn := fun _ => fun
  | [d1, d2, d3, g1] => { results := [.lit (.bool false)], args := [d1, d2, d3], vars := [g1] }
  | _ => none }
def FnExactUnitsOfWrongFalsely : Prop := fnExactUnitsOfRow.holds Tryd.pinned (OpenSpec.ofChange fnExactUnitsOfWrong)

/- THE SECOND FORM. 'bulk': how many values and letters a reading holds, each counted each time it is reached (what is shared counts as often as it is met; a slice's spare places count too). A statement '..UptoSaid' is the law's where the arguments, and the package variables that the reading takes, are together of bulk at most 1048576: NARROWER than '..Said'. Prove '..Said' where nothing that the law and all that it calls make is longer than what came in: it says more and counts as full. Else prove '..UptoSaid'. A law counts once. -/
mutual
def uptoBulk {H : Type} : DataW H → Nat
  | .lit (.string bytes) => bytes.length + 1
  | .lit _ => 1
  | .nil => 1
  | .ptr d => uptoBulk d + 1
  | .slice elems spare => uptoBulkAll elems + uptoBulkAll spare + 1
  | .agg parts => uptoBulkAll parts + 1
  | .iface _ d => uptoBulk d + 1
  | .map entries => uptoBulkEntries entries + 1
  | .held _ => 1
def uptoBulkAll {H : Type} : List (DataW H) → Nat
  | [] => 0
  | d :: r => uptoBulk d + uptoBulkAll r
def uptoBulkEntries {H : Type} : List (Lit × DataW H) → Nat
  | [] => 0
  | x :: r => uptoBulkEntry x + uptoBulkEntries r
def uptoBulkEntry {H : Type} : Lit × DataW H → Nat
  | (.string bytes, d) => bytes.length + uptoBulk d + 1
  | (_, d) => uptoBulk d + 1
 end
def uptoSmall : (H : Type) → List (DataW H) → Bool := fun _ ds => decide (uptoBulkAll ds ≤ 1048576)
def OpenSpec.upto (s : _root_.Go.ChangeSpec) : _root_.Go.OpenSpec := { _root_.Go.OpenSpec.ofChange s with cond := some uptoSmall }

/-- 'laws.FnExactDistancesFrom', WHERE WHAT IT READS IS OF BULK AT MOST 1048576: true; the input reads as it did. -/
def fnExactDistancesFromUptoRow : OpenClaim := { program := "ythaeflammjofeaadoor", sum := "5cab49ef7b8964026eb97c94d76aa503d913be338e3f1363fc98b547db01b4ef", func := "loop.example/g00886/laws.FnExactDistancesFrom", spec := "fnExactDistancesFrom", unfollowed := true, recurses := true, named := ["loop.example/g00886/impl.directions"], apart := false, laid := [("loop.example/g00886/impl.directions", laid_loop_example_g00886_impl_directions)], narrowed := true }
def FnExactDistancesFromUptoSaid : Prop := fnExactDistancesFromUptoRow.holds Tryd.pinned (OpenSpec.upto fnExactDistancesFromSpec)

/-- 'laws.FnExactSightCells', WHERE WHAT IT READS IS OF BULK AT MOST 1048576: true; the input reads as it did. -/
def fnExactSightCellsUptoRow : OpenClaim := { program := "ythaeflammjofeaadoor", sum := "5cab49ef7b8964026eb97c94d76aa503d913be338e3f1363fc98b547db01b4ef", func := "loop.example/g00886/laws.FnExactSightCells", spec := "fnExactSightCells", unfollowed := true, recurses := true, named := ["loop.example/g00886/impl.directions"], apart := false, laid := [("loop.example/g00886/impl.directions", laid_loop_example_g00886_impl_directions)], narrowed := true }
def FnExactSightCellsUptoSaid : Prop := fnExactSightCellsUptoRow.holds Tryd.pinned (OpenSpec.upto fnExactSightCellsSpec)

/-- 'laws.FnExactReachOf', WHERE WHAT IT READS IS OF BULK AT MOST 1048576: true; the input reads as it did. -/
def fnExactReachOfUptoRow : OpenClaim := { program := "ythaeflammjofeaadoor", sum := "5cab49ef7b8964026eb97c94d76aa503d913be338e3f1363fc98b547db01b4ef", func := "loop.example/g00886/laws.FnExactReachOf", spec := "fnExactReachOf", unfollowed := true, recurses := true, named := ["loop.example/g00886/impl.directions"], apart := false, laid := [("loop.example/g00886/impl.directions", laid_loop_example_g00886_impl_directions)], narrowed := true }
def FnExactReachOfUptoSaid : Prop := fnExactReachOfUptoRow.holds Tryd.pinned (OpenSpec.upto fnExactReachOfSpec)

/-- 'laws.FnExactUnitsOf', WHERE WHAT IT READS IS OF BULK AT MOST 1048576: true; the input reads as it did. -/
def fnExactUnitsOfUptoRow : OpenClaim := { program := "ythaeflammjofeaadoor", sum := "5cab49ef7b8964026eb97c94d76aa503d913be338e3f1363fc98b547db01b4ef", func := "loop.example/g00886/laws.FnExactUnitsOf", spec := "fnExactUnitsOf", unfollowed := true, recurses := true, named := ["loop.example/g00886/impl.directions"], apart := false, laid := [("loop.example/g00886/impl.directions", laid_loop_example_g00886_impl_directions)], narrowed := true }
def FnExactUnitsOfUptoSaid : Prop := fnExactUnitsOfUptoRow.holds Tryd.pinned (OpenSpec.upto fnExactUnitsOfSpec)

end Rows
end Go.Proofs.YthaeflammjofeaaDoor
