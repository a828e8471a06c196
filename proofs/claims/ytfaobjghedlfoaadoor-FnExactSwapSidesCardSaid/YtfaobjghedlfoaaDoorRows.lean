/-
  NARROWER THAN 'FOR EVERY INPUT', by the rows' own cells (each row's printed sentence says how): FnExactUnitsAt: laid · FnExactBestLookout: laid · FnExactFarthestFrom: laid · FnExactSwapSides: laid.
  DERIVED. THE GIVEN ROWS OF THIS SEAT. 4 by the template 'for every input the law returns true; each argument reads behind the call as it read before'; 0 by the template 'total and deterministic' (their statements: YtfaobjghedlfoaaDoorTotals.lean).
  GIVEN WITH THE SEED: the statements are not yours to turn. If you find one false, say at which input.
  Laid BY PROGRAM, IN A SANDBOX (cutbox-rows.mjs): the forced cells as the released guide's own fill.sh prints them over the translation 436f20f3b835ec81… (all of the seat's roots in one cut). By AI agents, Wed Nov 11 2026. No macro, syntax, notation, axiom, sorry.
-/
import Derived.Test.YtfaobjghedlfoaaDoorChecked
import GoSem.Claim
import GoSem.ClaimJoined
import GoSem.ClaimMapViews
import Derived.JoinedTies
import Derived.KernelRfl
namespace Go.Proofs.YtfaobjghedlfoaaDoor
/- THE CELL 'sum', in the pinned program and in every row, IS THE sha256 OF THE DUMP (.gsa) THAT YtfaobjghedlfoaaDoorProg.lean LOADS. Nothing in Lean hashes anything: it is a label: what it is worth is what the hold of that sum in a sandbox is worth. -/
noncomputable def Tryd.pinned : Pinned := { name := "ytfaobjghedlfoaadoor", sum := "436f20f3b835ec81ed955574b6fe0d0eec7af792c159eadb10d20bfd53242cd4", checked := Tryd.checked }
namespace Rows
def none {H : Type} : Left H := { results := [], args := [] }

/- WHAT THE LISTED PACKAGE-LEVEL VARIABLES READ AS WHEN THE CALL BEGINS. Each datum BY PROGRAM (the guide's laid-datum.mjs) off the statement by which the dump's own 'gosem.cut.vars' lays the variable. In a bare row this is a premise. The card (YtfaobjghedlfoaaDoorCards.lean) ties it to the program's text. -/
def laid_loop_example_g00886_impl_directions {H : Type} : DataW H := .agg [.agg [.lit (.int .i64 1), .lit (.int .i64 0)], .agg [.lit (.int .i64 1), .lit (.int .i64 (-1))], .agg [.lit (.int .i64 0), .lit (.int .i64 (-1))], .agg [.lit (.int .i64 (-1)), .lit (.int .i64 0)], .agg [.lit (.int .i64 (-1)), .lit (.int .i64 1)], .agg [.lit (.int .i64 0), .lit (.int .i64 1)]]

/-- 'laws.FnExactUnitsAt': WHATEVER THE INPUT: true; the input reads as it did. -/
def fnExactUnitsAtSpec : ChangeSpec := { name := "fnExactUnitsAt", vars := ["loop.example/g00886/impl.directions"], fn := fun _ => fun
  | [d1, d2, d3, g1] => { results := [.lit (.bool true)], args := [d1, d2, d3], vars := [g1] }
  | _ => none }
def fnExactUnitsAtRow : OpenClaim := { program := "ytfaobjghedlfoaadoor", sum := "436f20f3b835ec81ed955574b6fe0d0eec7af792c159eadb10d20bfd53242cd4", func := "loop.example/g00886/laws.FnExactUnitsAt", spec := "fnExactUnitsAt", unfollowed := true, recurses := true, named := ["loop.example/g00886/impl.directions"], apart := false, laid := [("loop.example/g00886/impl.directions", laid_loop_example_g00886_impl_directions)] }
def FnExactUnitsAtSaid : Prop := fnExactUnitsAtRow.holds Tryd.pinned (OpenSpec.ofChange fnExactUnitsAtSpec)

/-- ITS FALSE NEIGHBOUR: 'it returns false'. Refute it at one input. -/
def fnExactUnitsAtWrong : ChangeSpec := { name := "fnExactUnitsAt", vars := ["loop.example/g00886/impl.directions"], fn := fun _ => fun
  | [d1, d2, d3, g1] => { results := [.lit (.bool false)], args := [d1, d2, d3], vars := [g1] }
  | _ => none }
def FnExactUnitsAtWrongFalsely : Prop := fnExactUnitsAtRow.holds Tryd.pinned (OpenSpec.ofChange fnExactUnitsAtWrong)

/-- 'laws.FnExactBestLookout': WHATEVER THE INPUT: true; the input reads as it did. -/
def fnExactBestLookoutSpec : ChangeSpec := { name := "fnExactBestLookout", vars := ["loop.example/g00886/impl.directions"], fn := fun _ => fun
  | [d1, d2, g1] => { results := [.lit (.bool true)], args := [d1, d2], vars := [g1] }
  | _ => none }
def fnExactBestLookoutRow : OpenClaim := { program := "ytfaobjghedlfoaadoor", sum := "436f20f3b835ec81ed955574b6fe0d0eec7af792c159eadb10d20bfd53242cd4", func := "loop.example/g00886/laws.FnExactBestLookout", spec := "fnExactBestLookout", unfollowed := true, recurses := true, named := ["loop.example/g00886/impl.directions"], apart := false, laid := [("loop.example/g00886/impl.directions", laid_loop_example_g00886_impl_directions)] }
def FnExactBestLookoutSaid : Prop := fnExactBestLookoutRow.holds Tryd.pinned (OpenSpec.ofChange fnExactBestLookoutSpec)

/-- ITS FALSE NEIGHBOUR: 'it returns false'. Refute it at one input. -/
def fnExactBestLookoutWrong : ChangeSpec := { name := "fnExactBestLookout", vars := ["loop.example/g00886/impl.directions"], fn := fun _ => fun
  | [d1, d2, g1] => { results := [.lit (.bool false)], args := [d1, d2], vars := [g1] }
  | _ => none }
def FnExactBestLookoutWrongFalsely : Prop := fnExactBestLookoutRow.holds Tryd.pinned (OpenSpec.ofChange fnExactBestLookoutWrong)

/-- 'laws.FnExactFarthestFrom': WHATEVER THE INPUT: true; the input reads as it did. -/
def fnExactFarthestFromSpec : ChangeSpec := { name := "fnExactFarthestFrom", vars := ["loop.example/g00886/impl.directions"], fn := fun _ => fun
  | [d1, d2, d3, d4, g1] => { results := [.lit (.bool true)], args := [d1, d2, d3, d4], vars := [g1] }
  | _ => none }
def fnExactFarthestFromRow : OpenClaim := { program := "ytfaobjghedlfoaadoor", sum := "436f20f3b835ec81ed955574b6fe0d0eec7af792c159eadb10d20bfd53242cd4", func := "loop.example/g00886/laws.FnExactFarthestFrom", spec := "fnExactFarthestFrom", unfollowed := true, recurses := true, named := ["loop.example/g00886/impl.directions"], apart := false, laid := [("loop.example/g00886/impl.directions", laid_loop_example_g00886_impl_directions)] }
def FnExactFarthestFromSaid : Prop := fnExactFarthestFromRow.holds Tryd.pinned (OpenSpec.ofChange fnExactFarthestFromSpec)

/-- ITS FALSE NEIGHBOUR: 'it returns false'. Refute it at one input. -/
def fnExactFarthestFromWrong : ChangeSpec := { name := "fnExactFarthestFrom", vars := ["loop.example/g00886/impl.directions"], fn := fun _ => fun
  | [d1, d2, d3, d4, g1] => { results := [.lit (.bool false)], args := [d1, d2, d3, d4], vars := [g1] }
  | _ => none }
def FnExactFarthestFromWrongFalsely : Prop := fnExactFarthestFromRow.holds Tryd.pinned (OpenSpec.ofChange fnExactFarthestFromWrong)

/-- 'laws.FnExactSwapSides': WHATEVER THE INPUT: true; the input reads as it did. -/
def fnExactSwapSidesSpec : ChangeSpec := { name := "fnExactSwapSides", vars := ["loop.example/g00886/impl.directions"], fn := fun _ => fun
  | [d1, d2, g1] => { results := [.lit (.bool true)], args := [d1, d2], vars := [g1] }
  | _ => none }
def fnExactSwapSidesRow : OpenClaim := { program := "ytfaobjghedlfoaadoor", sum := "436f20f3b835ec81ed955574b6fe0d0eec7af792c159eadb10d20bfd53242cd4", func := "loop.example/g00886/laws.FnExactSwapSides", spec := "fnExactSwapSides", unfollowed := true, recurses := true, named := ["loop.example/g00886/impl.directions"], apart := false, laid := [("loop.example/g00886/impl.directions", laid_loop_example_g00886_impl_directions)] }
def FnExactSwapSidesSaid : Prop := fnExactSwapSidesRow.holds Tryd.pinned (OpenSpec.ofChange fnExactSwapSidesSpec)

/-- ITS FALSE NEIGHBOUR: 'it returns false'. Refute it at one input. -/
def fnExactSwapSidesWrong : ChangeSpec := { name := "fnExactSwapSides", vars := ["loop.example/g00886/impl.directions"], fn := fun _ => fun
  | [d1, d2, g1] => { results := [.lit (.bool false)], args := [d1, d2], vars := [g1] }
  | _ => none }
def FnExactSwapSidesWrongFalsely : Prop := fnExactSwapSidesRow.holds Tryd.pinned (OpenSpec.ofChange fnExactSwapSidesWrong)

/- THE SECOND FORM. 'bulk': how many values and letters a reading holds, each counted each time it is reached (what is shared counts as often as it is met; a slice's spare places count too). A statement '..UptoSaid' is the law's where the arguments, and the package variables that the reading takes, are together of bulk at most 1048576: NARROWER than '..Said'. Prove '..Said' where nothing that the law and all that it calls make is longer than what came in: it says more and counts as full. Else prove '..UptoSaid'. A law counts once. -/
mutual
def uptoBulk {H : Type} : DataW H → Nat
  | .lit (.string bytes) => bytes.length + 1
  | .lit _ => 1
  | .nil => 1
  | .ptr d => uptoBulk d + 1
  | .slice elems spare => uptoBulkAll elems + uptoBulkAll spare + 1
  | .agg parts => uptoBulkAll parts + 1
  | .iface _ d => uptoBulk d + 1
  | .map entries => uptoBulkEntries entries + 1
  | .held _ => 1
def uptoBulkAll {H : Type} : List (DataW H) → Nat
  | [] => 0
  | d :: r => uptoBulk d + uptoBulkAll r
def uptoBulkEntries {H : Type} : List (Lit × DataW H) → Nat
  | [] => 0
  | x :: r => uptoBulkEntry x + uptoBulkEntries r
def uptoBulkEntry {H : Type} : Lit × DataW H → Nat
  | (.string bytes, d) => bytes.length + uptoBulk d + 1
  | (_, d) => uptoBulk d + 1
 end
def uptoSmall : (H : Type) → List (DataW H) → Bool := fun _ ds => decide (uptoBulkAll ds ≤ 1048576)
def OpenSpec.upto (s : _root_.Go.ChangeSpec) : _root_.Go.OpenSpec := { _root_.Go.OpenSpec.ofChange s with cond := some uptoSmall }

/-- 'laws.FnExactUnitsAt', WHERE WHAT IT READS IS OF BULK AT MOST 1048576: true; the input reads as it did. -/
def fnExactUnitsAtUptoRow : OpenClaim := { program := "ytfaobjghedlfoaadoor", sum := "436f20f3b835ec81ed955574b6fe0d0eec7af792c159eadb10d20bfd53242cd4", func := "loop.example/g00886/laws.FnExactUnitsAt", spec := "fnExactUnitsAt", unfollowed := true, recurses := true, named := ["loop.example/g00886/impl.directions"], apart := false, laid := [("loop.example/g00886/impl.directions", laid_loop_example_g00886_impl_directions)], narrowed := true }
def FnExactUnitsAtUptoSaid : Prop := fnExactUnitsAtUptoRow.holds Tryd.pinned (OpenSpec.upto fnExactUnitsAtSpec)

/-- 'laws.FnExactBestLookout', WHERE WHAT IT READS IS OF BULK AT MOST 1048576: true; the input reads as it did. -/
def fnExactBestLookoutUptoRow : OpenClaim := { program := "ytfaobjghedlfoaadoor", sum := "436f20f3b835ec81ed955574b6fe0d0eec7af792c159eadb10d20bfd53242cd4", func := "loop.example/g00886/laws.FnExactBestLookout", spec := "fnExactBestLookout", unfollowed := true, recurses := true, named := ["loop.example/g00886/impl.directions"], apart := false, laid := [("loop.example/g00886/impl.directions", laid_loop_example_g00886_impl_directions)], narrowed := true }
def FnExactBestLookoutUptoSaid : Prop := fnExactBestLookoutUptoRow.holds Tryd.pinned (OpenSpec.upto fnExactBestLookoutSpec)

/-- 'laws.FnExactFarthestFrom', WHERE WHAT IT READS IS OF BULK AT MOST 1048576: true; the input reads as it did. -/
def fnExactFarthestFromUptoRow : OpenClaim := { program := "ytfaobjghedlfoaadoor", sum := "436f20f3b835ec81ed955574b6fe0d0eec7af792c159eadb10d20bfd53242cd4", func := "loop.example/g00886/laws.FnExactFarthestFrom", spec := "fnExactFarthestFrom", unfollowed := true, recurses := true, named := ["loop.example/g00886/impl.directions"], apart := false, laid := [("loop.example/g00886/impl.directions", laid_loop_example_g00886_impl_directions)], narrowed := true }
def FnExactFarthestFromUptoSaid : Prop := fnExactFarthestFromUptoRow.holds Tryd.pinned (OpenSpec.upto fnExactFarthestFromSpec)

/-- 'laws.FnExactSwapSides', WHERE WHAT IT READS IS OF BULK AT MOST 1048576: true; the input reads as it did. -/
def fnExactSwapSidesUptoRow : OpenClaim := { program := "ytfaobjghedlfoaadoor", sum := "436f20f3b835ec81ed955574b6fe0d0eec7af792c159eadb10d20bfd53242cd4", func := "loop.example/g00886/laws.FnExactSwapSides", spec := "fnExactSwapSides", unfollowed := true, recurses := true, named := ["loop.example/g00886/impl.directions"], apart := false, laid := [("loop.example/g00886/impl.directions", laid_loop_example_g00886_impl_directions)], narrowed := true }
def FnExactSwapSidesUptoSaid : Prop := fnExactSwapSidesUptoRow.holds Tryd.pinned (OpenSpec.upto fnExactSwapSidesSpec)

end Rows
end Go.Proofs.YtfaobjghedlfoaaDoor
