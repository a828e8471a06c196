/-
  NARROWER THAN 'FOR EVERY INPUT', by the rows' own cells (each row's printed sentence says how): FnExactPathHexes: laid · FnExactCostliestStep: laid · FnExactCheapestStep: laid · FnExactStepsWithin: laid · FnExactReversePath: laid.
  DERIVED. THE GIVEN ROWS OF THIS SEAT. 5 by the template 'for every input the law returns true; each argument reads behind the call as it read before'; 0 by the template 'total and deterministic' (their statements: YtlnfcafoandngaaDoorTotals.lean).
  GIVEN WITH THE SEED: the statements are not yours to turn. If you find one false, say at which input.
  Laid BY PROGRAM, IN A SANDBOX (cutbox-rows.mjs): the forced cells as the released guide's own fill.sh prints them over the translation cdf579d7e8124d0d… (all of the seat's roots in one cut). By AI agents, Wed Nov 11 2026. No macro, syntax, notation, axiom, sorry.
-/
import Derived.Test.YtlnfcafoandngaaDoorChecked
import GoSem.Claim
import GoSem.ClaimJoined
import GoSem.ClaimMapViews
import Derived.JoinedTies
import Derived.KernelRfl
namespace Go.Proofs.YtlnfcafoandngaaDoor
/- THE CELL 'sum', in the pinned program and in every row, IS THE sha256 OF THE DUMP (.gsa) THAT YtlnfcafoandngaaDoorProg.lean LOADS. Nothing in Lean hashes anything: it is a label: what it is worth is what the hold of that sum in a sandbox is worth. -/
noncomputable def Tryd.pinned : Pinned := { name := "ytlnfcafoandngaadoor", sum := "cdf579d7e8124d0d3ee69d3593c4418db1b6586fcb4be0510058a117d4b4f114", checked := Tryd.checked }
namespace Rows
def none {H : Type} : Left H := { results := [], args := [] }

/- WHAT THE LISTED PACKAGE-LEVEL VARIABLES READ AS WHEN THE CALL BEGINS. Each datum BY PROGRAM (the guide's laid-datum.mjs) off the statement by which the dump's own 'gosem.cut.vars' lays the variable. In a bare row this is a premise. The card (YtlnfcafoandngaaDoorCards.lean) ties it to the program's text. -/
def laid_loop_example_g00886_impl_directions {H : Type} : DataW H := .agg [.agg [.lit (.int .i64 1), .lit (.int .i64 0)], .agg [.lit (.int .i64 1), .lit (.int .i64 (-1))], .agg [.lit (.int .i64 0), .lit (.int .i64 (-1))], .agg [.lit (.int .i64 (-1)), .lit (.int .i64 0)], .agg [.lit (.int .i64 (-1)), .lit (.int .i64 1)], .agg [.lit (.int .i64 0), .lit (.int .i64 1)]]

/-- 'laws.FnExactPathHexes': WHATEVER THE INPUT: true; the input reads as it did. -/
def fnExactPathHexesSpec : ChangeSpec := { name := "fnExactPathHexes", vars := ["loop.example/g00886/impl.directions"], fn := fun _ => fun
  | [d1, d2, d3, g1] => { results := [.lit (.bool true)], args := [d1, d2, d3], vars := [g1] }
  | _ => none }
def fnExactPathHexesRow : OpenClaim := { program := "ytlnfcafoandngaadoor", sum := "cdf579d7e8124d0d3ee69d3593c4418db1b6586fcb4be0510058a117d4b4f114", func := "loop.example/g00886/laws.FnExactPathHexes", spec := "fnExactPathHexes", unfollowed := true, recurses := true, named := ["loop.example/g00886/impl.directions"], apart := false, laid := [("loop.example/g00886/impl.directions", laid_loop_example_g00886_impl_directions)] }
def FnExactPathHexesSaid : Prop := fnExactPathHexesRow.holds Tryd.pinned (OpenSpec.ofChange fnExactPathHexesSpec)

/-- ITS FALSE NEIGHBOUR: 'it returns false'. Refute it at one input. -/
def fnExactPathHexesWrong : ChangeSpec := { name := "fnExactPathHexes", vars := ["loop.example/g00886/impl.directions"], fn := fun _ => fun
  | [d1, d2, d3, g1] => { results := [.lit (.bool false)], args := [d1, d2, d3], vars := [g1] }
  | _ => none }
def FnExactPathHexesWrongFalsely : Prop := fnExactPathHexesRow.holds Tryd.pinned (OpenSpec.ofChange fnExactPathHexesWrong)

/-- 'laws.FnExactCostliestStep': WHATEVER THE INPUT: true; the input reads as it did. -/
def fnExactCostliestStepSpec : ChangeSpec := { name := "fnExactCostliestStep", vars := ["loop.example/g00886/impl.directions"], fn := fun _ => fun
  | [d1, d2, d3, g1] => { results := [.lit (.bool true)], args := [d1, d2, d3], vars := [g1] }
  | _ => none }
def fnExactCostliestStepRow : OpenClaim := { program := "ytlnfcafoandngaadoor", sum := "cdf579d7e8124d0d3ee69d3593c4418db1b6586fcb4be0510058a117d4b4f114", func := "loop.example/g00886/laws.FnExactCostliestStep", spec := "fnExactCostliestStep", unfollowed := true, recurses := true, named := ["loop.example/g00886/impl.directions"], apart := false, laid := [("loop.example/g00886/impl.directions", laid_loop_example_g00886_impl_directions)] }
def FnExactCostliestStepSaid : Prop := fnExactCostliestStepRow.holds Tryd.pinned (OpenSpec.ofChange fnExactCostliestStepSpec)

/-- ITS FALSE NEIGHBOUR: 'it returns false'. Refute it at one input. -/
def fnExactCostliestStepWrong : ChangeSpec := { name := "fnExactCostliestStep", vars := ["loop.example/g00886/impl.directions"], fn := fun _ => fun
  | [d1, d2, d3, g1] => { results := [.lit (.bool false)], args := [d1, d2, d3], vars := [g1] }
  | _ => none }
def FnExactCostliestStepWrongFalsely : Prop := fnExactCostliestStepRow.holds Tryd.pinned (OpenSpec.ofChange fnExactCostliestStepWrong)

/-- 'laws.FnExactCheapestStep': WHATEVER THE INPUT: true; the input reads as it did. -/
def fnExactCheapestStepSpec : ChangeSpec := { name := "fnExactCheapestStep", vars := ["loop.example/g00886/impl.directions"], fn := fun _ => fun
  | [d1, d2, d3, d4, g1] => { results := [.lit (.bool true)], args := [d1, d2, d3, d4], vars := [g1] }
  | _ => none }
def fnExactCheapestStepRow : OpenClaim := { program := "ytlnfcafoandngaadoor", sum := "cdf579d7e8124d0d3ee69d3593c4418db1b6586fcb4be0510058a117d4b4f114", func := "loop.example/g00886/laws.FnExactCheapestStep", spec := "fnExactCheapestStep", unfollowed := true, recurses := true, named := ["loop.example/g00886/impl.directions"], apart := false, laid := [("loop.example/g00886/impl.directions", laid_loop_example_g00886_impl_directions)] }
def FnExactCheapestStepSaid : Prop := fnExactCheapestStepRow.holds Tryd.pinned (OpenSpec.ofChange fnExactCheapestStepSpec)

/-- ITS FALSE NEIGHBOUR: 'it returns false'. Refute it at one input. -/
def fnExactCheapestStepWrong : ChangeSpec := { name := "fnExactCheapestStep", vars := ["loop.example/g00886/impl.directions"], fn := fun _ => fun
  | [d1, d2, d3, d4, g1] => { results := [.lit (.bool false)], args := [d1, d2, d3, d4], vars := [g1] }
  | _ => none }
def FnExactCheapestStepWrongFalsely : Prop := fnExactCheapestStepRow.holds Tryd.pinned (OpenSpec.ofChange fnExactCheapestStepWrong)

/-- 'laws.FnExactStepsWithin': WHATEVER THE INPUT: true; the input reads as it did. -/
def fnExactStepsWithinSpec : ChangeSpec := { name := "fnExactStepsWithin", vars := ["loop.example/g00886/impl.directions"], fn := fun _ => fun
  | [d1, d2, d3, d4, d5, d6, g1] => { results := [.lit (.bool true)], args := [d1, d2, d3, d4, d5, d6], vars := [g1] }
  | _ => none }
def fnExactStepsWithinRow : OpenClaim := { program := "ytlnfcafoandngaadoor", sum := "cdf579d7e8124d0d3ee69d3593c4418db1b6586fcb4be0510058a117d4b4f114", func := "loop.example/g00886/laws.FnExactStepsWithin", spec := "fnExactStepsWithin", unfollowed := true, recurses := true, named := ["loop.example/g00886/impl.directions"], apart := false, laid := [("loop.example/g00886/impl.directions", laid_loop_example_g00886_impl_directions)] }
def FnExactStepsWithinSaid : Prop := fnExactStepsWithinRow.holds Tryd.pinned (OpenSpec.ofChange fnExactStepsWithinSpec)

/-- ITS FALSE NEIGHBOUR: 'it returns false'. Refute it at one input. -/
def fnExactStepsWithinWrong : ChangeSpec := { name := "fnExactStepsWithin", vars := ["loop.example/g00886/impl.directions"], fn := fun _ => fun
  | [d1, d2, d3, d4, d5, d6, g1] => { results := [.lit (.bool false)], args := [d1, d2, d3, d4, d5, d6], vars := [g1] }
  | _ => none }
def FnExactStepsWithinWrongFalsely : Prop := fnExactStepsWithinRow.holds Tryd.pinned (OpenSpec.ofChange fnExactStepsWithinWrong)

/-- 'laws.FnExactReversePath': WHATEVER THE INPUT: true; the input reads as it did. -/
def fnExactReversePathSpec : ChangeSpec := { name := "fnExactReversePath", vars := ["loop.example/g00886/impl.directions"], fn := fun _ => fun
  | [d1, d2, d3, g1] => { results := [.lit (.bool true)], args := [d1, d2, d3], vars := [g1] }
  | _ => none }
def fnExactReversePathRow : OpenClaim := { program := "ytlnfcafoandngaadoor", sum := "cdf579d7e8124d0d3ee69d3593c4418db1b6586fcb4be0510058a117d4b4f114", func := "loop.example/g00886/laws.FnExactReversePath", spec := "fnExactReversePath", unfollowed := true, recurses := true, named := ["loop.example/g00886/impl.directions"], apart := false, laid := [("loop.example/g00886/impl.directions", laid_loop_example_g00886_impl_directions)] }
def FnExactReversePathSaid : Prop := fnExactReversePathRow.holds Tryd.pinned (OpenSpec.ofChange fnExactReversePathSpec)

/-- ITS FALSE NEIGHBOUR: 'it returns false'. Refute it at one input. -/
def fnExactReversePathWrong : ChangeSpec := { name := "fnExactReversePath", vars := ["loop.example/g00886/impl.directions"], fn := fun _ => fun
  | [d1, d2, d3, g1] => { results := [.lit (.bool false)], args := [d1, d2, d3], vars := [g1] }
  | _ => none }
def FnExactReversePathWrongFalsely : Prop := fnExactReversePathRow.holds Tryd.pinned (OpenSpec.ofChange fnExactReversePathWrong)

/- THE SECOND FORM. 'bulk': how many values and letters a reading holds, each counted each time it is reached (what is shared counts as often as it is met; a slice's spare places count too). A statement '..UptoSaid' is the law's where the arguments, and the package variables that the reading takes, are together of bulk at most 1048576: NARROWER than '..Said'. Prove '..Said' where nothing that the law and all that it calls make is longer than what came in: it says more and counts as full. Else prove '..UptoSaid'. A law counts once. -/
mutual
def uptoBulk {H : Type} : DataW H → Nat
  | .lit (.string bytes) => bytes.length + 1
  | .lit _ => 1
  | .nil => 1
  | .ptr d => uptoBulk d + 1
  | .slice elems spare => uptoBulkAll elems + uptoBulkAll spare + 1
  | .agg parts => uptoBulkAll parts + 1
  | .iface _ d => uptoBulk d + 1
  | .map entries => uptoBulkEntries entries + 1
  | .held _ => 1
def uptoBulkAll {H : Type} : List (DataW H) → Nat
  | [] => 0
  | d :: r => uptoBulk d + uptoBulkAll r
def uptoBulkEntries {H : Type} : List (Lit × DataW H) → Nat
  | [] => 0
  | x :: r => uptoBulkEntry x + uptoBulkEntries r
def uptoBulkEntry {H : Type} : Lit × DataW H → Nat
  | (.string bytes, d) => bytes.length + uptoBulk d + 1
  | (_, d) => uptoBulk d + 1
 end
def uptoSmall : (H : Type) → List (DataW H) → Bool := fun _ ds => decide (uptoBulkAll ds ≤ 1048576)
def OpenSpec.upto (s : _root_.Go.ChangeSpec) : _root_.Go.OpenSpec := { _root_.Go.OpenSpec.ofChange s with cond := some uptoSmall }

/-- 'laws.FnExactPathHexes', WHERE WHAT IT READS IS OF BULK AT MOST 1048576: true; the input reads as it did. -/
def fnExactPathHexesUptoRow : OpenClaim := { program := "ytlnfcafoandngaadoor", sum := "cdf579d7e8124d0d3ee69d3593c4418db1b6586fcb4be0510058a117d4b4f114", func := "loop.example/g00886/laws.FnExactPathHexes", spec := "fnExactPathHexes", unfollowed := true, recurses := true, named := ["loop.example/g00886/impl.directions"], apart := false, laid := [("loop.example/g00886/impl.directions", laid_loop_example_g00886_impl_directions)], narrowed := true }
def FnExactPathHexesUptoSaid : Prop := fnExactPathHexesUptoRow.holds Tryd.pinned (OpenSpec.upto fnExactPathHexesSpec)

/-- 'laws.FnExactCostliestStep', WHERE WHAT IT READS IS OF BULK AT MOST 1048576: true; the input reads as it did. -/
def fnExactCostliestStepUptoRow : OpenClaim := { program := "ytlnfcafoandngaadoor", sum := "cdf579d7e8124d0d3ee69d3593c4418db1b6586fcb4be0510058a117d4b4f114", func := "loop.example/g00886/laws.FnExactCostliestStep", spec := "fnExactCostliestStep", unfollowed := true, recurses := true, named := ["loop.example/g00886/impl.directions"], apart := false, laid := [("loop.example/g00886/impl.directions", laid_loop_example_g00886_impl_directions)], narrowed := true }
def FnExactCostliestStepUptoSaid : Prop := fnExactCostliestStepUptoRow.holds Tryd.pinned (OpenSpec.upto fnExactCostliestStepSpec)

/-- 'laws.FnExactCheapestStep', WHERE WHAT IT READS IS OF BULK AT MOST 1048576: true; the input reads as it did. -/
def fnExactCheapestStepUptoRow : OpenClaim := { program := "ytlnfcafoandngaadoor", sum := "cdf579d7e8124d0d3ee69d3593c4418db1b6586fcb4be0510058a117d4b4f114", func := "loop.example/g00886/laws.FnExactCheapestStep", spec := "fnExactCheapestStep", unfollowed := true, recurses := true, named := ["loop.example/g00886/impl.directions"], apart := false, laid := [("loop.example/g00886/impl.directions", laid_loop_example_g00886_impl_directions)], narrowed := true }
def FnExactCheapestStepUptoSaid : Prop := fnExactCheapestStepUptoRow.holds Tryd.pinned (OpenSpec.upto fnExactCheapestStepSpec)

/-- 'laws.FnExactStepsWithin', WHERE WHAT IT READS IS OF BULK AT MOST 1048576: true; the input reads as it did. -/
def fnExactStepsWithinUptoRow : OpenClaim := { program := "ytlnfcafoandngaadoor", sum := "cdf579d7e8124d0d3ee69d3593c4418db1b6586fcb4be0510058a117d4b4f114", func := "loop.example/g00886/laws.FnExactStepsWithin", spec := "fnExactStepsWithin", unfollowed := true, recurses := true, named := ["loop.example/g00886/impl.directions"], apart := false, laid := [("loop.example/g00886/impl.directions", laid_loop_example_g00886_impl_directions)], narrowed := true }
def FnExactStepsWithinUptoSaid : Prop := fnExactStepsWithinUptoRow.holds Tryd.pinned (OpenSpec.upto fnExactStepsWithinSpec)

/-- 'laws.FnExactReversePath', WHERE WHAT IT READS IS OF BULK AT MOST 1048576: true; the input reads as it did. -/
def fnExactReversePathUptoRow : OpenClaim := { program := "ytlnfcafoandngaadoor", sum := "cdf579d7e8124d0d3ee69d3593c4418db1b6586fcb4be0510058a117d4b4f114", func := "loop.example/g00886/laws.FnExactReversePath", spec := "fnExactReversePath", unfollowed := true, recurses := true, named := ["loop.example/g00886/impl.directions"], apart := false, laid := [("loop.example/g00886/impl.directions", laid_loop_example_g00886_impl_directions)], narrowed := true }
def FnExactReversePathUptoSaid : Prop := fnExactReversePathUptoRow.holds Tryd.pinned (OpenSpec.upto fnExactReversePathSpec)

end Rows
end Go.Proofs.YtlnfcafoandngaaDoor
