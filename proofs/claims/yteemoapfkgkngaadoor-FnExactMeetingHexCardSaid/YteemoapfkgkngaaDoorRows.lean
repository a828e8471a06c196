/-
  NARROWER THAN 'FOR EVERY INPUT', by the rows' own cells (each row's printed sentence says how): FnExactStepCosts: laid · FnExactFirstBlock: laid · FnExactMeetingHex: laid · FnExactSightCode: laid.
  DERIVED. THE GIVEN ROWS OF THIS SEAT. 4 by the template 'for every input the law returns true; each argument reads behind the call as it read before'; 0 by the template 'total and deterministic' (their statements: YteemoapfkgkngaaDoorTotals.lean).
  GIVEN WITH THE SEED: the statements are not yours to turn. If you find one false, say at which input.
  Laid BY PROGRAM, IN A SANDBOX (cutbox-rows.mjs): the forced cells as the released guide's own fill.sh prints them over the translation f2d950ef95fc985f… (all of the seat's roots in one cut). By AI agents, Wed Nov 11 2026. No macro, syntax, notation, axiom, sorry.
-/
import Derived.Test.YteemoapfkgkngaaDoorChecked
import GoSem.Claim
import GoSem.ClaimJoined
import GoSem.ClaimMapViews
import Derived.JoinedTies
import Derived.KernelRfl
namespace Go.Proofs.YteemoapfkgkngaaDoor
/- THE CELL 'sum', in the pinned program and in every row, IS THE sha256 OF THE DUMP (.gsa) THAT YteemoapfkgkngaaDoorProg.lean LOADS. Nothing in Lean hashes anything: it is a label: what it is worth is what the hold of that sum in a sandbox is worth. -/
noncomputable def Tryd.pinned : Pinned := { name := "yteemoapfkgkngaadoor", sum := "f2d950ef95fc985ff2c84d8b7376a20b86460cdc571a24f3897378b39103ed87", checked := Tryd.checked }
namespace Rows
def none {H : Type} : Left H := { results := [], args := [] }

/- WHAT THE LISTED PACKAGE-LEVEL VARIABLES READ AS WHEN THE CALL BEGINS. Each datum BY PROGRAM (the guide's laid-datum.mjs) off the statement by which the dump's own 'gosem.cut.vars' lays the variable. In a bare row this is a premise. The card (YteemoapfkgkngaaDoorCards.lean) ties it to the program's text. -/
def laid_loop_example_g00886_impl_directions {H : Type} : DataW H := .agg [.agg [.lit (.int .i64 1), .lit (.int .i64 0)], .agg [.lit (.int .i64 1), .lit (.int .i64 (-1))], .agg [.lit (.int .i64 0), .lit (.int .i64 (-1))], .agg [.lit (.int .i64 (-1)), .lit (.int .i64 0)], .agg [.lit (.int .i64 (-1)), .lit (.int .i64 1)], .agg [.lit (.int .i64 0), .lit (.int .i64 1)]]

/-- 'laws.FnExactStepCosts': WHATEVER THE INPUT: true; the input reads as it did. -/
def fnExactStepCostsSpec : ChangeSpec := { name := "fnExactStepCosts", vars := ["loop.example/g00886/impl.directions"], fn := fun _ => fun
  | [d1, d2, d3, d4, g1] => { results := [.lit (.bool true)], args := [d1, d2, d3, d4], vars := [g1] }
  | _ => none }
def fnExactStepCostsRow : OpenClaim := { program := "yteemoapfkgkngaadoor", sum := "f2d950ef95fc985ff2c84d8b7376a20b86460cdc571a24f3897378b39103ed87", func := "loop.example/g00886/laws.FnExactStepCosts", spec := "fnExactStepCosts", unfollowed := true, recurses := true, named := ["loop.example/g00886/impl.directions"], apart := false, laid := [("loop.example/g00886/impl.directions", laid_loop_example_g00886_impl_directions)] }
def FnExactStepCostsSaid : Prop := fnExactStepCostsRow.holds Tryd.pinned (OpenSpec.ofChange fnExactStepCostsSpec)

/-- ITS FALSE NEIGHBOUR: 'it returns false'. Refute it at one input. -/
def fnExactStepCostsWrong : ChangeSpec := { name := "fnExactStepCosts", vars := ["loop.example/g00886/impl.directions"], fn := fun _ => fun
  | [d1, d2, d3, d4, g1] => { results := [.lit (.bool false)], args := [d1, d2, d3, d4], vars := [g1] }
  | _ => none }
def FnExactStepCostsWrongFalsely : Prop := fnExactStepCostsRow.holds Tryd.pinned (OpenSpec.ofChange fnExactStepCostsWrong)

/-- 'laws.FnExactFirstBlock': WHATEVER THE INPUT: true; the input reads as it did. -/
def fnExactFirstBlockSpec : ChangeSpec := { name := "fnExactFirstBlock", vars := ["loop.example/g00886/impl.directions"], fn := fun _ => fun
  | [d1, d2, d3, g1] => { results := [.lit (.bool true)], args := [d1, d2, d3], vars := [g1] }
  | _ => none }
def fnExactFirstBlockRow : OpenClaim := { program := "yteemoapfkgkngaadoor", sum := "f2d950ef95fc985ff2c84d8b7376a20b86460cdc571a24f3897378b39103ed87", func := "loop.example/g00886/laws.FnExactFirstBlock", spec := "fnExactFirstBlock", unfollowed := true, recurses := true, named := ["loop.example/g00886/impl.directions"], apart := false, laid := [("loop.example/g00886/impl.directions", laid_loop_example_g00886_impl_directions)] }
def FnExactFirstBlockSaid : Prop := fnExactFirstBlockRow.holds Tryd.pinned (OpenSpec.ofChange fnExactFirstBlockSpec)

/-- ITS FALSE NEIGHBOUR: 'it returns false'. Refute it at one input. -/
def fnExactFirstBlockWrong : ChangeSpec := { name := "fnExactFirstBlock", vars := ["loop.example/g00886/impl.directions"], fn := fun _ => fun
  | [d1, d2, d3, g1] => { results := [.lit (.bool false)], args := [d1, d2, d3], vars := [g1] }
  | _ => none }
def FnExactFirstBlockWrongFalsely : Prop := fnExactFirstBlockRow.holds Tryd.pinned (OpenSpec.ofChange fnExactFirstBlockWrong)

/-- 'laws.FnExactMeetingHex': WHATEVER THE INPUT: true; the input reads as it did. -/
def fnExactMeetingHexSpec : ChangeSpec := { name := "fnExactMeetingHex", vars := ["loop.example/g00886/impl.directions"], fn := fun _ => fun
  | [d1, d2, d3, d4, d5, g1] => { results := [.lit (.bool true)], args := [d1, d2, d3, d4, d5], vars := [g1] }
  | _ => none }
def fnExactMeetingHexRow : OpenClaim := { program := "yteemoapfkgkngaadoor", sum := "f2d950ef95fc985ff2c84d8b7376a20b86460cdc571a24f3897378b39103ed87", func := "loop.example/g00886/laws.FnExactMeetingHex", spec := "fnExactMeetingHex", unfollowed := true, recurses := true, named := ["loop.example/g00886/impl.directions"], apart := false, laid := [("loop.example/g00886/impl.directions", laid_loop_example_g00886_impl_directions)] }
def FnExactMeetingHexSaid : Prop := fnExactMeetingHexRow.holds Tryd.pinned (OpenSpec.ofChange fnExactMeetingHexSpec)

/-- ITS FALSE NEIGHBOUR: 'it returns false'. Refute it at one input. -/
def fnExactMeetingHexWrong : ChangeSpec := { name := "fnExactMeetingHex", vars := ["loop.example/g00886/impl.directions"], fn := fun _ => fun
  | [d1, d2, d3, d4, d5, g1] => { results := [.lit (.bool false)], args := [d1, d2, d3, d4, d5], vars := [g1] }
  | _ => none }
def FnExactMeetingHexWrongFalsely : Prop := fnExactMeetingHexRow.holds Tryd.pinned (OpenSpec.ofChange fnExactMeetingHexWrong)

/-- 'laws.FnExactSightCode': WHATEVER THE INPUT: true; the input reads as it did. -/
def fnExactSightCodeSpec : ChangeSpec := { name := "fnExactSightCode", vars := ["loop.example/g00886/impl.directions"], fn := fun _ => fun
  | [d1, d2, d3, g1] => { results := [.lit (.bool true)], args := [d1, d2, d3], vars := [g1] }
  | _ => none }
def fnExactSightCodeRow : OpenClaim := { program := "yteemoapfkgkngaadoor", sum := "f2d950ef95fc985ff2c84d8b7376a20b86460cdc571a24f3897378b39103ed87", func := "loop.example/g00886/laws.FnExactSightCode", spec := "fnExactSightCode", unfollowed := true, recurses := true, named := ["loop.example/g00886/impl.directions"], apart := false, laid := [("loop.example/g00886/impl.directions", laid_loop_example_g00886_impl_directions)] }
def FnExactSightCodeSaid : Prop := fnExactSightCodeRow.holds Tryd.pinned (OpenSpec.ofChange fnExactSightCodeSpec)

/-- ITS FALSE NEIGHBOUR: 'it returns false'. Refute it at one input. -/
def fnExactSightCodeWrong : ChangeSpec := { name := "fnExactSightCode", vars := ["loop.example/g00886/impl.directions"], fn := fun _ => fun
  | [d1, d2, d3, g1] => { results := [.lit (.bool false)], args := [d1, d2, d3], vars := [g1] }
  | _ => none }
def FnExactSightCodeWrongFalsely : Prop := fnExactSightCodeRow.holds Tryd.pinned (OpenSpec.ofChange fnExactSightCodeWrong)

/- THE SECOND FORM. 'bulk': how many values and letters a reading holds, each counted each time it is reached (what is shared counts as often as it is met; a slice's spare places count too). A statement '..UptoSaid' is the law's where the arguments, and the package variables that the reading takes, are together of bulk at most 1048576: NARROWER than '..Said'. Prove '..Said' where nothing that the law and all that it calls make is longer than what came in: it says more and counts as full. Else prove '..UptoSaid'. A law counts once. -/
mutual
def uptoBulk {H : Type} : DataW H → Nat
  | .lit (.string bytes) => bytes.length + 1
  | .lit _ => 1
  | .nil => 1
  | .ptr d => uptoBulk d + 1
  | .slice elems spare => uptoBulkAll elems + uptoBulkAll spare + 1
  | .agg parts => uptoBulkAll parts + 1
  | .iface _ d => uptoBulk d + 1
  | .map entries => uptoBulkEntries entries + 1
  | .held _ => 1
def uptoBulkAll {H : Type} : List (DataW H) → Nat
  | [] => 0
  | d :: r => uptoBulk d + uptoBulkAll r
def uptoBulkEntries {H : Type} : List (Lit × DataW H) → Nat
  | [] => 0
  | x :: r => uptoBulkEntry x + uptoBulkEntries r
def uptoBulkEntry {H : Type} : Lit × DataW H → Nat
  | (.string bytes, d) => bytes.length + uptoBulk d + 1
  | (_, d) => uptoBulk d + 1
 end
def uptoSmall : (H : Type) → List (DataW H) → Bool := fun _ ds => decide (uptoBulkAll ds ≤ 1048576)
def OpenSpec.upto (s : _root_.Go.ChangeSpec) : _root_.Go.OpenSpec := { _root_.Go.OpenSpec.ofChange s with cond := some uptoSmall }

/-- 'laws.FnExactStepCosts', WHERE WHAT IT READS IS OF BULK AT MOST 1048576: true; the input reads as it did. -/
def fnExactStepCostsUptoRow : OpenClaim := { program := "yteemoapfkgkngaadoor", sum := "f2d950ef95fc985ff2c84d8b7376a20b86460cdc571a24f3897378b39103ed87", func := "loop.example/g00886/laws.FnExactStepCosts", spec := "fnExactStepCosts", unfollowed := true, recurses := true, named := ["loop.example/g00886/impl.directions"], apart := false, laid := [("loop.example/g00886/impl.directions", laid_loop_example_g00886_impl_directions)], narrowed := true }
def FnExactStepCostsUptoSaid : Prop := fnExactStepCostsUptoRow.holds Tryd.pinned (OpenSpec.upto fnExactStepCostsSpec)

/-- 'laws.FnExactFirstBlock', WHERE WHAT IT READS IS OF BULK AT MOST 1048576: true; the input reads as it did. -/
def fnExactFirstBlockUptoRow : OpenClaim := { program := "yteemoapfkgkngaadoor", sum := "f2d950ef95fc985ff2c84d8b7376a20b86460cdc571a24f3897378b39103ed87", func := "loop.example/g00886/laws.FnExactFirstBlock", spec := "fnExactFirstBlock", unfollowed := true, recurses := true, named := ["loop.example/g00886/impl.directions"], apart := false, laid := [("loop.example/g00886/impl.directions", laid_loop_example_g00886_impl_directions)], narrowed := true }
def FnExactFirstBlockUptoSaid : Prop := fnExactFirstBlockUptoRow.holds Tryd.pinned (OpenSpec.upto fnExactFirstBlockSpec)

/-- 'laws.FnExactMeetingHex', WHERE WHAT IT READS IS OF BULK AT MOST 1048576: true; the input reads as it did. -/
def fnExactMeetingHexUptoRow : OpenClaim := { program := "yteemoapfkgkngaadoor", sum := "f2d950ef95fc985ff2c84d8b7376a20b86460cdc571a24f3897378b39103ed87", func := "loop.example/g00886/laws.FnExactMeetingHex", spec := "fnExactMeetingHex", unfollowed := true, recurses := true, named := ["loop.example/g00886/impl.directions"], apart := false, laid := [("loop.example/g00886/impl.directions", laid_loop_example_g00886_impl_directions)], narrowed := true }
def FnExactMeetingHexUptoSaid : Prop := fnExactMeetingHexUptoRow.holds Tryd.pinned (OpenSpec.upto fnExactMeetingHexSpec)

/-- 'laws.FnExactSightCode', WHERE WHAT IT READS IS OF BULK AT MOST 1048576: true; the input reads as it did. -/
def fnExactSightCodeUptoRow : OpenClaim := { program := "yteemoapfkgkngaadoor", sum := "f2d950ef95fc985ff2c84d8b7376a20b86460cdc571a24f3897378b39103ed87", func := "loop.example/g00886/laws.FnExactSightCode", spec := "fnExactSightCode", unfollowed := true, recurses := true, named := ["loop.example/g00886/impl.directions"], apart := false, laid := [("loop.example/g00886/impl.directions", laid_loop_example_g00886_impl_directions)], narrowed := true }
def FnExactSightCodeUptoSaid : Prop := fnExactSightCodeUptoRow.holds Tryd.pinned (OpenSpec.upto fnExactSightCodeSpec)

end Rows
end Go.Proofs.YteemoapfkgkngaaDoor
