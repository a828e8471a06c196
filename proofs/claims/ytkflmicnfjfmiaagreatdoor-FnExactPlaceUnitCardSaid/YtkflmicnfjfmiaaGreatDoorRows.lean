/-
  NARROWER THAN 'FOR EVERY INPUT', by the rows' own cells (each row's printed sentence says how): FnExactPlaceUnit: laid · FnExactLoseSteps: laid · FnExactClearFrom: laid · FnExactSeenFrom: laid · FnExactSeenBy: laid.
  DERIVED. THE GIVEN ROWS OF THIS SEAT. 5 by the template 'for every input the law returns true; each argument reads behind the call as it read before'; 0 by the template 'total and deterministic' (their statements: YtkflmicnfjfmiaaGreatDoorTotals.lean).
  GIVEN WITH THE SEED: the statements are not yours to turn. If you find one false, say at which input.
  Laid BY PROGRAM, IN A SANDBOX (cutbox-rows.mjs): the forced cells as the released guide's own fill.sh prints them over the translation c9d9f82d5233be5c… (all of the seat's roots in one cut). By AI agents, Wed Nov 11 2026. No macro, syntax, notation, axiom, sorry.
-/
import Derived.Test.YtkflmicnfjfmiaaGreatDoorChecked
import GoSem.Claim
import GoSem.ClaimJoined
import GoSem.ClaimMapViews
import Derived.JoinedTies
import Derived.KernelRfl
namespace Go.Proofs.YtkflmicnfjfmiaaGreatDoor
/- THE CELL 'sum', in the pinned program and in every row, IS THE sha256 OF THE DUMP (.gsa) THAT YtkflmicnfjfmiaaGreatDoorProg.lean LOADS. Nothing in Lean hashes anything: it is a label: what it is worth is what the hold of that sum in a sandbox is worth. -/
noncomputable def Tryz.pinned : Pinned := { name := "ytkflmicnfjfmiaagreatdoor", sum := "c9d9f82d5233be5c883e4cfb8c1df0335d1b4c231b67dd89a3e08afccb51bfee", checked := Tryz.checked }
namespace Rows
def none {H : Type} : Left H := { results := [], args := [] }

/- WHAT THE LISTED PACKAGE-LEVEL VARIABLES READ AS WHEN THE CALL BEGINS. Each datum BY PROGRAM (the guide's laid-datum.mjs) off the statement by which the dump's own 'gosem.cut.vars' lays the variable. In a bare row this is a premise. The card (YtkflmicnfjfmiaaGreatDoorCards.lean) ties it to the program's text. -/
def laid_loop_example_g00886_impl_directions {H : Type} : DataW H := .agg [.agg [.lit (.int .i64 1), .lit (.int .i64 0)], .agg [.lit (.int .i64 1), .lit (.int .i64 (-1))], .agg [.lit (.int .i64 0), .lit (.int .i64 (-1))], .agg [.lit (.int .i64 (-1)), .lit (.int .i64 0)], .agg [.lit (.int .i64 (-1)), .lit (.int .i64 1)], .agg [.lit (.int .i64 0), .lit (.int .i64 1)]]

/-- 'laws.FnExactPlaceUnit': WHATEVER THE INPUT: true; the input reads as it did. -/
def fnExactPlaceUnitSpec : ChangeSpec := { name := "fnExactPlaceUnit", vars := ["loop.example/g00886/impl.directions"], fn := fun _ => fun
  | [d1, d2, d3, d4, g1] => { results := [.lit (.bool true)], args := [d1, d2, d3, d4], vars := [g1] }
  | _ => none }
def fnExactPlaceUnitRow : OpenClaim := { program := "ytkflmicnfjfmiaagreatdoor", sum := "c9d9f82d5233be5c883e4cfb8c1df0335d1b4c231b67dd89a3e08afccb51bfee", func := "loop.example/g00886/laws.FnExactPlaceUnit", spec := "fnExactPlaceUnit", unfollowed := true, recurses := true, named := ["loop.example/g00886/impl.directions"], apart := false, laid := [("loop.example/g00886/impl.directions", laid_loop_example_g00886_impl_directions)] }
def FnExactPlaceUnitSaid : Prop := fnExactPlaceUnitRow.holds Tryz.pinned (OpenSpec.ofChange fnExactPlaceUnitSpec)

/-- ITS FALSE NEIGHBOUR: 'it returns false'. Refute it at one input. -/
def fnExactPlaceUnitWrong : ChangeSpec := { name := "fnExactPlaceUnit", vars := ["loop.example/g00886/impl.directions"], fn := fun _ => fun
  | [d1, d2, d3, d4, g1] => { results := [.lit (.bool false)], args := [d1, d2, d3, d4], vars := [g1] }
  | _ => none }
def FnExactPlaceUnitWrongFalsely : Prop := fnExactPlaceUnitRow.holds Tryz.pinned (OpenSpec.ofChange fnExactPlaceUnitWrong)

/-- 'laws.FnExactLoseSteps': WHATEVER THE INPUT: true; the input reads as it did. -/
def fnExactLoseStepsSpec : ChangeSpec := { name := "fnExactLoseSteps", vars := ["loop.example/g00886/impl.directions"], fn := fun _ => fun
  | [d1, d2, d3, d4, g1] => { results := [.lit (.bool true)], args := [d1, d2, d3, d4], vars := [g1] }
  | _ => none }
def fnExactLoseStepsRow : OpenClaim := { program := "ytkflmicnfjfmiaagreatdoor", sum := "c9d9f82d5233be5c883e4cfb8c1df0335d1b4c231b67dd89a3e08afccb51bfee", func := "loop.example/g00886/laws.FnExactLoseSteps", spec := "fnExactLoseSteps", unfollowed := true, recurses := true, named := ["loop.example/g00886/impl.directions"], apart := false, laid := [("loop.example/g00886/impl.directions", laid_loop_example_g00886_impl_directions)] }
def FnExactLoseStepsSaid : Prop := fnExactLoseStepsRow.holds Tryz.pinned (OpenSpec.ofChange fnExactLoseStepsSpec)

/-- ITS FALSE NEIGHBOUR: 'it returns false'. Refute it at one input. -/
def fnExactLoseStepsWrong : ChangeSpec := { name := "fnExactLoseSteps", vars := ["loop.example/g00886/impl.directions"], fn := fun _ => fun
  | [d1, d2, d3, d4, g1] => { results := [.lit (.bool false)], args := [d1, d2, d3, d4], vars := [g1] }
  | _ => none }
def FnExactLoseStepsWrongFalsely : Prop := fnExactLoseStepsRow.holds Tryz.pinned (OpenSpec.ofChange fnExactLoseStepsWrong)

/-- 'laws.FnExactClearFrom': WHATEVER THE INPUT: true; the input reads as it did. -/
def fnExactClearFromSpec : ChangeSpec := { name := "fnExactClearFrom", vars := ["loop.example/g00886/impl.directions"], fn := fun _ => fun
  | [d1, d2, d3, g1] => { results := [.lit (.bool true)], args := [d1, d2, d3], vars := [g1] }
  | _ => none }
def fnExactClearFromRow : OpenClaim := { program := "ytkflmicnfjfmiaagreatdoor", sum := "c9d9f82d5233be5c883e4cfb8c1df0335d1b4c231b67dd89a3e08afccb51bfee", func := "loop.example/g00886/laws.FnExactClearFrom", spec := "fnExactClearFrom", unfollowed := true, recurses := true, named := ["loop.example/g00886/impl.directions"], apart := false, laid := [("loop.example/g00886/impl.directions", laid_loop_example_g00886_impl_directions)] }
def FnExactClearFromSaid : Prop := fnExactClearFromRow.holds Tryz.pinned (OpenSpec.ofChange fnExactClearFromSpec)

/-- ITS FALSE NEIGHBOUR: 'it returns false'. Refute it at one input. -/
def fnExactClearFromWrong : ChangeSpec := { name := "fnExactClearFrom", vars := ["loop.example/g00886/impl.directions"], fn := fun _ => fun
  | [d1, d2, d3, g1] => { results := [.lit (.bool false)], args := [d1, d2, d3], vars := [g1] }
  | _ => none }
def FnExactClearFromWrongFalsely : Prop := fnExactClearFromRow.holds Tryz.pinned (OpenSpec.ofChange fnExactClearFromWrong)

/-- 'laws.FnExactSeenFrom': WHATEVER THE INPUT: true; the input reads as it did. -/
def fnExactSeenFromSpec : ChangeSpec := { name := "fnExactSeenFrom", vars := ["loop.example/g00886/impl.directions"], fn := fun _ => fun
  | [d1, d2, d3, g1] => { results := [.lit (.bool true)], args := [d1, d2, d3], vars := [g1] }
  | _ => none }
def fnExactSeenFromRow : OpenClaim := { program := "ytkflmicnfjfmiaagreatdoor", sum := "c9d9f82d5233be5c883e4cfb8c1df0335d1b4c231b67dd89a3e08afccb51bfee", func := "loop.example/g00886/laws.FnExactSeenFrom", spec := "fnExactSeenFrom", unfollowed := true, recurses := true, named := ["loop.example/g00886/impl.directions"], apart := false, laid := [("loop.example/g00886/impl.directions", laid_loop_example_g00886_impl_directions)] }
def FnExactSeenFromSaid : Prop := fnExactSeenFromRow.holds Tryz.pinned (OpenSpec.ofChange fnExactSeenFromSpec)

/-- ITS FALSE NEIGHBOUR: 'it returns false'. Refute it at one input. -/
def fnExactSeenFromWrong : ChangeSpec := { name := "fnExactSeenFrom", vars := ["loop.example/g00886/impl.directions"], fn := fun _ => fun
  | [d1, d2, d3, g1] => { results := [.lit (.bool false)], args := [d1, d2, d3], vars := [g1] }
  | _ => none }
def FnExactSeenFromWrongFalsely : Prop := fnExactSeenFromRow.holds Tryz.pinned (OpenSpec.ofChange fnExactSeenFromWrong)

/-- 'laws.FnExactSeenBy': WHATEVER THE INPUT: true; the input reads as it did. -/
def fnExactSeenBySpec : ChangeSpec := { name := "fnExactSeenBy", vars := ["loop.example/g00886/impl.directions"], fn := fun _ => fun
  | [d1, d2, d3, g1] => { results := [.lit (.bool true)], args := [d1, d2, d3], vars := [g1] }
  | _ => none }
def fnExactSeenByRow : OpenClaim := { program := "ytkflmicnfjfmiaagreatdoor", sum := "c9d9f82d5233be5c883e4cfb8c1df0335d1b4c231b67dd89a3e08afccb51bfee", func := "loop.example/g00886/laws.FnExactSeenBy", spec := "fnExactSeenBy", unfollowed := true, recurses := true, named := ["loop.example/g00886/impl.directions"], apart := false, laid := [("loop.example/g00886/impl.directions", laid_loop_example_g00886_impl_directions)] }
def FnExactSeenBySaid : Prop := fnExactSeenByRow.holds Tryz.pinned (OpenSpec.ofChange fnExactSeenBySpec)

/-- ITS FALSE NEIGHBOUR: 'it returns false'. Refute it at one input. -/
def fnExactSeenByWrong : ChangeSpec := { name := "fnExactSeenBy", vars := ["loop.example/g00886/impl.directions"], fn := fun _ => fun
  | [d1, d2, d3, g1] => { results := [.lit (.bool false)], args := [d1, d2, d3], vars := [g1] }
  | _ => none }
def FnExactSeenByWrongFalsely : Prop := fnExactSeenByRow.holds Tryz.pinned (OpenSpec.ofChange fnExactSeenByWrong)

/- THE SECOND FORM. 'bulk': how many values and letters a reading holds, each counted each time it is reached (what is shared counts as often as it is met; a slice's spare places count too). A statement '..UptoSaid' is the law's where the arguments, and the package variables that the reading takes, are together of bulk at most 1048576: NARROWER than '..Said'. Prove '..Said' where nothing that the law and all that it calls make is longer than what came in: it says more and counts as full. Else prove '..UptoSaid'. A law counts once. -/
mutual
def uptoBulk {H : Type} : DataW H → Nat
  | .lit (.string bytes) => bytes.length + 1
  | .lit _ => 1
  | .nil => 1
  | .ptr d => uptoBulk d + 1
  | .slice elems spare => uptoBulkAll elems + uptoBulkAll spare + 1
  | .agg parts => uptoBulkAll parts + 1
  | .iface _ d => uptoBulk d + 1
  | .map entries => uptoBulkEntries entries + 1
  | .held _ => 1
def uptoBulkAll {H : Type} : List (DataW H) → Nat
  | [] => 0
  | d :: r => uptoBulk d + uptoBulkAll r
def uptoBulkEntries {H : Type} : List (Lit × DataW H) → Nat
  | [] => 0
  | x :: r => uptoBulkEntry x + uptoBulkEntries r
def uptoBulkEntry {H : Type} : Lit × DataW H → Nat
  | (.string bytes, d) => bytes.length + uptoBulk d + 1
  | (_, d) => uptoBulk d + 1
 end
def uptoSmall : (H : Type) → List (DataW H) → Bool := fun _ ds => decide (uptoBulkAll ds ≤ 1048576)
def OpenSpec.upto (s : _root_.Go.ChangeSpec) : _root_.Go.OpenSpec := { _root_.Go.OpenSpec.ofChange s with cond := some uptoSmall }

/-- 'laws.FnExactPlaceUnit', WHERE WHAT IT READS IS OF BULK AT MOST 1048576: true; the input reads as it did. -/
def fnExactPlaceUnitUptoRow : OpenClaim := { program := "ytkflmicnfjfmiaagreatdoor", sum := "c9d9f82d5233be5c883e4cfb8c1df0335d1b4c231b67dd89a3e08afccb51bfee", func := "loop.example/g00886/laws.FnExactPlaceUnit", spec := "fnExactPlaceUnit", unfollowed := true, recurses := true, named := ["loop.example/g00886/impl.directions"], apart := false, laid := [("loop.example/g00886/impl.directions", laid_loop_example_g00886_impl_directions)], narrowed := true }
def FnExactPlaceUnitUptoSaid : Prop := fnExactPlaceUnitUptoRow.holds Tryz.pinned (OpenSpec.upto fnExactPlaceUnitSpec)

/-- 'laws.FnExactLoseSteps', WHERE WHAT IT READS IS OF BULK AT MOST 1048576: true; the input reads as it did. -/
def fnExactLoseStepsUptoRow : OpenClaim := { program := "ytkflmicnfjfmiaagreatdoor", sum := "c9d9f82d5233be5c883e4cfb8c1df0335d1b4c231b67dd89a3e08afccb51bfee", func := "loop.example/g00886/laws.FnExactLoseSteps", spec := "fnExactLoseSteps", unfollowed := true, recurses := true, named := ["loop.example/g00886/impl.directions"], apart := false, laid := [("loop.example/g00886/impl.directions", laid_loop_example_g00886_impl_directions)], narrowed := true }
def FnExactLoseStepsUptoSaid : Prop := fnExactLoseStepsUptoRow.holds Tryz.pinned (OpenSpec.upto fnExactLoseStepsSpec)

/-- 'laws.FnExactClearFrom', WHERE WHAT IT READS IS OF BULK AT MOST 1048576: true; the input reads as it did. -/
def fnExactClearFromUptoRow : OpenClaim := { program := "ytkflmicnfjfmiaagreatdoor", sum := "c9d9f82d5233be5c883e4cfb8c1df0335d1b4c231b67dd89a3e08afccb51bfee", func := "loop.example/g00886/laws.FnExactClearFrom", spec := "fnExactClearFrom", unfollowed := true, recurses := true, named := ["loop.example/g00886/impl.directions"], apart := false, laid := [("loop.example/g00886/impl.directions", laid_loop_example_g00886_impl_directions)], narrowed := true }
def FnExactClearFromUptoSaid : Prop := fnExactClearFromUptoRow.holds Tryz.pinned (OpenSpec.upto fnExactClearFromSpec)

/-- 'laws.FnExactSeenFrom', WHERE WHAT IT READS IS OF BULK AT MOST 1048576: true; the input reads as it did. -/
def fnExactSeenFromUptoRow : OpenClaim := { program := "ytkflmicnfjfmiaagreatdoor", sum := "c9d9f82d5233be5c883e4cfb8c1df0335d1b4c231b67dd89a3e08afccb51bfee", func := "loop.example/g00886/laws.FnExactSeenFrom", spec := "fnExactSeenFrom", unfollowed := true, recurses := true, named := ["loop.example/g00886/impl.directions"], apart := false, laid := [("loop.example/g00886/impl.directions", laid_loop_example_g00886_impl_directions)], narrowed := true }
def FnExactSeenFromUptoSaid : Prop := fnExactSeenFromUptoRow.holds Tryz.pinned (OpenSpec.upto fnExactSeenFromSpec)

/-- 'laws.FnExactSeenBy', WHERE WHAT IT READS IS OF BULK AT MOST 1048576: true; the input reads as it did. -/
def fnExactSeenByUptoRow : OpenClaim := { program := "ytkflmicnfjfmiaagreatdoor", sum := "c9d9f82d5233be5c883e4cfb8c1df0335d1b4c231b67dd89a3e08afccb51bfee", func := "loop.example/g00886/laws.FnExactSeenBy", spec := "fnExactSeenBy", unfollowed := true, recurses := true, named := ["loop.example/g00886/impl.directions"], apart := false, laid := [("loop.example/g00886/impl.directions", laid_loop_example_g00886_impl_directions)], narrowed := true }
def FnExactSeenByUptoSaid : Prop := fnExactSeenByUptoRow.holds Tryz.pinned (OpenSpec.upto fnExactSeenBySpec)

end Rows
end Go.Proofs.YtkflmicnfjfmiaaGreatDoor
