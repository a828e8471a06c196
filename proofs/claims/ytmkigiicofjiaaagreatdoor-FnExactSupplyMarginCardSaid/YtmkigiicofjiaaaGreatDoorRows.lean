/-
  NARROWER THAN 'FOR EVERY INPUT', by the rows' own cells (each row's printed sentence says how): FnExactInSupply: laid · FnExactFreeExits: laid · FnExactSupplyMargin: laid · FnExactControlMap: laid · FnExactCountControlled: laid · FnExactSupplyDistances: laid.
  DERIVED. THE GIVEN ROWS OF THIS SEAT. 6 by the template 'for every input the law returns true; each argument reads behind the call as it read before'; 0 by the template 'total and deterministic' (their statements: YtmkigiicofjiaaaGreatDoorTotals.lean).
  GIVEN WITH THE SEED: the statements are not yours to turn. If you find one false, say at which input.
  Laid BY PROGRAM, IN A SANDBOX (cutbox-rows.mjs): the forced cells as the released guide's own fill.sh prints them over the translation 19fed15b42765807… (all of the seat's roots in one cut). By AI agents, Wed Nov 11 2026. No macro, syntax, notation, axiom, sorry.
-/
import Derived.Test.YtmkigiicofjiaaaGreatDoorChecked
import GoSem.Claim
import GoSem.ClaimJoined
import GoSem.ClaimMapViews
import Derived.JoinedTies
import Derived.KernelRfl
namespace Go.Proofs.YtmkigiicofjiaaaGreatDoor
/- THE CELL 'sum', in the pinned program and in every row, IS THE sha256 OF THE DUMP (.gsa) THAT YtmkigiicofjiaaaGreatDoorProg.lean LOADS. Nothing in Lean hashes anything: it is a label: what it is worth is what the hold of that sum in a sandbox is worth. -/
noncomputable def Tryz.pinned : Pinned := { name := "ytmkigiicofjiaaagreatdoor", sum := "19fed15b42765807957c7abd220ffac1985f539a8920b78331592fe328b008f4", checked := Tryz.checked }
namespace Rows
def none {H : Type} : Left H := { results := [], args := [] }

/- WHAT THE LISTED PACKAGE-LEVEL VARIABLES READ AS WHEN THE CALL BEGINS. Each datum BY PROGRAM (the guide's laid-datum.mjs) off the statement by which the dump's own 'gosem.cut.vars' lays the variable. In a bare row this is a premise. The card (YtmkigiicofjiaaaGreatDoorCards.lean) ties it to the program's text. -/
def laid_loop_example_g00886_impl_directions {H : Type} : DataW H := .agg [.agg [.lit (.int .i64 1), .lit (.int .i64 0)], .agg [.lit (.int .i64 1), .lit (.int .i64 (-1))], .agg [.lit (.int .i64 0), .lit (.int .i64 (-1))], .agg [.lit (.int .i64 (-1)), .lit (.int .i64 0)], .agg [.lit (.int .i64 (-1)), .lit (.int .i64 1)], .agg [.lit (.int .i64 0), .lit (.int .i64 1)]]

/-- 'laws.FnExactInSupply': WHATEVER THE INPUT: true; the input reads as it did. -/
def fnExactInSupplySpec : ChangeSpec := { name := "fnExactInSupply", vars := ["loop.example/g00886/impl.directions"], fn := fun _ => fun
  | [d1, d2, d3, d4, g1] => { results := [.lit (.bool true)], args := [d1, d2, d3, d4], vars := [g1] }
  | _ => none }
def fnExactInSupplyRow : OpenClaim := { program := "ytmkigiicofjiaaagreatdoor", sum := "19fed15b42765807957c7abd220ffac1985f539a8920b78331592fe328b008f4", func := "loop.example/g00886/laws.FnExactInSupply", spec := "fnExactInSupply", unfollowed := true, recurses := true, named := ["loop.example/g00886/impl.directions"], apart := false, laid := [("loop.example/g00886/impl.directions", laid_loop_example_g00886_impl_directions)] }
def FnExactInSupplySaid : Prop := fnExactInSupplyRow.holds Tryz.pinned (OpenSpec.ofChange fnExactInSupplySpec)

/-- ITS FALSE NEIGHBOUR: 'it returns false'. Refute it at one input. -/
def fnExactInSupplyWrong : ChangeSpec := { name := "fnExactInSupply", vars := ["loop.example/g00886/impl.directions"], fn := fun _ => fun
  | [d1, d2, d3, d4, g1] => { results := [.lit (.bool false)], args := [d1, d2, d3, d4], vars := [g1] }
  | _ => none }
def FnExactInSupplyWrongFalsely : Prop := fnExactInSupplyRow.holds Tryz.pinned (OpenSpec.ofChange fnExactInSupplyWrong)

/-- 'laws.FnExactFreeExits': WHATEVER THE INPUT: true; the input reads as it did. -/
def fnExactFreeExitsSpec : ChangeSpec := { name := "fnExactFreeExits", vars := ["loop.example/g00886/impl.directions"], fn := fun _ => fun
  | [d1, d2, d3, g1] => { results := [.lit (.bool true)], args := [d1, d2, d3], vars := [g1] }
  | _ => none }
def fnExactFreeExitsRow : OpenClaim := { program := "ytmkigiicofjiaaagreatdoor", sum := "19fed15b42765807957c7abd220ffac1985f539a8920b78331592fe328b008f4", func := "loop.example/g00886/laws.FnExactFreeExits", spec := "fnExactFreeExits", unfollowed := true, recurses := true, named := ["loop.example/g00886/impl.directions"], apart := false, laid := [("loop.example/g00886/impl.directions", laid_loop_example_g00886_impl_directions)] }
def FnExactFreeExitsSaid : Prop := fnExactFreeExitsRow.holds Tryz.pinned (OpenSpec.ofChange fnExactFreeExitsSpec)

/-- ITS FALSE NEIGHBOUR: 'it returns false'. Refute it at one input. -/
def fnExactFreeExitsWrong : ChangeSpec := { name := "fnExactFreeExits", vars := ["loop.example/g00886/impl.directions"], fn := fun _ => fun
  | [d1, d2, d3, g1] => { results := [.lit (.bool false)], args := [d1, d2, d3], vars := [g1] }
  | _ => none }
def FnExactFreeExitsWrongFalsely : Prop := fnExactFreeExitsRow.holds Tryz.pinned (OpenSpec.ofChange fnExactFreeExitsWrong)

/-- 'laws.FnExactSupplyMargin': WHATEVER THE INPUT: true; the input reads as it did. -/
def fnExactSupplyMarginSpec : ChangeSpec := { name := "fnExactSupplyMargin", vars := ["loop.example/g00886/impl.directions"], fn := fun _ => fun
  | [d1, d2, d3, d4, g1] => { results := [.lit (.bool true)], args := [d1, d2, d3, d4], vars := [g1] }
  | _ => none }
def fnExactSupplyMarginRow : OpenClaim := { program := "ytmkigiicofjiaaagreatdoor", sum := "19fed15b42765807957c7abd220ffac1985f539a8920b78331592fe328b008f4", func := "loop.example/g00886/laws.FnExactSupplyMargin", spec := "fnExactSupplyMargin", unfollowed := true, recurses := true, named := ["loop.example/g00886/impl.directions"], apart := false, laid := [("loop.example/g00886/impl.directions", laid_loop_example_g00886_impl_directions)] }
def FnExactSupplyMarginSaid : Prop := fnExactSupplyMarginRow.holds Tryz.pinned (OpenSpec.ofChange fnExactSupplyMarginSpec)

/-- ITS FALSE NEIGHBOUR: 'it returns false'. Refute it at one input. -/
def fnExactSupplyMarginWrong : ChangeSpec := { name := "fnExactSupplyMargin", vars := ["loop.example/g00886/impl.directions"], fn := fun _ => fun
  | [d1, d2, d3, d4, g1] => { results := [.lit (.bool false)], args := [d1, d2, d3, d4], vars := [g1] }
  | _ => none }
def FnExactSupplyMarginWrongFalsely : Prop := fnExactSupplyMarginRow.holds Tryz.pinned (OpenSpec.ofChange fnExactSupplyMarginWrong)

/-- 'laws.FnExactControlMap': WHATEVER THE INPUT: true; the input reads as it did. -/
def fnExactControlMapSpec : ChangeSpec := { name := "fnExactControlMap", vars := ["loop.example/g00886/impl.directions"], fn := fun _ => fun
  | [d1, d2, g1] => { results := [.lit (.bool true)], args := [d1, d2], vars := [g1] }
  | _ => none }
def fnExactControlMapRow : OpenClaim := { program := "ytmkigiicofjiaaagreatdoor", sum := "19fed15b42765807957c7abd220ffac1985f539a8920b78331592fe328b008f4", func := "loop.example/g00886/laws.FnExactControlMap", spec := "fnExactControlMap", unfollowed := true, recurses := true, named := ["loop.example/g00886/impl.directions"], apart := false, laid := [("loop.example/g00886/impl.directions", laid_loop_example_g00886_impl_directions)] }
def FnExactControlMapSaid : Prop := fnExactControlMapRow.holds Tryz.pinned (OpenSpec.ofChange fnExactControlMapSpec)

/-- ITS FALSE NEIGHBOUR: 'it returns false'. Refute it at one input. -/
def fnExactControlMapWrong : ChangeSpec := { name := "fnExactControlMap", vars := ["loop.example/g00886/impl.directions"], fn := fun _ => fun
  | [d1, d2, g1] => { results := [.lit (.bool false)], args := [d1, d2], vars := [g1] }
  | _ => none }
def FnExactControlMapWrongFalsely : Prop := fnExactControlMapRow.holds Tryz.pinned (OpenSpec.ofChange fnExactControlMapWrong)

/-- 'laws.FnExactCountControlled': WHATEVER THE INPUT: true; the input reads as it did. -/
def fnExactCountControlledSpec : ChangeSpec := { name := "fnExactCountControlled", vars := ["loop.example/g00886/impl.directions"], fn := fun _ => fun
  | [d1, d2, g1] => { results := [.lit (.bool true)], args := [d1, d2], vars := [g1] }
  | _ => none }
def fnExactCountControlledRow : OpenClaim := { program := "ytmkigiicofjiaaagreatdoor", sum := "19fed15b42765807957c7abd220ffac1985f539a8920b78331592fe328b008f4", func := "loop.example/g00886/laws.FnExactCountControlled", spec := "fnExactCountControlled", unfollowed := true, recurses := true, named := ["loop.example/g00886/impl.directions"], apart := false, laid := [("loop.example/g00886/impl.directions", laid_loop_example_g00886_impl_directions)] }
def FnExactCountControlledSaid : Prop := fnExactCountControlledRow.holds Tryz.pinned (OpenSpec.ofChange fnExactCountControlledSpec)

/-- ITS FALSE NEIGHBOUR: 'it returns false'. Refute it at one input. -/
def fnExactCountControlledWrong : ChangeSpec := { name := "fnExactCountControlled", vars := ["loop.example/g00886/impl.directions"], fn := fun _ => fun
  | [d1, d2, g1] => { results := [.lit (.bool false)], args := [d1, d2], vars := [g1] }
  | _ => none }
def FnExactCountControlledWrongFalsely : Prop := fnExactCountControlledRow.holds Tryz.pinned (OpenSpec.ofChange fnExactCountControlledWrong)

/-- 'laws.FnExactSupplyDistances': WHATEVER THE INPUT: true; the input reads as it did. -/
def fnExactSupplyDistancesSpec : ChangeSpec := { name := "fnExactSupplyDistances", vars := ["loop.example/g00886/impl.directions"], fn := fun _ => fun
  | [d1, d2, d3, d4, d5, g1] => { results := [.lit (.bool true)], args := [d1, d2, d3, d4, d5], vars := [g1] }
  | _ => none }
def fnExactSupplyDistancesRow : OpenClaim := { program := "ytmkigiicofjiaaagreatdoor", sum := "19fed15b42765807957c7abd220ffac1985f539a8920b78331592fe328b008f4", func := "loop.example/g00886/laws.FnExactSupplyDistances", spec := "fnExactSupplyDistances", unfollowed := true, recurses := true, named := ["loop.example/g00886/impl.directions"], apart := false, laid := [("loop.example/g00886/impl.directions", laid_loop_example_g00886_impl_directions)] }
def FnExactSupplyDistancesSaid : Prop := fnExactSupplyDistancesRow.holds Tryz.pinned (OpenSpec.ofChange fnExactSupplyDistancesSpec)

/-- ITS FALSE NEIGHBOUR: 'it returns false'. Refute it at one input. -/
def fnExactSupplyDistancesWrong : ChangeSpec := { name := "fnExactSupplyDistances", vars := ["loop.example/g00886/impl.directions"], fn := fun _ => fun
  | [d1, d2, d3, d4, d5, g1] => { results := [.lit (.bool false)], args := [d1, d2, d3, d4, d5], vars := [g1] }
  | _ => none }
def FnExactSupplyDistancesWrongFalsely : Prop := fnExactSupplyDistancesRow.holds Tryz.pinned (OpenSpec.ofChange fnExactSupplyDistancesWrong)

/- THE SECOND FORM. 'bulk': how many values and letters a reading holds, each counted each time it is reached (what is shared counts as often as it is met; a slice's spare places count too). A statement '..UptoSaid' is the law's where the arguments, and the package variables that the reading takes, are together of bulk at most 1048576: NARROWER than '..Said'. Prove '..Said' where nothing that the law and all that it calls make is longer than what came in: it says more and counts as full. Else prove '..UptoSaid'. A law counts once. -/
mutual
def uptoBulk {H : Type} : DataW H → Nat
  | .lit (.string bytes) => bytes.length + 1
  | .lit _ => 1
  | .nil => 1
  | .ptr d => uptoBulk d + 1
  | .slice elems spare => uptoBulkAll elems + uptoBulkAll spare + 1
  | .agg parts => uptoBulkAll parts + 1
  | .iface _ d => uptoBulk d + 1
  | .map entries => uptoBulkEntries entries + 1
  | .held _ => 1
def uptoBulkAll {H : Type} : List (DataW H) → Nat
  | [] => 0
  | d :: r => uptoBulk d + uptoBulkAll r
def uptoBulkEntries {H : Type} : List (Lit × DataW H) → Nat
  | [] => 0
  | x :: r => uptoBulkEntry x + uptoBulkEntries r
def uptoBulkEntry {H : Type} : Lit × DataW H → Nat
  | (.string bytes, d) => bytes.length + uptoBulk d + 1
  | (_, d) => uptoBulk d + 1
 end
def uptoSmall : (H : Type) → List (DataW H) → Bool := fun _ ds => decide (uptoBulkAll ds ≤ 1048576)
def OpenSpec.upto (s : _root_.Go.ChangeSpec) : _root_.Go.OpenSpec := { _root_.Go.OpenSpec.ofChange s with cond := some uptoSmall }

/-- 'laws.FnExactInSupply', WHERE WHAT IT READS IS OF BULK AT MOST 1048576: true; the input reads as it did. -/
def fnExactInSupplyUptoRow : OpenClaim := { program := "ytmkigiicofjiaaagreatdoor", sum := "19fed15b42765807957c7abd220ffac1985f539a8920b78331592fe328b008f4", func := "loop.example/g00886/laws.FnExactInSupply", spec := "fnExactInSupply", unfollowed := true, recurses := true, named := ["loop.example/g00886/impl.directions"], apart := false, laid := [("loop.example/g00886/impl.directions", laid_loop_example_g00886_impl_directions)], narrowed := true }
def FnExactInSupplyUptoSaid : Prop := fnExactInSupplyUptoRow.holds Tryz.pinned (OpenSpec.upto fnExactInSupplySpec)

/-- 'laws.FnExactFreeExits', WHERE WHAT IT READS IS OF BULK AT MOST 1048576: true; the input reads as it did. -/
def fnExactFreeExitsUptoRow : OpenClaim := { program := "ytmkigiicofjiaaagreatdoor", sum := "19fed15b42765807957c7abd220ffac1985f539a8920b78331592fe328b008f4", func := "loop.example/g00886/laws.FnExactFreeExits", spec := "fnExactFreeExits", unfollowed := true, recurses := true, named := ["loop.example/g00886/impl.directions"], apart := false, laid := [("loop.example/g00886/impl.directions", laid_loop_example_g00886_impl_directions)], narrowed := true }
def FnExactFreeExitsUptoSaid : Prop := fnExactFreeExitsUptoRow.holds Tryz.pinned (OpenSpec.upto fnExactFreeExitsSpec)

/-- 'laws.FnExactSupplyMargin', WHERE WHAT IT READS IS OF BULK AT MOST 1048576: true; the input reads as it did. -/
def fnExactSupplyMarginUptoRow : OpenClaim := { program := "ytmkigiicofjiaaagreatdoor", sum := "19fed15b42765807957c7abd220ffac1985f539a8920b78331592fe328b008f4", func := "loop.example/g00886/laws.FnExactSupplyMargin", spec := "fnExactSupplyMargin", unfollowed := true, recurses := true, named := ["loop.example/g00886/impl.directions"], apart := false, laid := [("loop.example/g00886/impl.directions", laid_loop_example_g00886_impl_directions)], narrowed := true }
def FnExactSupplyMarginUptoSaid : Prop := fnExactSupplyMarginUptoRow.holds Tryz.pinned (OpenSpec.upto fnExactSupplyMarginSpec)

/-- 'laws.FnExactControlMap', WHERE WHAT IT READS IS OF BULK AT MOST 1048576: true; the input reads as it did. -/
def fnExactControlMapUptoRow : OpenClaim := { program := "ytmkigiicofjiaaagreatdoor", sum := "19fed15b42765807957c7abd220ffac1985f539a8920b78331592fe328b008f4", func := "loop.example/g00886/laws.FnExactControlMap", spec := "fnExactControlMap", unfollowed := true, recurses := true, named := ["loop.example/g00886/impl.directions"], apart := false, laid := [("loop.example/g00886/impl.directions", laid_loop_example_g00886_impl_directions)], narrowed := true }
def FnExactControlMapUptoSaid : Prop := fnExactControlMapUptoRow.holds Tryz.pinned (OpenSpec.upto fnExactControlMapSpec)

/-- 'laws.FnExactCountControlled', WHERE WHAT IT READS IS OF BULK AT MOST 1048576: true; the input reads as it did. -/
def fnExactCountControlledUptoRow : OpenClaim := { program := "ytmkigiicofjiaaagreatdoor", sum := "19fed15b42765807957c7abd220ffac1985f539a8920b78331592fe328b008f4", func := "loop.example/g00886/laws.FnExactCountControlled", spec := "fnExactCountControlled", unfollowed := true, recurses := true, named := ["loop.example/g00886/impl.directions"], apart := false, laid := [("loop.example/g00886/impl.directions", laid_loop_example_g00886_impl_directions)], narrowed := true }
def FnExactCountControlledUptoSaid : Prop := fnExactCountControlledUptoRow.holds Tryz.pinned (OpenSpec.upto fnExactCountControlledSpec)

/-- 'laws.FnExactSupplyDistances', WHERE WHAT IT READS IS OF BULK AT MOST 1048576: true; the input reads as it did. -/
def fnExactSupplyDistancesUptoRow : OpenClaim := { program := "ytmkigiicofjiaaagreatdoor", sum := "19fed15b42765807957c7abd220ffac1985f539a8920b78331592fe328b008f4", func := "loop.example/g00886/laws.FnExactSupplyDistances", spec := "fnExactSupplyDistances", unfollowed := true, recurses := true, named := ["loop.example/g00886/impl.directions"], apart := false, laid := [("loop.example/g00886/impl.directions", laid_loop_example_g00886_impl_directions)], narrowed := true }
def FnExactSupplyDistancesUptoSaid : Prop := fnExactSupplyDistancesUptoRow.holds Tryz.pinned (OpenSpec.upto fnExactSupplyDistancesSpec)

end Rows
end Go.Proofs.YtmkigiicofjiaaaGreatDoor
