/-
  NARROWER THAN 'FOR EVERY INPUT', by the rows' own cells (each row's printed sentence says how): FnExactZoneSources: laid · FnExactContestedHexes: laid · FnExactZoneHexes: laid · FnExactCheckSupplyPath: laid · FnExactWatchersOf: laid.
  DERIVED. THE GIVEN ROWS OF THIS SEAT. 5 by the template 'for every input the law returns true; each argument reads behind the call as it read before'; 0 by the template 'total and deterministic' (their statements: YtjnpnpkjmlihdaaGreatDoorTotals.lean).
  GIVEN WITH THE SEED: the statements are not yours to turn. If you find one false, say at which input.
  Laid BY PROGRAM, IN A SANDBOX (cutbox-rows.mjs): the forced cells as the released guide's own fill.sh prints them over the translation 572e8c950121ae1b… (all of the seat's roots in one cut). By AI agents, Wed Nov 11 2026. No macro, syntax, notation, axiom, sorry.
-/
import Derived.Test.YtjnpnpkjmlihdaaGreatDoorChecked
import GoSem.Claim
import GoSem.ClaimJoined
import GoSem.ClaimMapViews
import Derived.JoinedTies
import Derived.KernelRfl
namespace Go.Proofs.YtjnpnpkjmlihdaaGreatDoor
/- THE CELL 'sum', in the pinned program and in every row, IS THE sha256 OF THE DUMP (.gsa) THAT YtjnpnpkjmlihdaaGreatDoorProg.lean LOADS. Nothing in Lean hashes anything: it is a label: what it is worth is what the hold of that sum in a sandbox is worth. -/
noncomputable def Tryz.pinned : Pinned := { name := "ytjnpnpkjmlihdaagreatdoor", sum := "572e8c950121ae1bc7ca36963ba0e76f5c7365ec4fa5211c2a4747291229ff52", checked := Tryz.checked }
namespace Rows
def none {H : Type} : Left H := { results := [], args := [] }

/- WHAT THE LISTED PACKAGE-LEVEL VARIABLES READ AS WHEN THE CALL BEGINS. Each datum BY PROGRAM (the guide's laid-datum.mjs) off the statement by which the dump's own 'gosem.cut.vars' lays the variable. In a bare row this is a premise. The card (YtjnpnpkjmlihdaaGreatDoorCards.lean) ties it to the program's text. -/
def laid_loop_example_g00886_impl_directions {H : Type} : DataW H := .agg [.agg [.lit (.int .i64 1), .lit (.int .i64 0)], .agg [.lit (.int .i64 1), .lit (.int .i64 (-1))], .agg [.lit (.int .i64 0), .lit (.int .i64 (-1))], .agg [.lit (.int .i64 (-1)), .lit (.int .i64 0)], .agg [.lit (.int .i64 (-1)), .lit (.int .i64 1)], .agg [.lit (.int .i64 0), .lit (.int .i64 1)]]

/-- 'laws.FnExactZoneSources': WHATEVER THE INPUT: true; the input reads as it did. -/
def fnExactZoneSourcesSpec : ChangeSpec := { name := "fnExactZoneSources", vars := ["loop.example/g00886/impl.directions"], fn := fun _ => fun
  | [d1, d2, d3, d4, g1] => { results := [.lit (.bool true)], args := [d1, d2, d3, d4], vars := [g1] }
  | _ => none }
def fnExactZoneSourcesRow : OpenClaim := { program := "ytjnpnpkjmlihdaagreatdoor", sum := "572e8c950121ae1bc7ca36963ba0e76f5c7365ec4fa5211c2a4747291229ff52", func := "loop.example/g00886/laws.FnExactZoneSources", spec := "fnExactZoneSources", unfollowed := true, recurses := true, named := ["loop.example/g00886/impl.directions"], apart := false, laid := [("loop.example/g00886/impl.directions", laid_loop_example_g00886_impl_directions)] }
def FnExactZoneSourcesSaid : Prop := fnExactZoneSourcesRow.holds Tryz.pinned (OpenSpec.ofChange fnExactZoneSourcesSpec)

/-- ITS FALSE NEIGHBOUR: 'it returns false'. Refute it at one input. -/
def fnExactZoneSourcesWrong : ChangeSpec := { name := "fnExactZoneSources", vars := ["loop.example/g00886/impl.directions"], fn := fun _ => fun
  | [d1, d2, d3, d4, g1] => { results := [.lit (.bool false)], args := [d1, d2, d3, d4], vars := [g1] }
  | _ => none }
def FnExactZoneSourcesWrongFalsely : Prop := fnExactZoneSourcesRow.holds Tryz.pinned (OpenSpec.ofChange fnExactZoneSourcesWrong)

/-- 'laws.FnExactContestedHexes': WHATEVER THE INPUT: true; the input reads as it did. -/
def fnExactContestedHexesSpec : ChangeSpec := { name := "fnExactContestedHexes", vars := ["loop.example/g00886/impl.directions"], fn := fun _ => fun
  | [d1, d2, g1] => { results := [.lit (.bool true)], args := [d1, d2], vars := [g1] }
  | _ => none }
def fnExactContestedHexesRow : OpenClaim := { program := "ytjnpnpkjmlihdaagreatdoor", sum := "572e8c950121ae1bc7ca36963ba0e76f5c7365ec4fa5211c2a4747291229ff52", func := "loop.example/g00886/laws.FnExactContestedHexes", spec := "fnExactContestedHexes", unfollowed := true, recurses := true, named := ["loop.example/g00886/impl.directions"], apart := false, laid := [("loop.example/g00886/impl.directions", laid_loop_example_g00886_impl_directions)] }
def FnExactContestedHexesSaid : Prop := fnExactContestedHexesRow.holds Tryz.pinned (OpenSpec.ofChange fnExactContestedHexesSpec)

/-- ITS FALSE NEIGHBOUR: 'it returns false'. Refute it at one input. -/
def fnExactContestedHexesWrong : ChangeSpec := { name := "fnExactContestedHexes", vars := ["loop.example/g00886/impl.directions"], fn := fun _ => fun
  | [d1, d2, g1] => { results := [.lit (.bool false)], args := [d1, d2], vars := [g1] }
  | _ => none }
def FnExactContestedHexesWrongFalsely : Prop := fnExactContestedHexesRow.holds Tryz.pinned (OpenSpec.ofChange fnExactContestedHexesWrong)

/-- 'laws.FnExactZoneHexes': WHATEVER THE INPUT: true; the input reads as it did. -/
def fnExactZoneHexesSpec : ChangeSpec := { name := "fnExactZoneHexes", vars := ["loop.example/g00886/impl.directions"], fn := fun _ => fun
  | [d1, d2, d3, g1] => { results := [.lit (.bool true)], args := [d1, d2, d3], vars := [g1] }
  | _ => none }
def fnExactZoneHexesRow : OpenClaim := { program := "ytjnpnpkjmlihdaagreatdoor", sum := "572e8c950121ae1bc7ca36963ba0e76f5c7365ec4fa5211c2a4747291229ff52", func := "loop.example/g00886/laws.FnExactZoneHexes", spec := "fnExactZoneHexes", unfollowed := true, recurses := true, named := ["loop.example/g00886/impl.directions"], apart := false, laid := [("loop.example/g00886/impl.directions", laid_loop_example_g00886_impl_directions)] }
def FnExactZoneHexesSaid : Prop := fnExactZoneHexesRow.holds Tryz.pinned (OpenSpec.ofChange fnExactZoneHexesSpec)

/-- ITS FALSE NEIGHBOUR: 'it returns false'. Refute it at one input. -/
def fnExactZoneHexesWrong : ChangeSpec := { name := "fnExactZoneHexes", vars := ["loop.example/g00886/impl.directions"], fn := fun _ => fun
  | [d1, d2, d3, g1] => { results := [.lit (.bool false)], args := [d1, d2, d3], vars := [g1] }
  | _ => none }
def FnExactZoneHexesWrongFalsely : Prop := fnExactZoneHexesRow.holds Tryz.pinned (OpenSpec.ofChange fnExactZoneHexesWrong)

/-- 'laws.FnExactCheckSupplyPath': WHATEVER THE INPUT: true; the input reads as it did. -/
def fnExactCheckSupplyPathSpec : ChangeSpec := { name := "fnExactCheckSupplyPath", vars := ["loop.example/g00886/impl.directions"], fn := fun _ => fun
  | [d1, d2, d3, d4, d5, g1] => { results := [.lit (.bool true)], args := [d1, d2, d3, d4, d5], vars := [g1] }
  | _ => none }
def fnExactCheckSupplyPathRow : OpenClaim := { program := "ytjnpnpkjmlihdaagreatdoor", sum := "572e8c950121ae1bc7ca36963ba0e76f5c7365ec4fa5211c2a4747291229ff52", func := "loop.example/g00886/laws.FnExactCheckSupplyPath", spec := "fnExactCheckSupplyPath", unfollowed := true, recurses := true, named := ["loop.example/g00886/impl.directions"], apart := false, laid := [("loop.example/g00886/impl.directions", laid_loop_example_g00886_impl_directions)] }
def FnExactCheckSupplyPathSaid : Prop := fnExactCheckSupplyPathRow.holds Tryz.pinned (OpenSpec.ofChange fnExactCheckSupplyPathSpec)

/-- ITS FALSE NEIGHBOUR: 'it returns false'. Refute it at one input. -/
def fnExactCheckSupplyPathWrong : ChangeSpec := { name := "fnExactCheckSupplyPath", vars := ["loop.example/g00886/impl.directions"], fn := fun _ => fun
  | [d1, d2, d3, d4, d5, g1] => { results := [.lit (.bool false)], args := [d1, d2, d3, d4, d5], vars := [g1] }
  | _ => none }
def FnExactCheckSupplyPathWrongFalsely : Prop := fnExactCheckSupplyPathRow.holds Tryz.pinned (OpenSpec.ofChange fnExactCheckSupplyPathWrong)

/-- 'laws.FnExactWatchersOf': WHATEVER THE INPUT: true; the input reads as it did. -/
def fnExactWatchersOfSpec : ChangeSpec := { name := "fnExactWatchersOf", vars := ["loop.example/g00886/impl.directions"], fn := fun _ => fun
  | [d1, d2, d3, g1] => { results := [.lit (.bool true)], args := [d1, d2, d3], vars := [g1] }
  | _ => none }
def fnExactWatchersOfRow : OpenClaim := { program := "ytjnpnpkjmlihdaagreatdoor", sum := "572e8c950121ae1bc7ca36963ba0e76f5c7365ec4fa5211c2a4747291229ff52", func := "loop.example/g00886/laws.FnExactWatchersOf", spec := "fnExactWatchersOf", unfollowed := true, recurses := true, named := ["loop.example/g00886/impl.directions"], apart := false, laid := [("loop.example/g00886/impl.directions", laid_loop_example_g00886_impl_directions)] }
def FnExactWatchersOfSaid : Prop := fnExactWatchersOfRow.holds Tryz.pinned (OpenSpec.ofChange fnExactWatchersOfSpec)

/-- ITS FALSE NEIGHBOUR: 'it returns false'. Refute it at one input. -/
def fnExactWatchersOfWrong : ChangeSpec := { name := "fnExactWatchersOf", vars := ["loop.example/g00886/impl.directions"], fn := fun _ => fun
  | [d1, d2, d3, g1] => { results := [.lit (.bool false)], args := [d1, d2, d3], vars := [g1] }
  | _ => none }
def FnExactWatchersOfWrongFalsely : Prop := fnExactWatchersOfRow.holds Tryz.pinned (OpenSpec.ofChange fnExactWatchersOfWrong)

/- THE SECOND FORM. 'bulk': how many values and letters a reading holds, each counted each time it is reached (what is shared counts as often as it is met; a slice's spare places count too). A statement '..UptoSaid' is the law's where the arguments, and the package variables that the reading takes, are together of bulk at most 1048576: NARROWER than '..Said'. Prove '..Said' where nothing that the law and all that it calls make is longer than what came in: it says more and counts as full. Else prove '..UptoSaid'. A law counts once. -/
mutual
def uptoBulk {H : Type} : DataW H → Nat
  | .lit (.string bytes) => bytes.length + 1
  | .lit _ => 1
  | .nil => 1
  | .ptr d => uptoBulk d + 1
  | .slice elems spare => uptoBulkAll elems + uptoBulkAll spare + 1
  | .agg parts => uptoBulkAll parts + 1
  | .iface _ d => uptoBulk d + 1
  | .map entries => uptoBulkEntries entries + 1
  | .held _ => 1
def uptoBulkAll {H : Type} : List (DataW H) → Nat
  | [] => 0
  | d :: r => uptoBulk d + uptoBulkAll r
def uptoBulkEntries {H : Type} : List (Lit × DataW H) → Nat
  | [] => 0
  | x :: r => uptoBulkEntry x + uptoBulkEntries r
def uptoBulkEntry {H : Type} : Lit × DataW H → Nat
  | (.string bytes, d) => bytes.length + uptoBulk d + 1
  | (_, d) => uptoBulk d + 1
 end
def uptoSmall : (H : Type) → List (DataW H) → Bool := fun _ ds => decide (uptoBulkAll ds ≤ 1048576)
def OpenSpec.upto (s : _root_.Go.ChangeSpec) : _root_.Go.OpenSpec := { _root_.Go.OpenSpec.ofChange s with cond := some uptoSmall }

/-- 'laws.FnExactZoneSources', WHERE WHAT IT READS IS OF BULK AT MOST 1048576: true; the input reads as it did. -/
def fnExactZoneSourcesUptoRow : OpenClaim := { program := "ytjnpnpkjmlihdaagreatdoor", sum := "572e8c950121ae1bc7ca36963ba0e76f5c7365ec4fa5211c2a4747291229ff52", func := "loop.example/g00886/laws.FnExactZoneSources", spec := "fnExactZoneSources", unfollowed := true, recurses := true, named := ["loop.example/g00886/impl.directions"], apart := false, laid := [("loop.example/g00886/impl.directions", laid_loop_example_g00886_impl_directions)], narrowed := true }
def FnExactZoneSourcesUptoSaid : Prop := fnExactZoneSourcesUptoRow.holds Tryz.pinned (OpenSpec.upto fnExactZoneSourcesSpec)

/-- 'laws.FnExactContestedHexes', WHERE WHAT IT READS IS OF BULK AT MOST 1048576: true; the input reads as it did. -/
def fnExactContestedHexesUptoRow : OpenClaim := { program := "ytjnpnpkjmlihdaagreatdoor", sum := "572e8c950121ae1bc7ca36963ba0e76f5c7365ec4fa5211c2a4747291229ff52", func := "loop.example/g00886/laws.FnExactContestedHexes", spec := "fnExactContestedHexes", unfollowed := true, recurses := true, named := ["loop.example/g00886/impl.directions"], apart := false, laid := [("loop.example/g00886/impl.directions", laid_loop_example_g00886_impl_directions)], narrowed := true }
def FnExactContestedHexesUptoSaid : Prop := fnExactContestedHexesUptoRow.holds Tryz.pinned (OpenSpec.upto fnExactContestedHexesSpec)

/-- 'laws.FnExactZoneHexes', WHERE WHAT IT READS IS OF BULK AT MOST 1048576: true; the input reads as it did. -/
def fnExactZoneHexesUptoRow : OpenClaim := { program := "ytjnpnpkjmlihdaagreatdoor", sum := "572e8c950121ae1bc7ca36963ba0e76f5c7365ec4fa5211c2a4747291229ff52", func := "loop.example/g00886/laws.FnExactZoneHexes", spec := "fnExactZoneHexes", unfollowed := true, recurses := true, named := ["loop.example/g00886/impl.directions"], apart := false, laid := [("loop.example/g00886/impl.directions", laid_loop_example_g00886_impl_directions)], narrowed := true }
def FnExactZoneHexesUptoSaid : Prop := fnExactZoneHexesUptoRow.holds Tryz.pinned (OpenSpec.upto fnExactZoneHexesSpec)

/-- 'laws.FnExactCheckSupplyPath', WHERE WHAT IT READS IS OF BULK AT MOST 1048576: true; the input reads as it did. -/
def fnExactCheckSupplyPathUptoRow : OpenClaim := { program := "ytjnpnpkjmlihdaagreatdoor", sum := "572e8c950121ae1bc7ca36963ba0e76f5c7365ec4fa5211c2a4747291229ff52", func := "loop.example/g00886/laws.FnExactCheckSupplyPath", spec := "fnExactCheckSupplyPath", unfollowed := true, recurses := true, named := ["loop.example/g00886/impl.directions"], apart := false, laid := [("loop.example/g00886/impl.directions", laid_loop_example_g00886_impl_directions)], narrowed := true }
def FnExactCheckSupplyPathUptoSaid : Prop := fnExactCheckSupplyPathUptoRow.holds Tryz.pinned (OpenSpec.upto fnExactCheckSupplyPathSpec)

/-- 'laws.FnExactWatchersOf', WHERE WHAT IT READS IS OF BULK AT MOST 1048576: true; the input reads as it did. -/
def fnExactWatchersOfUptoRow : OpenClaim := { program := "ytjnpnpkjmlihdaagreatdoor", sum := "572e8c950121ae1bc7ca36963ba0e76f5c7365ec4fa5211c2a4747291229ff52", func := "loop.example/g00886/laws.FnExactWatchersOf", spec := "fnExactWatchersOf", unfollowed := true, recurses := true, named := ["loop.example/g00886/impl.directions"], apart := false, laid := [("loop.example/g00886/impl.directions", laid_loop_example_g00886_impl_directions)], narrowed := true }
def FnExactWatchersOfUptoSaid : Prop := fnExactWatchersOfUptoRow.holds Tryz.pinned (OpenSpec.upto fnExactWatchersOfSpec)

end Rows
end Go.Proofs.YtjnpnpkjmlihdaaGreatDoor
