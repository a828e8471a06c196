/-
  No cell of these rows narrows 'for every input' (looked for: loops, veiled, ifaces, maps, wideKeys, modest, calm, conditions, laid).
  DERIVED. THE GIVEN ROWS OF THIS SEAT. 2 by the template 'for every input the law returns true; each argument reads behind the call as it read before'; 0 by the template 'total and deterministic' (their statements: YtdkcfhjbdbeebaaTotals.lean).
  GIVEN WITH THE SEED: the statements are not yours to turn. If you find one false, say at which input.
  Laid BY PROGRAM, IN A SANDBOX (cutbox-rows.mjs): the forced cells as the released guide's own fill.sh prints them over the translation 8379621ccd8374c3… (all of the seat's roots in one cut). By AI agents, Wed Nov 11 2026. No macro, syntax, notation, axiom, sorry.
-/
import Derived.Test.YtdkcfhjbdbeebaaChecked
import GoSem.Claim
import GoSem.ClaimJoined
import GoSem.ClaimMapViews
import Derived.JoinedTies
import Derived.KernelRfl
namespace Go.Proofs.Ytdkcfhjbdbeebaa
/- THE CELL 'sum', in the pinned program and in every row, IS THE sha256 OF THE DUMP (.gsa) THAT YtdkcfhjbdbeebaaProg.lean LOADS. Nothing in Lean hashes anything: it is a label: what it is worth is what the hold of that sum in a sandbox is worth. -/
noncomputable def Try.pinned : Pinned := { name := "ytdkcfhjbdbeebaa", sum := "8379621ccd8374c36645450231cec35a8acdf80c31ce2b039fa5c16d315f6dce", checked := Try.checked }
namespace Rows
def none {H : Type} : Left H := { results := [], args := [] }

/-- 'laws.FnExactGreatestOf': WHATEVER THE INPUT: true; the input reads as it did. -/
def fnExactGreatestOfSpec : ChangeSpec := { name := "fnExactGreatestOf", fn := fun _ => fun
  | [d1, d2] => { results := [.lit (.bool true)], args := [d1, d2] }
  | _ => none }
def fnExactGreatestOfRow : OpenClaim := { program := "ytdkcfhjbdbeebaa", sum := "8379621ccd8374c36645450231cec35a8acdf80c31ce2b039fa5c16d315f6dce", func := "loop.example/g00886/laws.FnExactGreatestOf", spec := "fnExactGreatestOf", apart := false }
def FnExactGreatestOfSaid : Prop := fnExactGreatestOfRow.holds Try.pinned (OpenSpec.ofChange fnExactGreatestOfSpec)

/-- ITS FALSE NEIGHBOUR: 'it returns false'. Refute it at one input. -/
def fnExactGreatestOfWrong : ChangeSpec := { name := "fnExactGreatestOf", fn := fun _ => fun
  | [d1, d2] => { results := [.lit (.bool false)], args := [d1, d2] }
  | _ => none }
def FnExactGreatestOfWrongFalsely : Prop := fnExactGreatestOfRow.holds Try.pinned (OpenSpec.ofChange fnExactGreatestOfWrong)

/-- 'laws.FnExactWeatherCost': WHATEVER THE INPUT: true; the input reads as it did. -/
def fnExactWeatherCostSpec : ChangeSpec := { name := "fnExactWeatherCost", fn := fun _ => fun
  | [d1, d2] => { results := [.lit (.bool true)], args := [d1, d2] }
  | _ => none }
def fnExactWeatherCostRow : OpenClaim := { program := "ytdkcfhjbdbeebaa", sum := "8379621ccd8374c36645450231cec35a8acdf80c31ce2b039fa5c16d315f6dce", func := "loop.example/g00886/laws.FnExactWeatherCost", spec := "fnExactWeatherCost", apart := false }
def FnExactWeatherCostSaid : Prop := fnExactWeatherCostRow.holds Try.pinned (OpenSpec.ofChange fnExactWeatherCostSpec)

/-- ITS FALSE NEIGHBOUR: 'it returns false'. Refute it at one input. -/
def fnExactWeatherCostWrong : ChangeSpec := { name := "fnExactWeatherCost", fn := fun _ => fun
  | [d1, d2] => { results := [.lit (.bool false)], args := [d1, d2] }
  | _ => none }
def FnExactWeatherCostWrongFalsely : Prop := fnExactWeatherCostRow.holds Try.pinned (OpenSpec.ofChange fnExactWeatherCostWrong)

/- THE SECOND FORM. 'bulk': how many values and letters a reading holds, each counted each time it is reached (what is shared counts as often as it is met; a slice's spare places count too). A statement '..UptoSaid' is the law's where the arguments, and the package variables that the reading takes, are together of bulk at most 1048576: NARROWER than '..Said'. Prove '..Said' where nothing that the law and all that it calls make is longer than what came in: it says more and counts as full. Else prove '..UptoSaid'. A law counts once. -/
mutual
def uptoBulk {H : Type} : DataW H → Nat
  | .lit (.string bytes) => bytes.length + 1
  | .lit _ => 1
  | .nil => 1
  | .ptr d => uptoBulk d + 1
  | .slice elems spare => uptoBulkAll elems + uptoBulkAll spare + 1
  | .agg parts => uptoBulkAll parts + 1
  | .iface _ d => uptoBulk d + 1
  | .map entries => uptoBulkEntries entries + 1
  | .held _ => 1
def uptoBulkAll {H : Type} : List (DataW H) → Nat
  | [] => 0
  | d :: r => uptoBulk d + uptoBulkAll r
def uptoBulkEntries {H : Type} : List (Lit × DataW H) → Nat
  | [] => 0
  | x :: r => uptoBulkEntry x + uptoBulkEntries r
def uptoBulkEntry {H : Type} : Lit × DataW H → Nat
  | (.string bytes, d) => bytes.length + uptoBulk d + 1
  | (_, d) => uptoBulk d + 1
 end
def uptoSmall : (H : Type) → List (DataW H) → Bool := fun _ ds => decide (uptoBulkAll ds ≤ 1048576)
def OpenSpec.upto (s : _root_.Go.ChangeSpec) : _root_.Go.OpenSpec := { _root_.Go.OpenSpec.ofChange s with cond := some uptoSmall }

/-- 'laws.FnExactGreatestOf', WHERE WHAT IT READS IS OF BULK AT MOST 1048576: true; the input reads as it did. -/
def fnExactGreatestOfUptoRow : OpenClaim := { program := "ytdkcfhjbdbeebaa", sum := "8379621ccd8374c36645450231cec35a8acdf80c31ce2b039fa5c16d315f6dce", func := "loop.example/g00886/laws.FnExactGreatestOf", spec := "fnExactGreatestOf", apart := false, narrowed := true }
def FnExactGreatestOfUptoSaid : Prop := fnExactGreatestOfUptoRow.holds Try.pinned (OpenSpec.upto fnExactGreatestOfSpec)

/-- 'laws.FnExactWeatherCost', WHERE WHAT IT READS IS OF BULK AT MOST 1048576: true; the input reads as it did. -/
def fnExactWeatherCostUptoRow : OpenClaim := { program := "ytdkcfhjbdbeebaa", sum := "8379621ccd8374c36645450231cec35a8acdf80c31ce2b039fa5c16d315f6dce", func := "loop.example/g00886/laws.FnExactWeatherCost", spec := "fnExactWeatherCost", apart := false, narrowed := true }
def FnExactWeatherCostUptoSaid : Prop := fnExactWeatherCostUptoRow.holds Try.pinned (OpenSpec.upto fnExactWeatherCostSpec)

end Rows
end Go.Proofs.Ytdkcfhjbdbeebaa
