-- PRINTED BY print.sh 35421559b90ae4d0a3588c463048766b98c2df88dd9212a6774a882060cdf62d: not written by this session
import Derived.Test.YtdkcfhjbdbeebaaProg
import Derived.Below
import Derived.Deep.Draws
import Derived.Deep.AppendLies
import Derived.Maps.AppendAt
import Derived.OwnWalk
import Derived.Laws.BytesArg
import Derived.Laws.MakeOwn
import Derived.Laws.OwnMore
import Derived.Deep.OwnRows
import Derived.Tactics
import Derived.Lib.ConvBytes
import Derived.Laws.Slices
import Derived.WalkKit
import Derived.KernelRfl
import Derived.RowKit3
import Derived.Deep.LoopGhost
import Derived.Deep.QuietTactic
import Derived.BigQuiet
import Derived.WideLaws
import Derived.Deep.DeepCutAuto
import Derived.Deep.CutBlock
import Derived.Deep.RegionHeld3
import Derived.Laws.Rows
import Derived.Lib.AppendStr
import Derived.ArgAppend
import Derived.Laws.IdiomCopy
import Derived.OrdersHeld
import Derived.Laws.BitsLemmas
import Derived.RowKit
import Derived.Test.YtdkcfhjbdbeebaaWWords
import Derived.Test.YtdkcfhjbdbeebaaWLast
import Derived.Test.YtdkcfhjbdbeebaaWTab
import Derived.Test.YtdkcfhjbdbeebaaWFour
import Derived.Test.YtdkcfhjbdbeebaaWQPut
import Derived.Test.YtdkcfhjbdbeebaaWApart
import Derived.Test.YtdkcfhjbdbeebaaWArr
import Derived.Test.YtdkcfhjbdbeebaaWZeros
import Derived.Test.YtdkcfhjbdbeebaaWFoot
import Derived.Test.YtdkcfhjbdbeebaaWKept
import Derived.Test.YtdkcfhjbdbeebaaWShare
import Derived.Test.YtdkcfhjbdbeebaaWN
import Derived.Test.YtdkcfhjbdbeebaaWFootNe
import Derived.Test.YtdkcfhjbdbeebaaWAt
import Derived.Test.YtdkcfhjbdbeebaaWEqStruct
import Derived.Test.YtdkcfhjbdbeebaaWRepsOne
import Derived.Test.YtdkcfhjbdbeebaaWInv
import Derived.Test.YtdkcfhjbdbeebaaWInvWords
import Derived.Test.YtdkcfhjbdbeebaaWGuard
import Derived.Test.YtdkcfhjbdbeebaaWNEv
import Derived.Test.YtdkcfhjbdbeebaaWMore
namespace Go.Proofs.Ytdkcfhjbdbeebaa.PFnExactWeatherCost
open Go.RowKit Go.Proofs.YtdkcfhjbdbeebaaW.PrintWords Go.Proofs.YtdkcfhjbdbeebaaW.PrintLast Go.Proofs.YtdkcfhjbdbeebaaW.PrintMore
attribute [local go_sem] max2_int min2_int max_two min_two max_three min_three max_four min_four   -- for this text's walks alone
set_option linter.unusedVariables false
set_option linter.unusedSimpArgs false



def errW : Option Int → Value
  | none => .nilIface
  | some c => .iface 0 (.int .i64 c)
theorem errW_none : errW none = .nilIface := rfl
theorem errW_some (c : Int) : errW (some c) = .iface 0 (.int .i64 c) := rfl

-- the values' own types

end Go.Proofs.Ytdkcfhjbdbeebaa.PFnExactWeatherCost
