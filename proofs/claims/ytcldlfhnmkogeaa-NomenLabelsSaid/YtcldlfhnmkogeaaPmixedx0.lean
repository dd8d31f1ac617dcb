-- PRINTED BY print.sh 35421559b90ae4d0a3588c463048766b98c2df88dd9212a6774a882060cdf62d: not written by this session
import Derived.Test.YtcldlfhnmkogeaaProg
import Derived.Below
import Derived.Deep.Draws
import Derived.Deep.AppendLies
import Derived.Maps.AppendAt
import Derived.OwnWalk
import Derived.Laws.BytesArg
import Derived.Laws.MakeOwn
import Derived.Laws.OwnMore
import Derived.Deep.OwnRows
import Derived.Tactics
import Derived.Lib.ConvBytes
import Derived.Laws.Slices
import Derived.WalkKit
import Derived.KernelRfl
import Derived.RowKit3
import Derived.Deep.LoopGhost
import Derived.Deep.QuietTactic
import Derived.BigQuiet
import Derived.WideLaws
import Derived.Deep.DeepCutAuto
import Derived.Deep.CutBlock
import Derived.Deep.RegionHeld3
import Derived.Laws.Rows
import Derived.Lib.AppendStr
import Derived.ArgAppend
import Derived.Laws.IdiomCopy
import Derived.OrdersHeld
import Derived.Laws.BitsLemmas
import Derived.RowKit
import Derived.Test.YtcldlfhnmkogeaaWWords
import Derived.Test.YtcldlfhnmkogeaaWLast
import Derived.Test.YtcldlfhnmkogeaaWTab
import Derived.Test.YtcldlfhnmkogeaaWFour
import Derived.Test.YtcldlfhnmkogeaaWQPut
import Derived.Test.YtcldlfhnmkogeaaWApart
import Derived.Test.YtcldlfhnmkogeaaWArr
import Derived.Test.YtcldlfhnmkogeaaWZeros
import Derived.Test.YtcldlfhnmkogeaaWFoot
import Derived.Test.YtcldlfhnmkogeaaWKept
import Derived.Test.YtcldlfhnmkogeaaWShare
import Derived.Test.YtcldlfhnmkogeaaWN
import Derived.Test.YtcldlfhnmkogeaaWFootNe
import Derived.Test.YtcldlfhnmkogeaaWAt
import Derived.Test.YtcldlfhnmkogeaaWEqStruct
import Derived.Test.YtcldlfhnmkogeaaWRepsOne
import Derived.Test.YtcldlfhnmkogeaaWInv
import Derived.Test.YtcldlfhnmkogeaaWInvWords
import Derived.Test.YtcldlfhnmkogeaaWGuard
import Derived.Test.YtcldlfhnmkogeaaWNEv
import Derived.Test.YtcldlfhnmkogeaaWMore
namespace Go.Proofs.Ytcldlfhnmkogeaa.Pmixed
open Go.RowKit Go.Proofs.YtcldlfhnmkogeaaW.PrintWords Go.Proofs.YtcldlfhnmkogeaaW.PrintLast Go.Proofs.YtcldlfhnmkogeaaW.PrintMore
attribute [local go_sem] max2_int min2_int max_two min_two max_three min_three max_four min_four   -- for this text's walks alone
set_option linter.unusedVariables false
set_option linter.unusedSimpArgs false



def errW : Option Int → Value
  | none => .nilIface
  | some c => .iface 0 (.int .i64 c)
theorem errW_none : errW none = .nilIface := rfl
theorem errW_some (c : Int) : errW (some c) = .iface 0 (.int .i64 c) := rfl

-- the values' own types

end Go.Proofs.Ytcldlfhnmkogeaa.Pmixed
