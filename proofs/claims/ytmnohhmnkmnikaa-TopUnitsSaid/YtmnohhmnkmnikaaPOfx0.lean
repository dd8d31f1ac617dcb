-- Out of a print by the kit (print.sh), altered: what this claim does not name is left out.
import Derived.Test.YtmnohhmnkmnikaaProg
import Derived.Below
import Derived.Deep.Draws
import Derived.Deep.AppendLies
import Derived.Maps.AppendAt
import Derived.OwnWalk
import Derived.Laws.BytesArg
import Derived.Laws.MakeOwn
import Derived.Laws.OwnMore
import Derived.Deep.OwnRows
import Derived.Tactics
import Derived.Lib.ConvBytes
import Derived.Laws.Slices
import Derived.WalkKit
import Derived.KernelRfl
import Derived.RowKit3
import Derived.Deep.LoopGhost
import Derived.Deep.QuietTactic
import Derived.BigQuiet
import Derived.WideLaws
import Derived.Deep.DeepCutAuto
import Derived.Deep.CutBlock
import Derived.Deep.RegionHeld3
import Derived.Laws.Rows
import Derived.Lib.AppendStr
import Derived.ArgAppend
import Derived.Laws.IdiomCopy
import Derived.OrdersHeld
import Derived.Laws.BitsLemmas
import Derived.RowKit
import Derived.Test.YtmnohhmnkmnikaaWWords
import Derived.Test.YtmnohhmnkmnikaaWLast
import Derived.Test.YtmnohhmnkmnikaaWTab
import Derived.Test.YtmnohhmnkmnikaaWApart
import Derived.Test.YtmnohhmnkmnikaaWFoot
import Derived.Test.YtmnohhmnkmnikaaWKept
import Derived.Test.YtmnohhmnkmnikaaWShare
import Derived.Test.YtmnohhmnkmnikaaWN
import Derived.Laws.StructEq
import Derived.Test.YtmnohhmnkmnikaaWRepsOne
import Derived.Test.YtmnohhmnkmnikaaWGuard
import Derived.Test.YtmnohhmnkmnikaaWMore
namespace Go.Proofs.Ytmnohhmnkmnikaa.POf
open Go.RowKit Go.Proofs.YtmnohhmnkmnikaaW.PrintWords Go.Proofs.YtmnohhmnkmnikaaW.PrintLast Go.Proofs.YtmnohhmnkmnikaaW.PrintMore
attribute [local go_sem] max2_int min2_int max_two min_two max_three min_three max_four min_four   -- for this text's walks alone
set_option linter.unusedVariables false
set_option linter.unusedSimpArgs false



def errW : Option Int → Value
  | none => .nilIface
  | some c => .iface 0 (.int .i64 c)
theorem errW_none : errW none = .nilIface := rfl
theorem errW_some (c : Int) : errW (some c) = .iface 0 (.int .i64 c) := rfl

-- the values' own types

end Go.Proofs.Ytmnohhmnkmnikaa.POf
