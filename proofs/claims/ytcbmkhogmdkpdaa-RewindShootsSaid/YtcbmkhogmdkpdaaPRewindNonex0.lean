/- Began as a print of print.sh (the words and functions that the law stands on); cut to what this claim needs. -/
import Derived.Test.YtcbmkhogmdkpdaaProg
import Derived.Below
import Derived.Deep.Draws
import Derived.Deep.AppendLies
import Derived.Maps.AppendAt
import Derived.OwnWalk
import Derived.Laws.BytesArg
import Derived.Laws.MakeOwn
import Derived.Laws.OwnMore
import Derived.Deep.OwnRows
import Derived.Tactics
import Derived.Lib.ConvBytes
import Derived.Laws.Slices
import Derived.WalkKit
import Derived.KernelRfl
import Derived.RowKit3
import Derived.Deep.LoopGhost
import Derived.Deep.QuietTactic
import Derived.BigQuiet
import Derived.WideLaws
import Derived.Deep.DeepCutAuto
import Derived.Deep.CutBlock
import Derived.Deep.RegionHeld3
import Derived.Laws.Rows
import Derived.Lib.AppendStr
import Derived.ArgAppend
import Derived.Laws.IdiomCopy
import Derived.OrdersHeld
import Derived.Laws.BitsLemmas
import Derived.RowKit
import Derived.Test.YtcbmkhogmdkpdaaWWords
import Derived.Test.YtcbmkhogmdkpdaaWLast
import Derived.Test.YtcbmkhogmdkpdaaWTab
import Derived.Test.YtcbmkhogmdkpdaaWQPut
import Derived.Test.YtcbmkhogmdkpdaaWApart
import Derived.Test.YtcbmkhogmdkpdaaWFoot
import Derived.Test.YtcbmkhogmdkpdaaWKept
import Derived.Test.YtcbmkhogmdkpdaaWShare
import Derived.Test.YtcbmkhogmdkpdaaWN
import Derived.Laws.StructEq
import Derived.Test.YtcbmkhogmdkpdaaWRepsOne
import Derived.Test.YtcbmkhogmdkpdaaWMore
namespace Go.Proofs.Ytcbmkhogmdkpdaa.PRewindNone
open Go.RowKit Go.Proofs.YtcbmkhogmdkpdaaW.PrintWords Go.Proofs.YtcbmkhogmdkpdaaW.PrintLast Go.Proofs.YtcbmkhogmdkpdaaW.PrintMore
attribute [local go_sem] max2_int min2_int max_two min_two max_three min_three max_four min_four   -- for this text's walks alone
set_option linter.unusedVariables false
set_option linter.unusedSimpArgs false
def errW : Option Int → Value
  | none => .nilIface
  | some c => .iface 0 (.int .i64 c)
theorem errW_none : errW none = .nilIface := rfl
theorem errW_some (c : Int) : errW (some c) = .iface 0 (.int .i64 c) := rfl
-- the values' own types
end Go.Proofs.Ytcbmkhogmdkpdaa.PRewindNone
