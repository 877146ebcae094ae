-- Laid by this session's own program (wip/myprint.py): Lean functions for the Go functions that a law reaches, and their contracts. Not trusted: Lean checks it. (slimmed by wip/slim10.py)
import Derived.Test.YtggkealdbebbkaaProg
import Derived.Below
import Derived.Deep.Draws
import Derived.Deep.AppendLies
import Derived.Maps.AppendAt
import Derived.OwnWalk
import Derived.Laws.BytesArg
import Derived.Laws.MakeOwn
import Derived.Laws.OwnMore
import Derived.Deep.OwnRows
import Derived.Tactics
import Derived.Lib.ConvBytes
import Derived.Laws.Slices
import Derived.WalkKit
import Derived.KernelRfl
import Derived.RowKit3
import Derived.Deep.LoopGhost
import Derived.Deep.QuietTactic
import Derived.BigQuiet
import Derived.WideLaws
import Derived.Deep.DeepCutAuto
import Derived.Deep.CutBlock
import Derived.Deep.RegionHeld3
import Derived.Laws.Rows
import Derived.Lib.AppendStr
import Derived.ArgAppend
import Derived.Laws.IdiomCopy
import Derived.OrdersHeld
import Derived.Laws.BitsLemmas
import Derived.RowKit
import Derived.Test.YtggkealdbebbkaaWWords
import Derived.Test.YtggkealdbebbkaaWLast
import Derived.Test.YtggkealdbebbkaaWTab
import Derived.Test.YtggkealdbebbkaaWQPut
import Derived.Test.YtggkealdbebbkaaWApart
import Derived.Test.YtggkealdbebbkaaWArr
import Derived.Test.YtggkealdbebbkaaWZeros
import Derived.Test.YtggkealdbebbkaaWFoot
import Derived.Test.YtggkealdbebbkaaWKept
import Derived.Test.YtggkealdbebbkaaWShare
import Derived.Test.YtggkealdbebbkaaWN
import Derived.Test.YtggkealdbebbkaaWEqStruct
import Derived.Test.YtggkealdbebbkaaWRepsOne
import Derived.Test.YtggkealdbebbkaaWGuard
import Derived.Test.YtggkealdbebbkaaWNEv
import Derived.Test.YtggkealdbebbkaaWMore
namespace Go.Proofs.Ytggkealdbebbkaa.Q
open Go.RowKit Go.Proofs.YtggkealdbebbkaaW.PrintWords Go.Proofs.YtggkealdbebbkaaW.PrintLast Go.Proofs.YtggkealdbebbkaaW.PrintMore
attribute [local go_sem] max2_int min2_int max_two min_two max_three min_three max_four min_four   -- for this text's walks alone
set_option linter.unusedVariables false
set_option linter.unusedSimpArgs false



def errW : Option Int → Value
 |none => .nilIface
 |some c => .iface 0 (.int .i64 c)
theorem errW_none : errW none = .nilIface := rfl
theorem errW_some (c : Int) : errW (some c) = .iface 0 (.int .i64 c) := rfl

theorem info3 : (Try.prog.info? 3).map (fun i => (i.zero, i.size, i.bytes)) = some (some (.int .i64 0), 1, 8) := by kernel_rfl
-- the values' own types

end Go.Proofs.Ytggkealdbebbkaa.Q
