/- Made by a program of this session (wip/tools/myprint.py, over the kit's printer): that the Go functions answer as the Lean functions printed beside them. -/
import Derived.Test.YtaahnfajcbkknaaProg
import Derived.Below
import Derived.Deep.Draws
import Derived.Deep.AppendLies
import Derived.Maps.AppendAt
import Derived.OwnWalk
import Derived.Laws.BytesArg
import Derived.Laws.MakeOwn
import Derived.Laws.OwnMore
import Derived.Deep.OwnRows
import Derived.Tactics
import Derived.Lib.ConvBytes
import Derived.Laws.Slices
import Derived.WalkKit
import Derived.KernelRfl
import Derived.RowKit3
import Derived.Deep.LoopGhost
import Derived.Deep.QuietTactic
import Derived.BigQuiet
import Derived.WideLaws
import Derived.Deep.DeepCutAuto
import Derived.Deep.CutBlock
import Derived.Deep.RegionHeld3
import Derived.Laws.Rows
import Derived.Lib.AppendStr
import Derived.ArgAppend
import Derived.Laws.IdiomCopy
import Derived.OrdersHeld
import Derived.Laws.BitsLemmas
import Derived.RowKit
import Derived.Test.YtaahnfajcbkknaaWWords
import Derived.Test.YtaahnfajcbkknaaWLast
import Derived.Test.YtaahnfajcbkknaaWTab
import Derived.Test.YtaahnfajcbkknaaWFour
import Derived.Test.YtaahnfajcbkknaaWQPut
import Derived.Test.YtaahnfajcbkknaaWApart
import Derived.Test.YtaahnfajcbkknaaWArr
import Derived.Test.YtaahnfajcbkknaaWZeros
import Derived.Test.YtaahnfajcbkknaaWFoot
import Derived.Test.YtaahnfajcbkknaaWKept
import Derived.Test.YtaahnfajcbkknaaWShare
import Derived.Test.YtaahnfajcbkknaaWN
import Derived.Test.YtaahnfajcbkknaaWFootNe
import Derived.Test.YtaahnfajcbkknaaWAt
import Derived.Test.YtaahnfajcbkknaaWEqStruct
import Derived.Test.YtaahnfajcbkknaaWRepsOne
import Derived.Test.YtaahnfajcbkknaaWInv
import Derived.Test.YtaahnfajcbkknaaWInvWords
import Derived.Test.YtaahnfajcbkknaaWGuard
import Derived.Test.YtaahnfajcbkknaaWNEv
import Derived.Test.YtaahnfajcbkknaaWMore
namespace Go.Proofs.Ytaahnfajcbkknaa.PNumSame
open Go.RowKit Go.Proofs.YtaahnfajcbkknaaW.PrintWords Go.Proofs.YtaahnfajcbkknaaW.PrintLast Go.Proofs.YtaahnfajcbkknaaW.PrintMore
attribute [local go_sem] max2_int min2_int max_two min_two max_three min_three max_four min_four   -- for this text's walks alone
set_option linter.unusedVariables false
set_option linter.unusedSimpArgs false



def errW : Option Int → Value
  | none => .nilIface
  | some c => .iface 0 (.int .i64 c)
theorem errW_none : errW none = .nilIface := rfl
theorem errW_some (c : Int) : errW (some c) = .iface 0 (.int .i64 c) := rfl

-- the values' own types

end Go.Proofs.Ytaahnfajcbkknaa.PNumSame
