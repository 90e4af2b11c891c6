/- Made by a program of this session (wip/tools/myprint.py, over the kit's printer): that the Go functions answer as the Lean functions printed beside them. -/
import Derived.Test.YtfchcleochphoaaDoorProg
import Derived.Below
import Derived.Deep.Draws
import Derived.Deep.AppendLies
import Derived.Maps.AppendAt
import Derived.OwnWalk
import Derived.Laws.BytesArg
import Derived.Laws.MakeOwn
import Derived.Laws.OwnMore
import Derived.Deep.OwnRows
import Derived.Tactics
import Derived.Lib.ConvBytes
import Derived.Laws.Slices
import Derived.WalkKit
import Derived.KernelRfl
import Derived.RowKit3
import Derived.Deep.LoopGhost
import Derived.Deep.QuietTactic
import Derived.BigQuiet
import Derived.WideLaws
import Derived.Deep.DeepCutAuto
import Derived.Deep.CutBlock
import Derived.Deep.RegionHeld3
import Derived.Laws.Rows
import Derived.Lib.AppendStr
import Derived.ArgAppend
import Derived.Laws.IdiomCopy
import Derived.OrdersHeld
import Derived.Laws.BitsLemmas
import Derived.RowKit
import Derived.Test.YtfchcleochphoaaDoorIdx
import Derived.Test.YtfchcleochphoaaDoorWWords
import Derived.Test.YtfchcleochphoaaDoorWLast
import Derived.Test.YtfchcleochphoaaDoorWTab
import Derived.Test.YtfchcleochphoaaDoorWFour
import Derived.Test.YtfchcleochphoaaDoorWQPut
import Derived.Test.YtfchcleochphoaaDoorWApart
import Derived.Test.YtfchcleochphoaaDoorWArr
import Derived.Test.YtfchcleochphoaaDoorWZeros
import Derived.Test.YtfchcleochphoaaDoorWFoot
import Derived.Test.YtfchcleochphoaaDoorWKept
import Derived.Test.YtfchcleochphoaaDoorWShare
import Derived.Test.YtfchcleochphoaaDoorWN
import Derived.Test.YtfchcleochphoaaDoorWFootNe
import Derived.Test.YtfchcleochphoaaDoorWAt
import Derived.Test.YtfchcleochphoaaDoorWEqStruct
import Derived.Test.YtfchcleochphoaaDoorWRepsOne
import Derived.Test.YtfchcleochphoaaDoorWInv
import Derived.Test.YtfchcleochphoaaDoorWInvWords
import Derived.Test.YtfchcleochphoaaDoorWGuard
import Derived.Test.YtfchcleochphoaaDoorWNEv
import Derived.Test.YtfchcleochphoaaDoorWMore
namespace Go.Proofs.YtfchcleochphoaaDoor.PBitsFloors
open Go.RowKit Go.Proofs.YtfchcleochphoaaDoorW.PrintWords Go.Proofs.YtfchcleochphoaaDoorW.PrintLast Go.Proofs.YtfchcleochphoaaDoorW.PrintMore
attribute [local go_sem] max2_int min2_int max_two min_two max_three min_three max_four min_four   -- for this text's walks alone
set_option linter.unusedVariables false
set_option linter.unusedSimpArgs false



def errW : Option Int → Value
  | none => .nilIface
  | some c => .iface 0 (.int .i64 c)
theorem errW_none : errW none = .nilIface := rfl
theorem errW_some (c : Int) : errW (some c) = .iface 0 (.int .i64 c) := rfl

-- the values' own types

end Go.Proofs.YtfchcleochphoaaDoor.PBitsFloors
