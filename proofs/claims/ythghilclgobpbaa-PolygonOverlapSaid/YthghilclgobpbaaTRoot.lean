import GoSem.Core.Float
import Derived.Test.YthghilclgobpbaaProg
import Derived.Test.YthghilclgobpbaaTWWords
import Derived.Test.YthghilclgobpbaaTWLast
import Derived.Tactics
import Derived.WalkKit
import Derived.KernelRfl
import Derived.RowKit3
import Derived.Deep.LoopGhost
import Derived.Laws.Externs
import Derived.Lib.Hide
import Derived.RowKit
namespace Go.Proofs.Ythghilclgobpbaa.RootF
open Ieee
open Go.RowKit Go.Proofs.YthghilclgobpbaaW.PrintWords Go.Proofs.YthghilclgobpbaaW.PrintLast
end Go.Proofs.Ythghilclgobpbaa.RootF
