import GoSem.Core.Float
import Derived.Test.YthghilclgobpbaaProg
import Derived.Test.YthghilclgobpbaaTWWords
import Derived.Test.YthghilclgobpbaaTWLast
import Derived.Tactics
import Derived.WalkKit
import Derived.KernelRfl
import Derived.RowKit3
import Derived.Deep.LoopGhost
import Derived.Laws.Externs
import Derived.Lib.Hide
import Derived.RowKit
namespace Go.Proofs.Ythghilclgobpbaa.RootF
open Ieee
open Go.RowKit Go.Proofs.YthghilclgobpbaaW.PrintWords Go.Proofs.YthghilclgobpbaaW.PrintLast
theorem small (q : Nat) (n : Int) (h : (q : Int) * q ≤ n) (hn : n ≤ 9223372036854775807) : q ≤ 3037000499 := by
  rcases Nat.lt_or_ge 3037000499 q with h1 | h1
  · have h2 := Nat.mul_le_mul h1 h1
    have h3 : ((q * q : Nat) : Int) ≤ n := by exact_mod_cast h
    omega
  · exact h1
end Go.Proofs.Ythghilclgobpbaa.RootF
