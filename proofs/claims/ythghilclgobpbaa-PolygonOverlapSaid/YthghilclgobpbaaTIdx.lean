import Derived.Test.YthghilclgobpbaaProg
import Derived.Test.YthghilclgobpbaaTWWords
import Derived.Test.YthghilclgobpbaaTWLast
import Derived.Test.YthghilclgobpbaaTWMore
import Derived.Shelf.Abstract
import Derived.Laws.Strings
namespace Go.Proofs.Ythghilclgobpbaa.IdxF
open Go Go.RowKit Go.Proofs.YthghilclgobpbaaW.PrintWords Go.Proofs.YthghilclgobpbaaW.PrintLast
theorem len1 {α : Type} {l : List α} (h : l.length = 1) : ∃ a0, l = [a0] := by
  match l, h with
  | [a0], _ => exact ⟨a0, rfl⟩
end Go.Proofs.Ythghilclgobpbaa.IdxF
