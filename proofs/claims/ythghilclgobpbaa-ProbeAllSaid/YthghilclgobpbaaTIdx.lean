import Derived.Test.YthghilclgobpbaaProg
import Derived.Test.YthghilclgobpbaaTWWords
import Derived.Test.YthghilclgobpbaaTWLast
import Derived.Test.YthghilclgobpbaaTWMore
import Derived.Shelf.Abstract
import Derived.Laws.Strings
namespace Go.Proofs.Ythghilclgobpbaa.IdxF
open Go Go.RowKit Go.Proofs.YthghilclgobpbaaW.PrintWords Go.Proofs.YthghilclgobpbaaW.PrintLast
end Go.Proofs.Ythghilclgobpbaa.IdxF
