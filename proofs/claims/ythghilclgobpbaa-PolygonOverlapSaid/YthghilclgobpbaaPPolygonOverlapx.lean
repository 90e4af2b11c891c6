/- Made by a program of this session (wip/tools/myprint.py, over the kit's printer): that the Go functions answer as the Lean functions printed beside them. -/
import Derived.Test.YthghilclgobpbaaPPolygonOverlapx0
import Derived.Test.YthghilclgobpbaaPPolygonOverlapx1
import Derived.Test.YthghilclgobpbaaPPolygonOverlapx2
import Derived.Test.YthghilclgobpbaaPPolygonOverlapx3
import Derived.Test.YthghilclgobpbaaPPolygonOverlapx4
import Derived.Test.YthghilclgobpbaaPPolygonOverlapx5
import Derived.Test.YthghilclgobpbaaPPolygonOverlapx6
import Derived.Test.YthghilclgobpbaaPPolygonOverlapx7
import Derived.Test.YthghilclgobpbaaPPolygonOverlapx8
import Derived.Test.YthghilclgobpbaaPPolygonOverlapx9
import Derived.Test.YthghilclgobpbaaPPolygonOverlapx10
import Derived.Test.YthghilclgobpbaaPPolygonOverlapx11
import Derived.Test.YthghilclgobpbaaPPolygonOverlapx12
import Derived.Test.YthghilclgobpbaaPPolygonOverlapx13
namespace Go.Proofs.Ythghilclgobpbaa.PPolygonOverlap
open Go.RowKit Go.Proofs.YthghilclgobpbaaW.PrintWords Go.Proofs.YthghilclgobpbaaW.PrintLast Go.Proofs.YthghilclgobpbaaW.PrintMore
attribute [local go_sem] max2_int min2_int max_two min_two max_three min_three max_four min_four   -- for this text's walks alone
set_option linter.unusedVariables false
set_option linter.unusedSimpArgs false

end Go.Proofs.Ythghilclgobpbaa.PPolygonOverlap
