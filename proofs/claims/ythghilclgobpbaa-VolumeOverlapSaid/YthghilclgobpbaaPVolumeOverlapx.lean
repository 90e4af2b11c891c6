/- Made by a program of this session (wip/tools/myprint.py, over the kit's printer): that the Go functions answer as the Lean functions printed beside them. -/
import Derived.Test.YthghilclgobpbaaPVolumeOverlapx0
import Derived.Test.YthghilclgobpbaaPVolumeOverlapx1
import Derived.Test.YthghilclgobpbaaPVolumeOverlapx2
import Derived.Test.YthghilclgobpbaaPVolumeOverlapx3
import Derived.Test.YthghilclgobpbaaPVolumeOverlapx4
import Derived.Test.YthghilclgobpbaaPVolumeOverlapx5
import Derived.Test.YthghilclgobpbaaPVolumeOverlapx6
import Derived.Test.YthghilclgobpbaaPVolumeOverlapx7
import Derived.Test.YthghilclgobpbaaPVolumeOverlapx8
import Derived.Test.YthghilclgobpbaaPVolumeOverlapx9
import Derived.Test.YthghilclgobpbaaPVolumeOverlapx10
import Derived.Test.YthghilclgobpbaaPVolumeOverlapx11
import Derived.Test.YthghilclgobpbaaPVolumeOverlapx12
import Derived.Test.YthghilclgobpbaaPVolumeOverlapx13
import Derived.Test.YthghilclgobpbaaPVolumeOverlapx14
namespace Go.Proofs.Ythghilclgobpbaa.PVolumeOverlap
open Go.RowKit Go.Proofs.YthghilclgobpbaaW.PrintWords Go.Proofs.YthghilclgobpbaaW.PrintLast Go.Proofs.YthghilclgobpbaaW.PrintMore
attribute [local go_sem] max2_int min2_int max_two min_two max_three min_three max_four min_four   -- for this text's walks alone
set_option linter.unusedVariables false
set_option linter.unusedSimpArgs false

end Go.Proofs.Ythghilclgobpbaa.PVolumeOverlap
