/- Made by a program of this session (wip/tools/myprint.py, over the kit's printer): that the Go functions answer as the Lean functions printed beside them. -/
import Derived.Test.YthghilclgobpbaaPProbeAllx0
import Derived.Test.YthghilclgobpbaaPProbeAllx1
import Derived.Test.YthghilclgobpbaaPProbeAllx2
import Derived.Test.YthghilclgobpbaaPProbeAllx3
import Derived.Test.YthghilclgobpbaaPProbeAllx4
import Derived.Test.YthghilclgobpbaaPProbeAllx5
import Derived.Test.YthghilclgobpbaaPProbeAllx6
import Derived.Test.YthghilclgobpbaaPProbeAllx7
import Derived.Test.YthghilclgobpbaaPProbeAllx8
import Derived.Test.YthghilclgobpbaaPProbeAllx9
import Derived.Test.YthghilclgobpbaaPProbeAllx10
namespace Go.Proofs.Ythghilclgobpbaa.PProbeAll
open Go.RowKit Go.Proofs.YthghilclgobpbaaW.PrintWords Go.Proofs.YthghilclgobpbaaW.PrintLast Go.Proofs.YthghilclgobpbaaW.PrintMore
attribute [local go_sem] max2_int min2_int max_two min_two max_three min_three max_four min_four   -- for this text's walks alone
set_option linter.unusedVariables false
set_option linter.unusedSimpArgs false

end Go.Proofs.Ythghilclgobpbaa.PProbeAll
