/- Made by a program of this session (wip/tools/myprint.py, over the kit's printer): that the Go functions answer as the Lean functions printed beside them. -/
import Derived.Test.YteaddpieonkboacPProbeWiderx0
import Derived.Test.YteaddpieonkboacPProbeWiderx1
import Derived.Test.YteaddpieonkboacPProbeWiderx2
import Derived.Test.YteaddpieonkboacPProbeWiderx3
import Derived.Test.YteaddpieonkboacPProbeWiderx4
import Derived.Test.YteaddpieonkboacPProbeWiderx5
import Derived.Test.YteaddpieonkboacPProbeWiderx6
import Derived.Test.YteaddpieonkboacPProbeWiderx7
namespace Go.Proofs.Yteaddpieonkboac.PProbeWider
open Go.RowKit Go.Proofs.YteaddpieonkboacW.PrintWords Go.Proofs.YteaddpieonkboacW.PrintLast Go.Proofs.YteaddpieonkboacW.PrintMore
attribute [local go_sem] max2_int min2_int max_two min_two max_three min_three max_four min_four   -- for this text's walks alone
set_option linter.unusedVariables false
set_option linter.unusedSimpArgs false

end Go.Proofs.Yteaddpieonkboac.PProbeWider
