/- Made by a program of this session (wip/tools/myprint.py, over the kit's printer): that the Go functions answer as the Lean functions printed beside them. -/
import Derived.Test.YteaddpieonkboabPProbeMarginx0
import Derived.Test.YteaddpieonkboabPProbeMarginx1
import Derived.Test.YteaddpieonkboabPProbeMarginx2
import Derived.Test.YteaddpieonkboabPProbeMarginx3
import Derived.Test.YteaddpieonkboabPProbeMarginx4
import Derived.Test.YteaddpieonkboabPProbeMarginx5
import Derived.Test.YteaddpieonkboabPProbeMarginx6
namespace Go.Proofs.Yteaddpieonkboab.PProbeMargin
open Go.RowKit Go.Proofs.YteaddpieonkboabW.PrintWords Go.Proofs.YteaddpieonkboabW.PrintLast Go.Proofs.YteaddpieonkboabW.PrintMore
attribute [local go_sem] max2_int min2_int max_two min_two max_three min_three max_four min_four   -- for this text's walks alone
set_option linter.unusedVariables false
set_option linter.unusedSimpArgs false

end Go.Proofs.Yteaddpieonkboab.PProbeMargin
