/- Made by a program of this session (wip/tools/myprint.py, over the kit's printer): that the Go functions answer as the Lean functions printed beside them. -/
import Derived.Test.YteaddpieonkboabPTubeBetweenx0
import Derived.Test.YteaddpieonkboabPTubeBetweenx1
import Derived.Test.YteaddpieonkboabPTubeBetweenx2
import Derived.Test.YteaddpieonkboabPTubeBetweenx3
import Derived.Test.YteaddpieonkboabPTubeBetweenx4
import Derived.Test.YteaddpieonkboabPTubeBetweenx5
import Derived.Test.YteaddpieonkboabPTubeBetweenx6
import Derived.Test.YteaddpieonkboabPTubeBetweenx7
import Derived.Test.YteaddpieonkboabPTubeBetweenx8
import Derived.Test.YteaddpieonkboabPTubeBetweenx9
namespace Go.Proofs.Yteaddpieonkboab.PTubeBetween
open Go.RowKit Go.Proofs.YteaddpieonkboabW.PrintWords Go.Proofs.YteaddpieonkboabW.PrintLast Go.Proofs.YteaddpieonkboabW.PrintMore
attribute [local go_sem] max2_int min2_int max_two min_two max_three min_three max_four min_four   -- for this text's walks alone
set_option linter.unusedVariables false
set_option linter.unusedSimpArgs false

end Go.Proofs.Yteaddpieonkboab.PTubeBetween
