/- Made by a program of this session (wip/tools/myprint.py, over the kit's printer): that the Go functions answer as the Lean functions printed beside them. -/
import Derived.Test.YtbpbpojnfhhbjaaPChartNearx0
import Derived.Test.YtbpbpojnfhhbjaaPChartNearx1
import Derived.Test.YtbpbpojnfhhbjaaPChartNearx2
import Derived.Test.YtbpbpojnfhhbjaaPChartNearx3
import Derived.Test.YtbpbpojnfhhbjaaPChartNearx4
import Derived.Test.YtbpbpojnfhhbjaaPChartNearx5
import Derived.Test.YtbpbpojnfhhbjaaPChartNearx6
import Derived.Test.YtbpbpojnfhhbjaaPChartNearx7
import Derived.Test.YtbpbpojnfhhbjaaPChartNearx8
namespace Go.Proofs.Ytbpbpojnfhhbjaa.PChartNear
open Go.RowKit Go.Proofs.YtbpbpojnfhhbjaaW.PrintWords Go.Proofs.YtbpbpojnfhhbjaaW.PrintLast Go.Proofs.YtbpbpojnfhhbjaaW.PrintMore
attribute [local go_sem] max2_int min2_int max_two min_two max_three min_three max_four min_four   -- for this text's walks alone
set_option linter.unusedVariables false
set_option linter.unusedSimpArgs false

end Go.Proofs.Ytbpbpojnfhhbjaa.PChartNear
