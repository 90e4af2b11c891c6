/- Made by a program of this session (wip/tools/myprint.py, over the kit's printer): that the Go functions answer as the Lean functions printed beside them. -/
import Derived.Test.YtbpbpojnfhhbjaaPChartBetweenx0
import Derived.Test.YtbpbpojnfhhbjaaPChartBetweenx1
import Derived.Test.YtbpbpojnfhhbjaaPChartBetweenx2
import Derived.Test.YtbpbpojnfhhbjaaPChartBetweenx3
import Derived.Test.YtbpbpojnfhhbjaaPChartBetweenx4
import Derived.Test.YtbpbpojnfhhbjaaPChartBetweenx5
import Derived.Test.YtbpbpojnfhhbjaaPChartBetweenx6
import Derived.Test.YtbpbpojnfhhbjaaPChartBetweenx7
namespace Go.Proofs.Ytbpbpojnfhhbjaa.PChartBetween
open Go.RowKit Go.Proofs.YtbpbpojnfhhbjaaW.PrintWords Go.Proofs.YtbpbpojnfhhbjaaW.PrintLast Go.Proofs.YtbpbpojnfhhbjaaW.PrintMore
attribute [local go_sem] max2_int min2_int max_two min_two max_three min_three max_four min_four   -- for this text's walks alone
set_option linter.unusedVariables false
set_option linter.unusedSimpArgs false

end Go.Proofs.Ytbpbpojnfhhbjaa.PChartBetween
