/- Made by a program of this session (wip/tools/myprint.py, over the kit's printer): that the Go functions answer as the Lean functions printed beside them. -/
import Derived.Test.YtbpbpojnfhhbjaaPChartLinksx0
import Derived.Test.YtbpbpojnfhhbjaaPChartLinksx1
import Derived.Test.YtbpbpojnfhhbjaaPChartLinksx2
import Derived.Test.YtbpbpojnfhhbjaaPChartLinksx3
import Derived.Test.YtbpbpojnfhhbjaaPChartLinksx4
import Derived.Test.YtbpbpojnfhhbjaaPChartLinksx5
import Derived.Test.YtbpbpojnfhhbjaaPChartLinksx6
import Derived.Test.YtbpbpojnfhhbjaaPChartLinksx7
import Derived.Test.YtbpbpojnfhhbjaaPChartLinksx8
import Derived.Test.YtbpbpojnfhhbjaaPChartLinksx9
import Derived.Test.YtbpbpojnfhhbjaaPChartLinksx10
namespace Go.Proofs.Ytbpbpojnfhhbjaa.PChartLinks
open Go.RowKit Go.Proofs.YtbpbpojnfhhbjaaW.PrintWords Go.Proofs.YtbpbpojnfhhbjaaW.PrintLast Go.Proofs.YtbpbpojnfhhbjaaW.PrintMore
attribute [local go_sem] max2_int min2_int max_two min_two max_three min_three max_four min_four   -- for this text's walks alone
set_option linter.unusedVariables false
set_option linter.unusedSimpArgs false

end Go.Proofs.Ytbpbpojnfhhbjaa.PChartLinks
