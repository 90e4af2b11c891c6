/- Made by a program of this session (wip/tools/myprint.py, over the kit's printer): that the Go functions answer as the Lean functions printed beside them. -/
import Derived.Test.YtbpbpojnfhhbjaaPRouteDirectx0
import Derived.Test.YtbpbpojnfhhbjaaPRouteDirectx1
import Derived.Test.YtbpbpojnfhhbjaaPRouteDirectx2
import Derived.Test.YtbpbpojnfhhbjaaPRouteDirectx3
import Derived.Test.YtbpbpojnfhhbjaaPRouteDirectx4
import Derived.Test.YtbpbpojnfhhbjaaPRouteDirectx5
import Derived.Test.YtbpbpojnfhhbjaaPRouteDirectx6
import Derived.Test.YtbpbpojnfhhbjaaPRouteDirectx7
import Derived.Test.YtbpbpojnfhhbjaaPRouteDirectx8
import Derived.Test.YtbpbpojnfhhbjaaPRouteDirectx9
import Derived.Test.YtbpbpojnfhhbjaaPRouteDirectx10
namespace Go.Proofs.Ytbpbpojnfhhbjaa.PRouteDirect
open Go.RowKit Go.Proofs.YtbpbpojnfhhbjaaW.PrintWords Go.Proofs.YtbpbpojnfhhbjaaW.PrintLast Go.Proofs.YtbpbpojnfhhbjaaW.PrintMore
attribute [local go_sem] max2_int min2_int max_two min_two max_three min_three max_four min_four   -- for this text's walks alone
set_option linter.unusedVariables false
set_option linter.unusedSimpArgs false

end Go.Proofs.Ytbpbpojnfhhbjaa.PRouteDirect
