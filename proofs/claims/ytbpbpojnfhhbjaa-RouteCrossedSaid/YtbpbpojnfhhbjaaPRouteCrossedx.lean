/- Made by a program of this session (wip/tools/myprint.py, over the kit's printer): that the Go functions answer as the Lean functions printed beside them. -/
import Derived.Test.YtbpbpojnfhhbjaaPRouteCrossedx0
import Derived.Test.YtbpbpojnfhhbjaaPRouteCrossedx1
import Derived.Test.YtbpbpojnfhhbjaaPRouteCrossedx2
import Derived.Test.YtbpbpojnfhhbjaaPRouteCrossedx3
import Derived.Test.YtbpbpojnfhhbjaaPRouteCrossedx4
import Derived.Test.YtbpbpojnfhhbjaaPRouteCrossedx5
import Derived.Test.YtbpbpojnfhhbjaaPRouteCrossedx6
import Derived.Test.YtbpbpojnfhhbjaaPRouteCrossedx7
import Derived.Test.YtbpbpojnfhhbjaaPRouteCrossedx8
import Derived.Test.YtbpbpojnfhhbjaaPRouteCrossedx9
import Derived.Test.YtbpbpojnfhhbjaaPRouteCrossedx10
import Derived.Test.YtbpbpojnfhhbjaaPRouteCrossedx11
import Derived.Test.YtbpbpojnfhhbjaaPRouteCrossedx12
import Derived.Test.YtbpbpojnfhhbjaaPRouteCrossedx13
import Derived.Test.YtbpbpojnfhhbjaaPRouteCrossedx14
import Derived.Test.YtbpbpojnfhhbjaaPRouteCrossedx15
import Derived.Test.YtbpbpojnfhhbjaaPRouteCrossedx16
import Derived.Test.YtbpbpojnfhhbjaaPRouteCrossedx17
import Derived.Test.YtbpbpojnfhhbjaaPRouteCrossedx18
namespace Go.Proofs.Ytbpbpojnfhhbjaa.PRouteCrossed
open Go.RowKit Go.Proofs.YtbpbpojnfhhbjaaW.PrintWords Go.Proofs.YtbpbpojnfhhbjaaW.PrintLast Go.Proofs.YtbpbpojnfhhbjaaW.PrintMore
attribute [local go_sem] max2_int min2_int max_two min_two max_three min_three max_four min_four   -- for this text's walks alone
set_option linter.unusedVariables false
set_option linter.unusedSimpArgs false

end Go.Proofs.Ytbpbpojnfhhbjaa.PRouteCrossed
