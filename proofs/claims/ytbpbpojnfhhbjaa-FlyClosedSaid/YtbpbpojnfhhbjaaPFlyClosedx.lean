/- Made by a program of this session (wip/tools/myprint.py, over the kit's printer): that the Go functions answer as the Lean functions printed beside them. -/
import Derived.Test.YtbpbpojnfhhbjaaPFlyClosedx0
import Derived.Test.YtbpbpojnfhhbjaaPFlyClosedx1
import Derived.Test.YtbpbpojnfhhbjaaPFlyClosedx2
import Derived.Test.YtbpbpojnfhhbjaaPFlyClosedx3
import Derived.Test.YtbpbpojnfhhbjaaPFlyClosedx4
import Derived.Test.YtbpbpojnfhhbjaaPFlyClosedx5
import Derived.Test.YtbpbpojnfhhbjaaPFlyClosedx6
import Derived.Test.YtbpbpojnfhhbjaaPFlyClosedx7
import Derived.Test.YtbpbpojnfhhbjaaPFlyClosedx8
import Derived.Test.YtbpbpojnfhhbjaaPFlyClosedx9
import Derived.Test.YtbpbpojnfhhbjaaPFlyClosedx10
import Derived.Test.YtbpbpojnfhhbjaaPFlyClosedx11
import Derived.Test.YtbpbpojnfhhbjaaPFlyClosedx12
namespace Go.Proofs.Ytbpbpojnfhhbjaa.PFlyClosed
open Go.RowKit Go.Proofs.YtbpbpojnfhhbjaaW.PrintWords Go.Proofs.YtbpbpojnfhhbjaaW.PrintLast Go.Proofs.YtbpbpojnfhhbjaaW.PrintMore
attribute [local go_sem] max2_int min2_int max_two min_two max_three min_three max_four min_four   -- for this text's walks alone
set_option linter.unusedVariables false
set_option linter.unusedSimpArgs false

end Go.Proofs.Ytbpbpojnfhhbjaa.PFlyClosed
