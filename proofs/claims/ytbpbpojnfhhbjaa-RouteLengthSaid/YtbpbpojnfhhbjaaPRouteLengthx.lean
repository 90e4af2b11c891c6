/- Made by a program of this session (wip/tools/myprint.py, over the kit's printer): that the Go functions answer as the Lean functions printed beside them. -/
import Derived.Test.YtbpbpojnfhhbjaaPRouteLengthx0
import Derived.Test.YtbpbpojnfhhbjaaPRouteLengthx1
import Derived.Test.YtbpbpojnfhhbjaaPRouteLengthx2
import Derived.Test.YtbpbpojnfhhbjaaPRouteLengthx3
import Derived.Test.YtbpbpojnfhhbjaaPRouteLengthx4
import Derived.Test.YtbpbpojnfhhbjaaPRouteLengthx5
import Derived.Test.YtbpbpojnfhhbjaaPRouteLengthx6
import Derived.Test.YtbpbpojnfhhbjaaPRouteLengthx7
import Derived.Test.YtbpbpojnfhhbjaaPRouteLengthx8
import Derived.Test.YtbpbpojnfhhbjaaPRouteLengthx9
import Derived.Test.YtbpbpojnfhhbjaaPRouteLengthx10
import Derived.Test.YtbpbpojnfhhbjaaPRouteLengthx11
import Derived.Test.YtbpbpojnfhhbjaaPRouteLengthx12
namespace Go.Proofs.Ytbpbpojnfhhbjaa.PRouteLength
open Go.RowKit Go.Proofs.YtbpbpojnfhhbjaaW.PrintWords Go.Proofs.YtbpbpojnfhhbjaaW.PrintLast Go.Proofs.YtbpbpojnfhhbjaaW.PrintMore
attribute [local go_sem] max2_int min2_int max_two min_two max_three min_three max_four min_four   -- for this text's walks alone
set_option linter.unusedVariables false
set_option linter.unusedSimpArgs false

end Go.Proofs.Ytbpbpojnfhhbjaa.PRouteLength
