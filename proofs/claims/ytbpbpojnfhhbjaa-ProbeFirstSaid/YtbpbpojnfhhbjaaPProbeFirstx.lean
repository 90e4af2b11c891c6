/- Made by a program of this session (wip/tools/myprint.py, over the kit's printer): that the Go functions answer as the Lean functions printed beside them. -/
import Derived.Test.YtbpbpojnfhhbjaaPProbeFirstx0
import Derived.Test.YtbpbpojnfhhbjaaPProbeFirstx1
import Derived.Test.YtbpbpojnfhhbjaaPProbeFirstx2
import Derived.Test.YtbpbpojnfhhbjaaPProbeFirstx3
import Derived.Test.YtbpbpojnfhhbjaaPProbeFirstx4
import Derived.Test.YtbpbpojnfhhbjaaPProbeFirstx5
import Derived.Test.YtbpbpojnfhhbjaaPProbeFirstx6
namespace Go.Proofs.Ytbpbpojnfhhbjaa.PProbeFirst
open Go.RowKit Go.Proofs.YtbpbpojnfhhbjaaW.PrintWords Go.Proofs.YtbpbpojnfhhbjaaW.PrintLast Go.Proofs.YtbpbpojnfhhbjaaW.PrintMore
attribute [local go_sem] max2_int min2_int max_two min_two max_three min_three max_four min_four   -- for this text's walks alone
set_option linter.unusedVariables false
set_option linter.unusedSimpArgs false

end Go.Proofs.Ytbpbpojnfhhbjaa.PProbeFirst
