/- Made by a program of this session (wip/tools/myprint.py, over the kit's printer): that the Go functions answer as the Lean functions printed beside them. -/
import Derived.Test.YtbpbpojnfhhbjaaPTubeInsidex0
import Derived.Test.YtbpbpojnfhhbjaaPTubeInsidex1
import Derived.Test.YtbpbpojnfhhbjaaPTubeInsidex2
import Derived.Test.YtbpbpojnfhhbjaaPTubeInsidex3
import Derived.Test.YtbpbpojnfhhbjaaPTubeInsidex4
import Derived.Test.YtbpbpojnfhhbjaaPTubeInsidex5
import Derived.Test.YtbpbpojnfhhbjaaPTubeInsidex6
import Derived.Test.YtbpbpojnfhhbjaaPTubeInsidex7
import Derived.Test.YtbpbpojnfhhbjaaPTubeInsidex8
import Derived.Test.YtbpbpojnfhhbjaaPTubeInsidex9
import Derived.Test.YtbpbpojnfhhbjaaPTubeInsidex10
import Derived.Test.YtbpbpojnfhhbjaaPTubeInsidex11
import Derived.Test.YtbpbpojnfhhbjaaPTubeInsidex12
import Derived.Test.YtbpbpojnfhhbjaaPTubeInsidex13
namespace Go.Proofs.Ytbpbpojnfhhbjaa.PTubeInside
open Go.RowKit Go.Proofs.YtbpbpojnfhhbjaaW.PrintWords Go.Proofs.YtbpbpojnfhhbjaaW.PrintLast Go.Proofs.YtbpbpojnfhhbjaaW.PrintMore
attribute [local go_sem] max2_int min2_int max_two min_two max_three min_three max_four min_four   -- for this text's walks alone
set_option linter.unusedVariables false
set_option linter.unusedSimpArgs false

end Go.Proofs.Ytbpbpojnfhhbjaa.PTubeInside
