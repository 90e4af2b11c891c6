/- Made by a program of this session (wip/tools/myprint.py, over the kit's printer): that the Go functions answer as the Lean functions printed beside them. -/
import Derived.Test.YtbpbpojnfhhbjaaPTubeAllx0
import Derived.Test.YtbpbpojnfhhbjaaPTubeAllx1
import Derived.Test.YtbpbpojnfhhbjaaPTubeAllx2
import Derived.Test.YtbpbpojnfhhbjaaPTubeAllx3
import Derived.Test.YtbpbpojnfhhbjaaPTubeAllx4
import Derived.Test.YtbpbpojnfhhbjaaPTubeAllx5
import Derived.Test.YtbpbpojnfhhbjaaPTubeAllx6
import Derived.Test.YtbpbpojnfhhbjaaPTubeAllx7
import Derived.Test.YtbpbpojnfhhbjaaPTubeAllx8
import Derived.Test.YtbpbpojnfhhbjaaPTubeAllx9
import Derived.Test.YtbpbpojnfhhbjaaPTubeAllx10
import Derived.Test.YtbpbpojnfhhbjaaPTubeAllx11
namespace Go.Proofs.Ytbpbpojnfhhbjaa.PTubeAll
open Go.RowKit Go.Proofs.YtbpbpojnfhhbjaaW.PrintWords Go.Proofs.YtbpbpojnfhhbjaaW.PrintLast Go.Proofs.YtbpbpojnfhhbjaaW.PrintMore
attribute [local go_sem] max2_int min2_int max_two min_two max_three min_three max_four min_four   -- for this text's walks alone
set_option linter.unusedVariables false
set_option linter.unusedSimpArgs false

end Go.Proofs.Ytbpbpojnfhhbjaa.PTubeAll
