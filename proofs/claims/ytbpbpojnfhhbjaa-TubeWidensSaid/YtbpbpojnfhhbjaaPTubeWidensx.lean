/- Made by a program of this session (wip/tools/myprint.py, over the kit's printer): that the Go functions answer as the Lean functions printed beside them. -/
import Derived.Test.YtbpbpojnfhhbjaaPTubeWidensx0
import Derived.Test.YtbpbpojnfhhbjaaPTubeWidensx1
import Derived.Test.YtbpbpojnfhhbjaaPTubeWidensx2
import Derived.Test.YtbpbpojnfhhbjaaPTubeWidensx3
import Derived.Test.YtbpbpojnfhhbjaaPTubeWidensx4
import Derived.Test.YtbpbpojnfhhbjaaPTubeWidensx5
import Derived.Test.YtbpbpojnfhhbjaaPTubeWidensx6
import Derived.Test.YtbpbpojnfhhbjaaPTubeWidensx7
import Derived.Test.YtbpbpojnfhhbjaaPTubeWidensx8
import Derived.Test.YtbpbpojnfhhbjaaPTubeWidensx9
import Derived.Test.YtbpbpojnfhhbjaaPTubeWidensx10
import Derived.Test.YtbpbpojnfhhbjaaPTubeWidensx11
import Derived.Test.YtbpbpojnfhhbjaaPTubeWidensx12
import Derived.Test.YtbpbpojnfhhbjaaPTubeWidensx13
namespace Go.Proofs.Ytbpbpojnfhhbjaa.PTubeWidens
open Go.RowKit Go.Proofs.YtbpbpojnfhhbjaaW.PrintWords Go.Proofs.YtbpbpojnfhhbjaaW.PrintLast Go.Proofs.YtbpbpojnfhhbjaaW.PrintMore
attribute [local go_sem] max2_int min2_int max_two min_two max_three min_three max_four min_four   -- for this text's walks alone
set_option linter.unusedVariables false
set_option linter.unusedSimpArgs false

end Go.Proofs.Ytbpbpojnfhhbjaa.PTubeWidens
