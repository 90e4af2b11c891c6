/- Made by a program of this session (wip/tools/myprint.py, over the kit's printer): that the Go functions answer as the Lean functions printed beside them. -/
import Derived.Test.YtfchcleochphoaaDoorPAircraftReachx0
import Derived.Test.YtfchcleochphoaaDoorPAircraftReachx1
import Derived.Test.YtfchcleochphoaaDoorPAircraftReachx2
import Derived.Test.YtfchcleochphoaaDoorPAircraftReachx3
import Derived.Test.YtfchcleochphoaaDoorPAircraftReachx4
import Derived.Test.YtfchcleochphoaaDoorPAircraftReachx5
import Derived.Test.YtfchcleochphoaaDoorPAircraftReachx6
namespace Go.Proofs.YtfchcleochphoaaDoor.PAircraftReach
open Go.RowKit Go.Proofs.YtfchcleochphoaaDoorW.PrintWords Go.Proofs.YtfchcleochphoaaDoorW.PrintLast Go.Proofs.YtfchcleochphoaaDoorW.PrintMore
attribute [local go_sem] max2_int min2_int max_two min_two max_three min_three max_four min_four   -- for this text's walks alone
set_option linter.unusedVariables false
set_option linter.unusedSimpArgs false

end Go.Proofs.YtfchcleochphoaaDoor.PAircraftReach
