/- Made by a program of this session (wip/tools/myprint.py, over the kit's printer): that the Go functions answer as the Lean functions printed beside them. -/
import Derived.Test.YthpbpdobghceeaaDoorPWindLegsx0
import Derived.Test.YthpbpdobghceeaaDoorPWindLegsx1
import Derived.Test.YthpbpdobghceeaaDoorPWindLegsx2
import Derived.Test.YthpbpdobghceeaaDoorPWindLegsx3
import Derived.Test.YthpbpdobghceeaaDoorPWindLegsx4
import Derived.Test.YthpbpdobghceeaaDoorPWindLegsx5
import Derived.Test.YthpbpdobghceeaaDoorPWindLegsx6
import Derived.Test.YthpbpdobghceeaaDoorPWindLegsx7
namespace Go.Proofs.YthpbpdobghceeaaDoor.PWindLegs
open Go.RowKit Go.Proofs.YthpbpdobghceeaaDoorW.PrintWords Go.Proofs.YthpbpdobghceeaaDoorW.PrintLast Go.Proofs.YthpbpdobghceeaaDoorW.PrintMore
attribute [local go_sem] max2_int min2_int max_two min_two max_three min_three max_four min_four   -- for this text's walks alone
set_option linter.unusedVariables false
set_option linter.unusedSimpArgs false

end Go.Proofs.YthpbpdobghceeaaDoor.PWindLegs
