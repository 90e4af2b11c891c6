/- Made by a program of this session (wip/tools/myprint.py, over the kit's printer): that the Go functions answer as the Lean functions printed beside them. -/
import Derived.Test.YteaddpieonkboaaPPolygonTurnedx0
import Derived.Test.YteaddpieonkboaaPPolygonTurnedx1
import Derived.Test.YteaddpieonkboaaPPolygonTurnedx2
import Derived.Test.YteaddpieonkboaaPPolygonTurnedx3
import Derived.Test.YteaddpieonkboaaPPolygonTurnedx4
import Derived.Test.YteaddpieonkboaaPPolygonTurnedx5
import Derived.Test.YteaddpieonkboaaPPolygonTurnedx6
import Derived.Test.YteaddpieonkboaaPPolygonTurnedx7
namespace Go.Proofs.Yteaddpieonkboaa.PPolygonTurned
open Go.RowKit Go.Proofs.YteaddpieonkboaaW.PrintWords Go.Proofs.YteaddpieonkboaaW.PrintLast Go.Proofs.YteaddpieonkboaaW.PrintMore
attribute [local go_sem] max2_int min2_int max_two min_two max_three min_three max_four min_four   -- for this text's walks alone
set_option linter.unusedVariables false
set_option linter.unusedSimpArgs false

end Go.Proofs.Yteaddpieonkboaa.PPolygonTurned
