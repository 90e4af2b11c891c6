/- Made by a program of this session (wip/tools/myprint.py, over the kit's printer): that the Go functions answer as the Lean functions printed beside them. -/
import Derived.Test.YteaddpieonkboaaPVolumeUnionx0
import Derived.Test.YteaddpieonkboaaPVolumeUnionx1
import Derived.Test.YteaddpieonkboaaPVolumeUnionx2
import Derived.Test.YteaddpieonkboaaPVolumeUnionx3
import Derived.Test.YteaddpieonkboaaPVolumeUnionx4
import Derived.Test.YteaddpieonkboaaPVolumeUnionx5
namespace Go.Proofs.Yteaddpieonkboaa.PVolumeUnion
open Go.RowKit Go.Proofs.YteaddpieonkboaaW.PrintWords Go.Proofs.YteaddpieonkboaaW.PrintLast Go.Proofs.YteaddpieonkboaaW.PrintMore
attribute [local go_sem] max2_int min2_int max_two min_two max_three min_three max_four min_four   -- for this text's walks alone
set_option linter.unusedVariables false
set_option linter.unusedSimpArgs false

end Go.Proofs.Yteaddpieonkboaa.PVolumeUnion
