/- Made by a program of this session (wip/tools/myprint.py, over the kit's printer): that the Go functions answer as the Lean functions printed beside them. -/
import Derived.Test.YtaahnfajcbkknaaPPlaneVectorsx0
import Derived.Test.YtaahnfajcbkknaaPPlaneVectorsx1
import Derived.Test.YtaahnfajcbkknaaPPlaneVectorsx2
import Derived.Test.YtaahnfajcbkknaaPPlaneVectorsx3
namespace Go.Proofs.Ytaahnfajcbkknaa.PPlaneVectors
open Go.RowKit Go.Proofs.YtaahnfajcbkknaaW.PrintWords Go.Proofs.YtaahnfajcbkknaaW.PrintLast Go.Proofs.YtaahnfajcbkknaaW.PrintMore
attribute [local go_sem] max2_int min2_int max_two min_two max_three min_three max_four min_four   -- for this text's walks alone
set_option linter.unusedVariables false
set_option linter.unusedSimpArgs false

end Go.Proofs.Ytaahnfajcbkknaa.PPlaneVectors
