import Derived.Test.YthpbpdobghceeaaGreatDoorTAng3
import Derived.Test.YthpbpdobghceeaaGreatDoorTAngT
namespace Go.Proofs.YthpbpdobghceeaaGreatDoor.Ang
open Go
theorem tab_16 : chkT 2048 128 = true := by decide +kernel
theorem tab_17 : chkT 2176 128 = true := by decide +kernel
theorem tab_18 : chkT 2304 128 = true := by decide +kernel
theorem tab_19 : chkT 2432 128 = true := by decide +kernel
theorem tab_20 : chkT 2560 128 = true := by decide +kernel
theorem tab_21 : chkT 2688 128 = true := by decide +kernel
theorem tab_22 : chkT 2816 128 = true := by decide +kernel
theorem tab_23 : chkT 2944 128 = true := by decide +kernel
end Go.Proofs.YthpbpdobghceeaaGreatDoor.Ang
