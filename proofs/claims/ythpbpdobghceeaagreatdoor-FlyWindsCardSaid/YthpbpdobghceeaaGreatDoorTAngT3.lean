import Derived.Test.YthpbpdobghceeaaGreatDoorTAng3
import Derived.Test.YthpbpdobghceeaaGreatDoorTAngT
namespace Go.Proofs.YthpbpdobghceeaaGreatDoor.Ang
open Go
theorem tab_24 : chkT 3072 128 = true := by decide +kernel
theorem tab_25 : chkT 3200 128 = true := by decide +kernel
theorem tab_26 : chkT 3328 128 = true := by decide +kernel
theorem tab_27 : chkT 3456 128 = true := by decide +kernel
theorem tab_28 : chkT 3584 128 = true := by decide +kernel
theorem tab_29 : chkT 3712 128 = true := by decide +kernel
theorem tab_30 : chkT 3840 128 = true := by decide +kernel
theorem tab_31 : chkT 3968 128 = true := by decide +kernel
end Go.Proofs.YthpbpdobghceeaaGreatDoor.Ang
