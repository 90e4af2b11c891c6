import Derived.Test.YthpbpdobghceeaaGreatDoorTAng3
import Derived.Test.YthpbpdobghceeaaGreatDoorTAngT
namespace Go.Proofs.YthpbpdobghceeaaGreatDoor.Ang
open Go
theorem tab_0 : chkT 0 128 = true := by decide +kernel
theorem tab_1 : chkT 128 128 = true := by decide +kernel
theorem tab_2 : chkT 256 128 = true := by decide +kernel
theorem tab_3 : chkT 384 128 = true := by decide +kernel
theorem tab_4 : chkT 512 128 = true := by decide +kernel
theorem tab_5 : chkT 640 128 = true := by decide +kernel
theorem tab_6 : chkT 768 128 = true := by decide +kernel
theorem tab_7 : chkT 896 128 = true := by decide +kernel
end Go.Proofs.YthpbpdobghceeaaGreatDoor.Ang
