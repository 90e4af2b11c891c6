import Derived.Test.YthpbpdobghceeaaGreatDoorTAng3
import Derived.Test.YthpbpdobghceeaaGreatDoorTAngT
namespace Go.Proofs.YthpbpdobghceeaaGreatDoor.Ang
open Go
theorem tab_8 : chkT 1024 128 = true := by decide +kernel
theorem tab_9 : chkT 1152 128 = true := by decide +kernel
theorem tab_10 : chkT 1280 128 = true := by decide +kernel
theorem tab_11 : chkT 1408 128 = true := by decide +kernel
theorem tab_12 : chkT 1536 128 = true := by decide +kernel
theorem tab_13 : chkT 1664 128 = true := by decide +kernel
theorem tab_14 : chkT 1792 128 = true := by decide +kernel
theorem tab_15 : chkT 1920 128 = true := by decide +kernel
end Go.Proofs.YthpbpdobghceeaaGreatDoor.Ang
