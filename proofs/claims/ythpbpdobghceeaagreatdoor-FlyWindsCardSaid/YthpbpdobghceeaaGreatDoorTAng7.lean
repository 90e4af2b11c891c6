import Derived.Test.YthpbpdobghceeaaGreatDoorTAng5
import Derived.Below
import Derived.LoopTactic
namespace Go.Proofs.YthpbpdobghceeaaGreatDoor.Ang
open Go Go.RowKit
theorem floor_run (x r : Nat) (h : Extern.MathFloor.toIntegral "math.archFloor" .down #[.float .f64 x] = (pure (.float .f64 r) : Sem Value)) (w : World) : (callFunc 138 #[.float .f64 x]).run Tryz.prog w = .ok (.value (.float .f64 r)) w := by
  have h1 := run_callFunc_extern (P := Tryz.prog) (e := Extern.MathFloor.toIntegral "math.archFloor" .down) Tryz.func138 (by kernel_rfl) (by kernel_rfl) (by kernel_rfl) (by rfl) #[.float .f64 x] w
  rw [h1, h]
  rfl
end Go.Proofs.YthpbpdobghceeaaGreatDoor.Ang
