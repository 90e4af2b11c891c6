/- Made by wip/tools/myprint.py (over the kit's printer). -/
import Derived.Test.YthpbpdobghceeaaGreatDoorTSq3
import Derived.Test.YthpbpdobghceeaaGreatDoorPFlyWindsx0
import Derived.Test.YthpbpdobghceeaaGreatDoorTAng7
namespace Go.Proofs.YthpbpdobghceeaaGreatDoor.PFlyWinds
open Go.RowKit Go.Proofs.YthpbpdobghceeaaGreatDoorW.PrintWords Go.Proofs.YthpbpdobghceeaaGreatDoorW.PrintLast Go.Proofs.YthpbpdobghceeaaGreatDoorW.PrintMore
attribute [local go_sem] max2_int min2_int max_two min_two max_three min_three max_four min_four
set_option linter.unusedVariables false
set_option linter.unusedSimpArgs false
def angle_Sin.f (a0 : Int) : Option (Int) := some (Ang.sinI a0)
theorem angle_Sin.calls (a0 : Int) (r : Int) (w : World) (h : angle_Sin.f a0 = some r) (hT0 : Ang.Tab w := by exact Ang.Tab.below hT0 (by repeat (first | (with_reducible first | exact HB.out | apply below_alloc | apply pw_below_drewN | apply below_drew1) | exact HB.out | (refine Below.setCell ?_ (by dsimp only; exact Aside0.out (by assumption)) _)))) :
    Calls Tryz.prog 99 #[.int .i64 a0] w fun e w' => e = .returned (.int .i64 r) ∧ Below w.heap.size w w' := by
  obtain rfl := Option.some.inj h
  exact (Ang.sinI_calls a0 w hT0).mono fun _ _ h => ⟨h.1, by rw [h.2]; exact Below.refl _ _⟩
end Go.Proofs.YthpbpdobghceeaaGreatDoor.PFlyWinds
