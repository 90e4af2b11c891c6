/- What angle.Of calls, at the one vector of windWorks. -/
import Derived.Test.YthpbpdobghceeaaDoorAng5
import Derived.Below
import Derived.LoopTactic
namespace Go.Proofs.YthpbpdobghceeaaDoor.Ang
open Go Go.RowKit
theorem floor_run (x r : Nat) (h : Extern.MathFloor.toIntegral "math.archFloor" .down #[.float .f64 x] = (pure (.float .f64 r) : Sem Value)) (w : World) : (callFunc 41 #[.float .f64 x]).run Tryd.prog w = .ok (.value (.float .f64 r)) w := by
  have h1 := run_callFunc_extern (P := Tryd.prog) (e := Extern.MathFloor.toIntegral "math.archFloor" .down) Tryd.func41 (by kernel_rfl) (by kernel_rfl) (by kernel_rfl) (by rfl) #[.float .f64 x] w
  rw [h1, h]
  rfl
theorem copysign_250 (w : World) : Calls Tryd.prog 54 #[.float .f64 4609753056924675352, .float .f64 4643000109586448384] w fun e w' => e = .returned (.float .f64 4609753056924675352) ∧ w' = w := by
  have c1 := bits_run 4609753056924675352
  have c1' := bits_run 4643000109586448384
  have c2 := frombits_run 4609753056924675352
  have b1 : bits .andNot .u64 4609753056924675352 9223372036854775808 = 4609753056924675352 := by decide
  have b2 : bits .and .u64 4643000109586448384 9223372036854775808 = 0 := by decide
  have b3 : bits .or .u64 4609753056924675352 0 = 4609753056924675352 := by decide
  have e1 : ((4609753056924675352 : Nat) : Int) = 4609753056924675352 := rfl
  have e2 : ((4643000109586448384 : Nat) : Int) = 4643000109586448384 := rfl
  rw [e1] at c1 c2
  rw [e2] at c1'
  go_enter Tryd.func54, Tryd.ntmps54
  go_wp2
  go_ret
  exact ⟨rfl, rfl⟩
theorem atan2_250 (w : World) : Calls Tryd.prog 26 #[.float .f64 4643000109586448384, .float .f64 0] w fun e w' => e = .returned (.float .f64 4609753056924675352) ∧ w' = w := by
  have h1 : FloatKind.f64.format.order 4643000109586448384 4643000109586448384 = some .eq := by decide +kernel
  have h2 : FloatKind.f64.format.order 0 0 = some .eq := by decide +kernel
  have h3 : (FloatKind.f64.format.order 4643000109586448384 0 == some .eq) = false := by decide +kernel
  have h4 : (FloatKind.f64.format.order 0 0 == some .eq) = true := by decide +kernel
  have k : Calls Tryd.prog 44 #[.float .f64 4643000109586448384, .float .f64 0] w fun e w' => e = .returned (.float .f64 4609753056924675352) ∧ w' = w := by
    go_enter Tryd.func44, Tryd.ntmps44
    go_wp2_with (first | (go_at_call 48; with_reducible refine (isNaN_calls _ h1 _).mono ?_; rintro e w' ⟨rfl, rfl⟩) | (go_at_call 48; with_reducible refine (isNaN_calls _ h2 _).mono ?_; rintro e w' ⟨rfl, rfl⟩) | (go_at_call 54; with_reducible refine (copysign_250 _).mono ?_; rintro e w' ⟨rfl, rfl⟩))
    go_ret
    exact ⟨rfl, rfl⟩
  clear h1 h2 h3 h4
  go_enter Tryd.func26, Tryd.ntmps26
  go_wp2_with (go_at_call 44; refine k.mono ?_; rintro e w' ⟨rfl, rfl⟩)
  go_ret
  exact ⟨rfl, rfl⟩
theorem floor_1024 (w : World) : Calls Tryd.prog 25 #[.float .f64 4652218415073722368] w fun e w' => e = .returned (.float .f64 4652218415073722368) ∧ w' = w := by
  have c1 := floor_run 4652218415073722368 4652218415073722368 rfl
  go_enter Tryd.func25, Tryd.ntmps25
  go_wp2
  go_ret
  exact ⟨rfl, rfl⟩
end Go.Proofs.YthpbpdobghceeaaDoor.Ang
