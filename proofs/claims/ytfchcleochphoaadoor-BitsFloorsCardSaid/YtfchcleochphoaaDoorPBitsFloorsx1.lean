/- Made by a program of this session (wip/tools/myprint.py, over the kit's printer): that the Go functions answer as the Lean functions printed beside them. -/
import Derived.Test.YtfchcleochphoaaDoorPBitsFloorsx0
namespace Go.Proofs.YtfchcleochphoaaDoor.PBitsFloors
open Go.RowKit Go.Proofs.YtfchcleochphoaaDoorW.PrintWords Go.Proofs.YtfchcleochphoaaDoorW.PrintLast Go.Proofs.YtfchcleochphoaaDoorW.PrintMore
attribute [local go_sem] max2_int min2_int max_two min_two max_three min_three max_four min_four   -- for this text's walks alone
set_option linter.unusedVariables false
set_option linter.unusedSimpArgs false

/-! ### bits_finite: function 31 -/
def bits_finite.f (a0 : Int) : Option (Bool) := some ((Go.bits .and .u64 (a0 / 4503599627370496) 2047) != 2047)
set_option maxHeartbeats 8000000 in
set_option maxRecDepth 100000 in
theorem bits_finite.calls (a0 : Int) (r : Bool) (w : World) (h : bits_finite.f a0 = some r) :
    Calls Tryd.prog 31 #[.int .u64 a0] w fun e w' => e = .returned (.bool r) ∧ Below w.heap.size w w' := by
 have HB := Aside0.mk (Below.refl w.heap.size w)
 have H : (some ((Go.bits .and .u64 (a0 / 4503599627370496) 2047) != 2047)) = some r := h
 clear h
 obtain rfl := Option.some.inj H
 go_enter Tryd.func31, Tryd.ntmps31
 go_wp2
 go_ret
 exact ⟨by first | rfl | (simp [errW_none, errW_some] <;> rfl) | (simp [*, errW_none, errW_some] <;> rfl), by repeat (first | (with_reducible first | exact HB.out | apply below_alloc | apply pw_below_drewN | apply below_drew1) | exact HB.out)⟩

/-! ### bits_parts: function 32 -/
def bits_parts.f (a0 : Int) : Option (Bool × Int × Int) := if (wrap64 (Go.bits .and .u64 (a0 / 4503599627370496) 2047)) > 0 then (some (((a0 / 9223372036854775808) == 1), wrap64 ((wrap64 ((wrap64 (Go.bits .and .u64 (a0 / 4503599627370496) 2047)) - 1023)) - 52), Go.bits .or .u64 (Go.bits .and .u64 a0 4503599627370495) 4503599627370496)) else (some (((a0 / 9223372036854775808) == 1), (1 - 1023) - 52, Go.bits .and .u64 a0 4503599627370495))
set_option maxHeartbeats 8000000 in
set_option maxRecDepth 100000 in
theorem bits_parts.calls (a0 : Int) (r1 : Bool) (r2 : Int) (r3 : Int) (w : World) (h : bits_parts.f a0 = some (r1, r2, r3)) :
    Calls Tryd.prog 32 #[.int .u64 a0] w fun e w' => e = .returned (.tuple #[.bool r1, .int .i64 r2, .int .u64 r3]) ∧ Below w.heap.size w w' := by
 have HB := Aside0.mk (Below.refl w.heap.size w)
 have H : (if (wrap64 (Go.bits .and .u64 (a0 / 4503599627370496) 2047)) > 0 then (some (((a0 / 9223372036854775808) == 1), wrap64 ((wrap64 ((wrap64 (Go.bits .and .u64 (a0 / 4503599627370496) 2047)) - 1023)) - 52), Go.bits .or .u64 (Go.bits .and .u64 a0 4503599627370495) 4503599627370496)) else (some (((a0 / 9223372036854775808) == 1), (1 - 1023) - 52, Go.bits .and .u64 a0 4503599627370495))) = some (r1, r2, r3) := h
 clear h
 by_cases c2 : (wrap64 (Go.bits .and .u64 (a0 / 4503599627370496) 2047)) > 0
 · rw [if_pos c2] at H
   have c2b0 : decide (0 < (wrap64 (Go.bits .and .u64 (a0 / 4503599627370496) 2047))) = true := decide_eq_true c2
   clear c2
   simp only [Option.some.injEq, Prod.mk.injEq] at H
   obtain ⟨rfl, rfl, rfl⟩ := H
   go_enter Tryd.func32, Tryd.ntmps32
   go_wp2
   go_ret3
   exact ⟨by first | rfl | (simp [errW_none, errW_some] <;> rfl) | (simp [*, errW_none, errW_some] <;> rfl), by repeat (first | (with_reducible first | exact HB.out | apply below_alloc | apply pw_below_drewN | apply below_drew1) | exact HB.out)⟩
 · rw [if_neg c2] at H
   have c2b0 : decide (0 < (wrap64 (Go.bits .and .u64 (a0 / 4503599627370496) 2047))) = false := decide_eq_false c2
   clear c2
   simp only [Option.some.injEq, Prod.mk.injEq] at H
   obtain ⟨rfl, rfl, rfl⟩ := H
   go_enter Tryd.func32, Tryd.ntmps32
   go_wp2
   go_ret3
   exact ⟨by first | rfl | (simp [errW_none, errW_some] <;> rfl) | (simp [*, errW_none, errW_some] <;> rfl), by repeat (first | (with_reducible first | exact HB.out | apply below_alloc | apply pw_below_drewN | apply below_drew1) | exact HB.out)⟩

end Go.Proofs.YtfchcleochphoaaDoor.PBitsFloors
