/- AngleTurned: a vector that is turned by a right angle has the angle that is turned likewise. -/
import Derived.Test.YthpbpdobghceeaaDoorPAngleTurnedx
import Derived.Test.YthpbpdobghceeaaDoorMath
namespace Go.Proofs.YthpbpdobghceeaaDoor.Pure
open Go Go.RowKit Go.Proofs.YthpbpdobghceeaaDoor Go.Proofs.YthpbpdobghceeaaDoor.PAngleTurned Go.Proofs.YthpbpdobghceeaaDoorW.PrintWords Go.Proofs.YthpbpdobghceeaaDoorW.PrintLast
theorem of_bad {x y : Int} (h : x < -2000000 ∨ 2000000 < x ∨ y < -2000000 ∨ 2000000 < y) : angle_Of.f x y = some (0, 4) := by
  unfold angle_Of.f
  by_cases c1 : x < -2000000
  · rw [if_pos c1]
  by_cases c2 : 2000000 < x
  · rw [if_neg c1, if_pos c2]
  by_cases c3 : y < -2000000
  · rw [if_neg c1, if_neg c2, if_pos c3]
  by_cases c4 : 2000000 < y
  · rw [if_neg c1, if_neg c2, if_neg c3, if_pos c4]
  omega
theorem of_zero : angle_Of.f 0 0 = some (0, 10) := by decide
theorem of_good {x y : Int} (x1 : -2000000 ≤ x) (x2 : x ≤ 2000000) (y1 : -2000000 ≤ y) (y2 : y ≤ 2000000) (h : x ≠ 0 ∨ y ≠ 0) : angle_Of.f x y = some (Ang.ofI x y, 0) := by
  unfold angle_Of.f
  rw [if_neg (by omega), if_neg (by omega), if_neg (by omega), if_neg (by omega), if_neg (by omega)]
theorem aworks : skywaykeep1_angleWorks.f = some true := by decide +kernel
theorem AngleTurned : skywaykeep1_AngleTurned.Pure := by
  intro x y hx hy
  have hx' : -9223372036854775808 ≤ x ∧ x ≤ 9223372036854775807 := by
    have h : IntKind.i64.min ≤ x ∧ x ≤ 9223372036854775807 := by simpa [Lit.wf] using hx
    have e : IntKind.i64.min = -9223372036854775808 := by decide
    rwa [e] at h
  unfold skywaykeep1_AngleTurned.f
  rw [aworks, Option.bind_some, if_pos rfl]
  by_cases c : x < -2000000 ∨ 2000000 < x ∨ y < -2000000 ∨ 2000000 < y
  · have hw : wrap64 (-x) < -2000000 ∨ 2000000 < wrap64 (-x) ∨ y < -2000000 ∨ 2000000 < y := by unfold wrap64; omega
    rw [of_bad c, of_bad (show y < -2000000 ∨ 2000000 < y ∨ wrap64 (-x) < -2000000 ∨ 2000000 < wrap64 (-x) by omega), Option.bind_some, Option.bind_some]
    rfl
  · have hw : wrap64 (-x) = -x := by unfold wrap64; omega
    rw [hw]
    by_cases z : x = 0 ∧ y = 0
    · obtain ⟨rfl, rfl⟩ := z
      rw [show (-(0 : Int)) = 0 from rfl, of_zero, Option.bind_some, Option.bind_some]
      rfl
    · have hne : x ≠ 0 ∨ y ≠ 0 := by omega
      obtain ⟨r1, r2⟩ := Ang.ofI_range x y
      rw [of_good (by omega) (by omega) (by omega) (by omega) hne, of_good (by omega) (by omega) (by omega) (by omega) (show y ≠ 0 ∨ -x ≠ 0 by omega), Option.bind_some, Option.bind_some]
      dsimp only
      rw [if_pos rfl, if_pos rfl]
      unfold angle_Norm.f
      rw [Option.bind_some, Ang.i64_and4095, Ang.ofI_turned hne, show wrap64 (Ang.ofI x y + 1024) = Ang.ofI x y + 1024 by unfold wrap64; omega]
      simp
end Go.Proofs.YthpbpdobghceeaaDoor.Pure
