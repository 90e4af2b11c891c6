import Derived.Test.YtbpbpojnfhhbjaaTWWords
import Derived.IntWalk
namespace Go.Proofs.YtbpbpojnfhhbjaaM
open Go Go.RowKit
abbrev lo : Int := -9223372036854775808
abbrev hi : Int := 9223372036854775807
theorem w64 {x : Int} (h1 : -9223372036854775808 ≤ x) (h2 : x ≤ 9223372036854775807) : wrap64 x = x := by unfold wrap64; omega
theorem sq_le {x y : Int} (hy : 0 ≤ y) (h : x * x ≤ y * y) : x ≤ y := by
  rcases Int.lt_or_le y x with h1 | h1
  · have h2 := Int.mul_lt_mul_of_pos_left h1 (show 0 < x by omega)
    have h3 := Int.mul_le_mul_of_nonneg_right (Int.le_of_lt h1) hy
    omega
  · exact h1
theorem sq_lt {x y : Int} (hy : 0 ≤ y) (h : x * x < y * y) : x < y := by
  rcases Int.lt_or_le x y with h1 | h1
  · exact h1
  · have h2 := Int.mul_le_mul h1 h1 hy (by omega)
    omega
theorem sq_nonneg (x : Int) : 0 ≤ x * x := by
  rcases Int.le_total 0 x with h | h
  · exact Int.mul_nonneg h h
  · exact Int.mul_nonneg_of_nonpos_of_nonpos h h
/-- A product of numbers that are no greater than A and B. -/
theorem mul_bd {x y A B : Int} (h1 : -A ≤ x) (h2 : x ≤ A) (h3 : -B ≤ y) (h4 : y ≤ B) : -(A * B) ≤ x * y ∧ x * y ≤ A * B := by
  have a1 := Int.mul_nonneg (show 0 ≤ A - x by omega) (show 0 ≤ B + y by omega)
  have a2 := Int.mul_nonneg (show 0 ≤ A + x by omega) (show 0 ≤ B - y by omega)
  have a3 := Int.mul_nonneg (show 0 ≤ A - x by omega) (show 0 ≤ B - y by omega)
  have a4 := Int.mul_nonneg (show 0 ≤ A + x by omega) (show 0 ≤ B + y by omega)
  simp only [Int.sub_mul, Int.mul_sub, Int.add_mul, Int.mul_add] at a1 a2 a3 a4
  omega
/-- The triangle inequality, by squares. -/
theorem tri {p1 p2 q1 q2 A B : Int} (hA : 0 ≤ A) (hB : 0 ≤ B) (hp : p1 * p1 + p2 * p2 ≤ A * A) (hq : q1 * q1 + q2 * q2 ≤ B * B) :
    (p1 + q1) * (p1 + q1) + (p2 + q2) * (p2 + q2) ≤ (A + B) * (A + B) := by
  have hAB := Int.mul_nonneg hA hB
  have e1 : (p1 * q1 + p2 * q2) * (p1 * q1 + p2 * q2) + (p1 * q2 - p2 * q1) * (p1 * q2 - p2 * q1) = (p1 * p1 + p2 * p2) * (q1 * q1 + q2 * q2) := by grind
  have e2 := sq_nonneg (p1 * q2 - p2 * q1)
  have e3 : (p1 * p1 + p2 * p2) * (q1 * q1 + q2 * q2) ≤ (A * A) * (B * B) := Int.mul_le_mul hp hq (by have := sq_nonneg q1; have := sq_nonneg q2; omega) (Int.mul_nonneg hA hA)
  have e4 : (A * A) * (B * B) = (A * B) * (A * B) := by grind
  have e5 : p1 * q1 + p2 * q2 ≤ A * B := sq_le hAB (by omega)
  have e6 : (p1 + q1) * (p1 + q1) + (p2 + q2) * (p2 + q2) = (p1 * p1 + p2 * p2) + (q1 * q1 + q2 * q2) + 2 * (p1 * q1 + p2 * q2) := by grind
  have e7 : (A + B) * (A + B) = A * A + B * B + 2 * (A * B) := by grind
  omega
theorem sq_bd {x A : Int} (h1 : -A ≤ x) (h2 : x ≤ A) : x * x ≤ A * A := (mul_bd h1 h2 h1 h2).2
end Go.Proofs.YtbpbpojnfhhbjaaM
