import Derived.Test.YthghilclgobpbaaTWWords
import Derived.IntWalk
namespace Go.Proofs.YthghilclgobpbaaM
open Go Go.RowKit
abbrev lo : Int := -9223372036854775808
abbrev hi : Int := 9223372036854775807
theorem w64 {x : Int} (h1 : -9223372036854775808 ≤ x) (h2 : x ≤ 9223372036854775807) : wrap64 x = x := by unfold wrap64; omega
theorem sq_nonneg (x : Int) : 0 ≤ x * x := by
  rcases Int.le_total 0 x with h | h
  · exact Int.mul_nonneg h h
  · exact Int.mul_nonneg_of_nonpos_of_nonpos h h
/-- A product of numbers that are no greater than A and B. -/
theorem mul_bd {x y A B : Int} (h1 : -A ≤ x) (h2 : x ≤ A) (h3 : -B ≤ y) (h4 : y ≤ B) : -(A * B) ≤ x * y ∧ x * y ≤ A * B := by
  have a1 := Int.mul_nonneg (show 0 ≤ A - x by omega) (show 0 ≤ B + y by omega)
  have a2 := Int.mul_nonneg (show 0 ≤ A + x by omega) (show 0 ≤ B - y by omega)
  have a3 := Int.mul_nonneg (show 0 ≤ A - x by omega) (show 0 ≤ B - y by omega)
  have a4 := Int.mul_nonneg (show 0 ≤ A + x by omega) (show 0 ≤ B + y by omega)
  simp only [Int.sub_mul, Int.mul_sub, Int.add_mul, Int.mul_add] at a1 a2 a3 a4
  omega
theorem sq_bd {x A : Int} (h1 : -A ≤ x) (h2 : x ≤ A) : x * x ≤ A * A := (mul_bd h1 h2 h1 h2).2
end Go.Proofs.YthghilclgobpbaaM
