import Derived.Test.YthpbpdobghceeaaGreatDoorTWords
import Derived.IntWalk
namespace Go.Proofs.YthpbpdobghceeaaGreatDoorM
open Go Go.RowKit
abbrev lo : Int := -9223372036854775808
abbrev hi : Int := 9223372036854775807
theorem w64 {x : Int} (h1 : -9223372036854775808 ≤ x) (h2 : x ≤ 9223372036854775807) : wrap64 x = x := by unfold wrap64; omega
theorem tdiv_floor (a b : Int) (hb : b ≠ 0) : (if Int.tmod a b = 0 then Int.tdiv a b else if ((decide (a < 0)) != (decide (b < 0))) = true then Int.tdiv a b - 1 else Int.tdiv a b) = Int.fdiv a b := by
  rw [Int.fdiv_eq_tdiv]
  by_cases hd : b ∣ a
  · rw [if_pos (Int.dvd_iff_tmod_eq_zero.1 hd), if_pos hd]; omega
  · rw [if_neg (fun h => hd (Int.dvd_iff_tmod_eq_zero.2 h)), if_neg hd]
    by_cases h1 : 0 ≤ a <;> by_cases h2 : 0 ≤ b
    · rw [if_neg (by simp; omega), if_pos h1, if_pos h2]; omega
    · rw [if_pos (by simp; omega), if_pos h1, if_neg h2]
    · rw [if_pos (by simp; omega), if_neg h1, if_pos h2, Int.sign_eq_one_of_pos (by omega)]
    · rw [if_neg (by simp; omega), if_neg h1, if_neg h2, Int.sign_eq_neg_one_of_neg (by omega)]; omega
theorem fdiv_pos {a b : Int} (hb : 0 < b) : Int.fdiv a b = a / b := Int.fdiv_eq_ediv_of_nonneg a (Int.le_of_lt hb)
theorem fdiv_range {a b : Int} (h1 : -9223372036854775808 ≤ a) (h2 : a ≤ 9223372036854775807) (hb : b ≠ 0) (hno : ¬ (a = -9223372036854775808 ∧ b = -1)) : -9223372036854775808 ≤ Int.fdiv a b ∧ Int.fdiv a b ≤ 9223372036854775807 := by
  have key : ∀ x y : Int, 0 < y → -9223372036854775808 ≤ x → x ≤ 9223372036854775808 → -9223372036854775808 ≤ x / y ∧ (x ≤ 9223372036854775807 ∨ 2 ≤ y → x / y ≤ 9223372036854775807) := by
    intro x y hy g1 g2
    refine ⟨(Int.le_ediv_iff_mul_le hy).2 ?_, fun h => ?_⟩
    · have := Int.mul_le_mul_of_nonneg_left (show (1 : Int) ≤ y by omega) (show (0 : Int) ≤ 9223372036854775808 by omega)
      omega
    · have : x / y < 9223372036854775808 := by
        refine (Int.ediv_lt_iff_lt_mul hy).2 ?_
        have := Int.mul_le_mul_of_nonneg_left (show (1 : Int) ≤ y by omega) (show (0 : Int) ≤ 9223372036854775808 by omega)
        rcases h with h | h
        · omega
        · have := Int.mul_le_mul_of_nonneg_left h (show (0 : Int) ≤ 9223372036854775808 by omega)
          omega
      omega
  by_cases hp : 0 < b
  · rw [fdiv_pos hp]
    have := key a b hp h1 (by omega)
    exact ⟨this.1, this.2 (Or.inl h2)⟩
  · rw [← Int.neg_fdiv_neg, fdiv_pos (by omega)]
    have := key (-a) (-b) (by omega) (by omega) (by omega)
    exact ⟨this.1, this.2 (by omega)⟩
theorem sq_le {x y : Int} (hy : 0 ≤ y) (h : x * x ≤ y * y) : x ≤ y := by
  rcases Int.lt_or_le y x with h1 | h1
  · have h2 := Int.mul_lt_mul_of_pos_left h1 (show 0 < x by omega)
    have h3 := Int.mul_le_mul_of_nonneg_right (Int.le_of_lt h1) hy
    omega
  · exact h1
theorem sq_lt {x y : Int} (hy : 0 ≤ y) (h : x * x < y * y) : x < y := by
  rcases Int.lt_or_le x y with h1 | h1
  · exact h1
  · have h2 := Int.mul_le_mul h1 h1 hy (by omega)
    omega
theorem sq_nonneg (x : Int) : 0 ≤ x * x := by
  rcases Int.le_total 0 x with h | h
  · exact Int.mul_nonneg h h
  · exact Int.mul_nonneg_of_nonpos_of_nonpos h h
theorem mul_bd {x y A B : Int} (h1 : -A ≤ x) (h2 : x ≤ A) (h3 : -B ≤ y) (h4 : y ≤ B) : -(A * B) ≤ x * y ∧ x * y ≤ A * B := by
  have a1 := Int.mul_nonneg (show 0 ≤ A - x by omega) (show 0 ≤ B + y by omega)
  have a2 := Int.mul_nonneg (show 0 ≤ A + x by omega) (show 0 ≤ B - y by omega)
  have a3 := Int.mul_nonneg (show 0 ≤ A - x by omega) (show 0 ≤ B - y by omega)
  have a4 := Int.mul_nonneg (show 0 ≤ A + x by omega) (show 0 ≤ B + y by omega)
  simp only [Int.sub_mul, Int.mul_sub, Int.add_mul, Int.mul_add] at a1 a2 a3 a4
  omega
theorem sq_bd {x A : Int} (h1 : -A ≤ x) (h2 : x ≤ A) : x * x ≤ A * A := (mul_bd h1 h2 h1 h2).2
end Go.Proofs.YthpbpdobghceeaaGreatDoorM
