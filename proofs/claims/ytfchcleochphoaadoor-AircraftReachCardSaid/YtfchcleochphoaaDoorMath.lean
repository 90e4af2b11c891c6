/- Arithmetic that the plain laws share: floors, squares, ranges. -/
import Derived.Test.YtfchcleochphoaaDoorWWords
import Derived.IntWalk
namespace Go.Proofs.YtfchcleochphoaaDoorM
open Go Go.RowKit
abbrev lo : Int := -9223372036854775808
abbrev hi : Int := 9223372036854775807
theorem wf64 {x : Int} : (Lit.int .i64 x).wf = true ↔ -9223372036854775808 ≤ x ∧ x ≤ 9223372036854775807 := by
  have h1 : IntKind.i64.min = -9223372036854775808 := rfl
  have h2 : IntKind.i64.max = 9223372036854775807 := rfl
  simp [Lit.wf, h1, h2]
theorem w64 {x : Int} (h1 : -9223372036854775808 ≤ x) (h2 : x ≤ 9223372036854775807) : wrap64 x = x := by unfold wrap64; omega
theorem wrap64_rng (x : Int) : -9223372036854775808 ≤ wrap64 x ∧ wrap64 x ≤ 9223372036854775807 := by unfold wrap64; omega
theorem u64w (x : Int) : IntKind.u64.wrap x = x % 18446744073709551616 := by simp [IntKind.wrap, IntKind.bits, IntKind.signed]
theorem tdiv_floor (a b : Int) (hb : b ≠ 0) : (if Int.tmod a b = 0 then Int.tdiv a b else if ((decide (a < 0)) != (decide (b < 0))) = true then Int.tdiv a b - 1 else Int.tdiv a b) = Int.fdiv a b := by
  rw [Int.fdiv_eq_tdiv]
  by_cases hd : b ∣ a
  · rw [if_pos (Int.dvd_iff_tmod_eq_zero.1 hd), if_pos hd]; omega
  · rw [if_neg (fun h => hd (Int.dvd_iff_tmod_eq_zero.2 h)), if_neg hd]
    by_cases h1 : 0 ≤ a <;> by_cases h2 : 0 ≤ b
    · rw [if_neg (by simp; omega), if_pos h1, if_pos h2]; omega
    · rw [if_pos (by simp; omega), if_pos h1, if_neg h2]
    · rw [if_pos (by simp; omega), if_neg h1, if_pos h2, Int.sign_eq_one_of_pos (by omega)]
    · rw [if_neg (by simp; omega), if_neg h1, if_neg h2, Int.sign_eq_neg_one_of_neg (by omega)]; omega
theorem fdiv_pos {a b : Int} (hb : 0 < b) : Int.fdiv a b = a / b := Int.fdiv_eq_ediv_of_nonneg a (Int.le_of_lt hb)
theorem fdiv_range {a b : Int} (h1 : -9223372036854775808 ≤ a) (h2 : a ≤ 9223372036854775807) (hb : b ≠ 0) (hno : ¬ (a = -9223372036854775808 ∧ b = -1)) : -9223372036854775808 ≤ Int.fdiv a b ∧ Int.fdiv a b ≤ 9223372036854775807 := by
  have key : ∀ x y : Int, 0 < y → -9223372036854775808 ≤ x → x ≤ 9223372036854775808 → -9223372036854775808 ≤ x / y ∧ (x ≤ 9223372036854775807 ∨ 2 ≤ y → x / y ≤ 9223372036854775807) := by
    intro x y hy g1 g2
    refine ⟨(Int.le_ediv_iff_mul_le hy).2 ?_, fun h => ?_⟩
    · have := Int.mul_le_mul_of_nonneg_left (show (1 : Int) ≤ y by omega) (show (0 : Int) ≤ 9223372036854775808 by omega)
      omega
    · have : x / y < 9223372036854775808 := by
        refine (Int.ediv_lt_iff_lt_mul hy).2 ?_
        have := Int.mul_le_mul_of_nonneg_left (show (1 : Int) ≤ y by omega) (show (0 : Int) ≤ 9223372036854775808 by omega)
        rcases h with h | h
        · omega
        · have := Int.mul_le_mul_of_nonneg_left h (show (0 : Int) ≤ 9223372036854775808 by omega)
          omega
      omega
  by_cases hp : 0 < b
  · rw [fdiv_pos hp]
    have := key a b hp h1 (by omega)
    exact ⟨this.1, this.2 (Or.inl h2)⟩
  · rw [← Int.neg_fdiv_neg, fdiv_pos (by omega)]
    have := key (-a) (-b) (by omega) (by omega) (by omega)
    exact ⟨this.1, this.2 (by omega)⟩
theorem floor_le {a b : Int} (hb : 0 < b) : a / b * b ≤ a := Int.ediv_mul_le a (by omega)
theorem lt_floor {a b : Int} (hb : 0 < b) : a < (a / b + 1) * b := Int.lt_ediv_add_one_mul_self a hb
theorem sq_le {x y : Int} (hy : 0 ≤ y) (h : x * x ≤ y * y) : x ≤ y := by
  rcases Int.lt_or_le y x with h1 | h1
  · have h2 := Int.mul_lt_mul_of_pos_left h1 (show 0 < x by omega)
    have h3 := Int.mul_le_mul_of_nonneg_right (Int.le_of_lt h1) hy
    omega
  · exact h1
theorem sq_lt {x y : Int} (hy : 0 ≤ y) (h : x * x < y * y) : x < y := by
  rcases Int.lt_or_le x y with h1 | h1
  · exact h1
  · have h2 := Int.mul_le_mul h1 h1 hy (by omega)
    omega
theorem sq_nonneg (x : Int) : 0 ≤ x * x := by
  rcases Int.le_total 0 x with h | h
  · exact Int.mul_nonneg h h
  · exact Int.mul_nonneg_of_nonpos_of_nonpos h h
theorem sq_mono {x y : Int} (hx : 0 ≤ x) (h : x ≤ y) : x * x ≤ y * y := Int.mul_le_mul h h hx (by omega)
/-- A product of numbers that are no greater than A and B. -/
theorem mul_bd {x y A B : Int} (h1 : -A ≤ x) (h2 : x ≤ A) (h3 : -B ≤ y) (h4 : y ≤ B) : -(A * B) ≤ x * y ∧ x * y ≤ A * B := by
  have a1 := Int.mul_nonneg (show 0 ≤ A - x by omega) (show 0 ≤ B + y by omega)
  have a2 := Int.mul_nonneg (show 0 ≤ A + x by omega) (show 0 ≤ B - y by omega)
  have a3 := Int.mul_nonneg (show 0 ≤ A - x by omega) (show 0 ≤ B - y by omega)
  have a4 := Int.mul_nonneg (show 0 ≤ A + x by omega) (show 0 ≤ B + y by omega)
  simp only [Int.sub_mul, Int.mul_sub, Int.add_mul, Int.mul_add] at a1 a2 a3 a4
  omega
/-- The triangle inequality, by squares. -/
theorem tri {p1 p2 q1 q2 A B : Int} (hA : 0 ≤ A) (hB : 0 ≤ B) (hp : p1 * p1 + p2 * p2 ≤ A * A) (hq : q1 * q1 + q2 * q2 ≤ B * B) :
    (p1 + q1) * (p1 + q1) + (p2 + q2) * (p2 + q2) ≤ (A + B) * (A + B) := by
  have hAB := Int.mul_nonneg hA hB
  have e1 : (p1 * q1 + p2 * q2) * (p1 * q1 + p2 * q2) + (p1 * q2 - p2 * q1) * (p1 * q2 - p2 * q1) = (p1 * p1 + p2 * p2) * (q1 * q1 + q2 * q2) := by grind
  have e2 := sq_nonneg (p1 * q2 - p2 * q1)
  have e3 : (p1 * p1 + p2 * p2) * (q1 * q1 + q2 * q2) ≤ (A * A) * (B * B) := Int.mul_le_mul hp hq (by have := sq_nonneg q1; have := sq_nonneg q2; omega) (Int.mul_nonneg hA hA)
  have e4 : (A * A) * (B * B) = (A * B) * (A * B) := by grind
  have e5 : p1 * q1 + p2 * q2 ≤ A * B := sq_le hAB (by omega)
  have e6 : (p1 + q1) * (p1 + q1) + (p2 + q2) * (p2 + q2) = (p1 * p1 + p2 * p2) + (q1 * q1 + q2 * q2) + 2 * (p1 * q1 + p2 * q2) := by grind
  have e7 : (A + B) * (A + B) = A * A + B * B + 2 * (A * B) := by grind
  omega
theorem sq_bd {x A : Int} (h1 : -A ≤ x) (h2 : x ≤ A) : x * x ≤ A * A := (mul_bd h1 h2 h1 h2).2
theorem tmod_bd (a : Int) {m : Int} (h : 0 < m) : -m < Int.tmod a m ∧ Int.tmod a m < m := ⟨Int.lt_tmod_of_pos a h, Int.tmod_lt_of_pos a h⟩
end Go.Proofs.YtfchcleochphoaaDoorM
