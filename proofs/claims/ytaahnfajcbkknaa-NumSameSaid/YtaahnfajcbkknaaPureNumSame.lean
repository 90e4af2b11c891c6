/- NumSame: for all a and b, MulDiv with the factor 1, in either place, is DivDown. -/
import Derived.Test.YtaahnfajcbkknaaPNumSamex
import Derived.Test.YtaahnfajcbkknaaMath
import Derived.Laws.MathBits
namespace Go.Proofs.Ytaahnfajcbkknaa.Pure
open Go Go.RowKit Go.Proofs.Ytaahnfajcbkknaa.PNumSame Go.Proofs.YtaahnfajcbkknaaW.PrintWords Go.Proofs.YtaahnfajcbkknaaW.PrintLast Go.Proofs.YtaahnfajcbkknaaM

theorem down (k : Nat) (a b : Int) (a1 : -9223372036854775808 ≤ a) (a2 : a ≤ 9223372036854775807) (hb : b ≠ 0) (hno : ¬ (a = -9223372036854775808 ∧ b = -1)) : num_DivDown.f (k + 1) a b = some (Int.fdiv a b, 0) := by
  obtain ⟨r1, r2⟩ := fdiv_range a1 a2 hb hno
  have hf := tdiv_floor a b hb
  have main : num_DivDown.j0 (k + 1) a b false = some (Int.fdiv a b, 0) := by
    rw [num_DivDown.j0, if_neg (by decide), if_neg hb]
    by_cases h0 : Int.tmod a b = 0
    · rw [if_pos h0] at hf ⊢
      rw [hf, w64 r1 r2]
    · rw [if_neg h0] at hf ⊢
      by_cases hs : ((decide (a < 0)) != (decide (b < 0))) = true
      · rw [if_pos hs] at hf ⊢
        have ht : -9223372036854775808 ≤ Int.tdiv a b ∧ Int.tdiv a b ≤ 9223372036854775807 := by
          refine ⟨by omega, ?_⟩
          have h1 := Int.tdiv_nonpos_of_nonneg_of_nonpos (a := a) (b := b)
          by_cases ha : a < 0
          · have hb' : 0 < b := by
              simp [ha] at hs
              omega
            have h2 : Int.tdiv a b ≤ 0 := by
              have := Int.tdiv_nonneg (a := -a) (b := b) (by omega) (by omega)
              rw [Int.neg_tdiv] at this
              omega
            omega
          · have hb' : b < 0 := by
              simp [ha] at hs
              exact hs
            have := h1 (by omega) (by omega)
            omega
        rw [w64 ht.1 ht.2, hf, w64 r1 r2]
      · rw [if_neg hs] at hf ⊢
        rw [hf, w64 r1 r2]
  rw [num_DivDown.f, if_neg hb]
  by_cases ha : a = -9223372036854775808
  · rw [if_pos ha]
    have : (b == -1) = false := beq_eq_false_iff_ne.mpr (fun h => hno ⟨ha, h⟩)
    rw [this]
    exact main
  · rw [if_neg ha]
    exact main
theorem down_pos (k : Nat) (a b : Int) (a1 : -9223372036854775808 ≤ a) (a2 : a ≤ 9223372036854775807) (hb : 0 < b) : num_DivDown.f (k + 1) a b = some (a / b, 0) := by
  rw [down k a b a1 a2 (by omega) (by omega), fdiv_pos hb]
theorem up (k : Nat) (a b : Int) (a1 : -9223372036854775808 ≤ a) (a2 : a ≤ 9223372036854775807) (hb : b ≠ 0) (hno : ¬ (a = -9223372036854775808 ∧ b = -1)) : num_DivUp.f (k + 1) a b = some (if Int.tmod a b = 0 then Int.fdiv a b else Int.fdiv a b + 1, 0) := by
  rw [num_DivUp.f, down k a b a1 a2 hb hno]
  simp only [Option.bind_some, if_true]
  rw [if_neg hb]
  by_cases h0 : Int.tmod a b = 0
  · rw [if_pos h0, if_pos h0]
  · rw [if_neg h0, if_neg h0]
    obtain ⟨r1, r2⟩ := fdiv_range a1 a2 hb hno
    have : Int.fdiv a b < 9223372036854775807 := by
      rcases Int.lt_or_le (Int.fdiv a b) 9223372036854775807 with h | h
      · exact h
      · exfalso
        have e : Int.fdiv a b = 9223372036854775807 := by omega
        have hm := Int.mul_fdiv_add_fmod a b
        rw [e] at hm
        have hn : Int.fmod a b ≠ 0 := fun h => h0 (Int.dvd_iff_tmod_eq_zero.1 (Int.dvd_iff_fmod_eq_zero.2 h))
        rcases Int.lt_or_le 0 b with hp | hp
        · have := Int.fmod_nonneg_of_pos a hp
          have := Int.fmod_lt_of_pos a hp
          omega
        · have h1 := Int.mul_fdiv_add_fmod (-a) (-b)
          rw [Int.neg_fdiv_neg, e] at h1
          have := Int.fmod_nonneg_of_pos (-a) (show 0 < -b by omega)
          have := Int.fmod_lt_of_pos (-a) (show 0 < -b by omega)
          omega
    rw [w64 (by omega) (by omega)]
theorem up_pos (k : Nat) (a b : Int) (a1 : -9223372036854775808 ≤ a) (a2 : a ≤ 9223372036854775807) (hb : 0 < b) : num_DivUp.f (k + 1) a b = some (if a % b = 0 then a / b else a / b + 1, 0) := by
  rw [up k a b a1 a2 (by omega) (by omega), fdiv_pos hb]
  have : Int.tmod a b = 0 ↔ a % b = 0 := by rw [← Int.dvd_iff_tmod_eq_zero]; exact Int.dvd_iff_emod_eq_zero
  by_cases h : a % b = 0
  · rw [if_pos h, if_pos (this.2 h)]
  · rw [if_neg h, if_neg (fun g => h (this.1 g))]
theorem mag (a : Int) (a1 : -9223372036854775808 ≤ a) (a2 : a ≤ 9223372036854775807) : num_magnitude.f a = some (a.natAbs : Int) := by
  unfold num_magnitude.f
  rw [u64w, u64w]
  by_cases h : a < 0
  · rw [if_pos h]; congr 1; omega
  · rw [if_neg h]; congr 1; omega
theorem gcd_l0 : ∀ (n k m : Nat), n < k → num_Gcd.l0 k (m : Int) (n : Int) = some (wrap64 (Nat.gcd m n : Int))
  | n, 0, m, h => by omega
  | n, k + 1, m, h => by
    rw [num_Gcd.l0]
    by_cases h0 : n = 0
    · subst h0
      rw [if_neg (by omega), Nat.gcd_zero_right]
    · rw [if_pos (by omega), if_neg (by omega), Int.tmod_eq_emod_of_nonneg (by omega), ← Int.natCast_emod]
      have hlt : m % n < n := Nat.mod_lt _ (by omega)
      rw [gcd_l0 (m % n) k n (by omega), Nat.gcd_comm n (m % n), ← Nat.gcd_rec, Nat.gcd_comm n m]
theorem gcd (k : Nat) (hk : 18446744073709551616 < k) (a b : Int) (a1 : -9223372036854775808 ≤ a) (a2 : a ≤ 9223372036854775807) (b1 : -9223372036854775808 ≤ b) (b2 : b ≤ 9223372036854775807) : num_Gcd.f k a b = some (wrap64 (Nat.gcd a.natAbs b.natAbs : Int)) := by
  rw [num_Gcd.f, mag a a1 a2, mag b b1 b2]
  simp only [Option.bind_some]
  exact gcd_l0 _ _ _ (by omega)
theorem works (k : Nat) (hk : 18446744073709551620 < k) : skywaykeep1_numWorks.f k = some true := by
  unfold skywaykeep1_numWorks.f
  have h3 := gcd k (by omega) (-12) 18 (by decide) (by decide) (by decide) (by decide)
  obtain ⟨k, rfl⟩ : ∃ m, k = m + 1 := ⟨k - 1, by omega⟩
  rw [down k (-7) 2 (by decide) (by decide) (by decide) (by decide), up k (-7) 2 (by decide) (by decide) (by decide) (by decide), h3]
  rw [show Int.fdiv (-7) 2 = -4 from by decide, show Int.tmod (-7) 2 = -1 from by decide, show ((Nat.gcd (Int.natAbs (-12)) (Int.natAbs 18) : Nat) : Int) = 6 from by decide, w64 (by decide) (by decide)]
  decide
theorem mul64_f (a b : Int) (a0 : 0 ≤ a) (a1 : a < 18446744073709551616) (b0 : 0 ≤ b) (b1 : b < 18446744073709551616) :
    bits_Mul64.f a b = some (a * b / 18446744073709551616, a * b % 18446744073709551616) := by
  unfold bits_Mul64.f
  rw [and_low32 a a0 a1, and_low32 b b0 b1]
  simp only [u64w]
  rw [and_low32 _ (by omega) (by omega), mul64_arith a b a0 a1 b0 b1]
theorem neg_div {m d : Int} (hd : 0 < d) : (-m) / d = if m % d > 0 then -(m / d) - 1 else -(m / d) := by
  have h1 := Int.mul_ediv_add_emod m d
  have h2 := Int.emod_nonneg m (show d ≠ 0 by omega)
  have h3 := Int.emod_lt_of_pos m hd
  split
  · refine ((Int.ediv_emod_unique (a := -m) (b := d) (r := d - m % d) (q := -(m / d) - 1) hd).2 ⟨?_, by omega, by omega⟩).1
    rw [Int.mul_sub, Int.mul_neg, Int.mul_one]
    omega
  · refine ((Int.ediv_emod_unique (a := -m) (b := d) (r := 0) (q := -(m / d)) hd).2 ⟨?_, by omega, by omega⟩).1
    rw [Int.mul_neg]
    omega
theorem tail_f (k : Nat) {a c : Int} (ng : Bool) (a1 : -9223372036854775808 ≤ a) (a2 : a ≤ 9223372036854775807) (c1 : -9223372036854775808 ≤ c) (c2 : c ≤ 9223372036854775807) (hc : c ≠ 0) (hng : ng = ((decide (a < 0)) != (decide (c < 0)))) :
    (if ng = true then num_MulDiv.j0 (k + 3) ng ((a.natAbs : Int) / (c.natAbs : Int)) (decide ((a.natAbs : Int) % (c.natAbs : Int) > 0)) else num_MulDiv.j0 (k + 3) ng ((a.natAbs : Int) / (c.natAbs : Int)) false) =
      some (if a = -9223372036854775808 ∧ c = -1 then (0, 2) else (Int.fdiv a c, 0)) := by
  obtain ⟨m, hm⟩ : ∃ m : Int, m = (a.natAbs : Int) := ⟨_, rfl⟩
  obtain ⟨d, hd⟩ : ∃ d : Int, d = (c.natAbs : Int) := ⟨_, rfl⟩
  rw [← hm, ← hd]
  have m0 : 0 ≤ m := by omega
  have d0 : 0 < d := by omega
  have q0 : 0 ≤ m / d := Int.ediv_nonneg m0 (Int.le_of_lt d0)
  have qm : m / d ≤ m := Int.ediv_le_self d m0
  have qd := floor_le (a := m) d0
  have q2 : 2 ≤ d → m / d * 2 ≤ m := fun h => by
    have := Int.mul_le_mul_of_nonneg_left h q0
    omega
  have r1 : m % d > 0 → 2 ≤ d := fun h => by
    rcases Int.lt_or_le d 2 with g | g
    · have : d = 1 := by omega
      rw [this, Int.emod_one] at h
      omega
    · exact g
  have fd : Int.fdiv a c = (if c < 0 then -a else a) / d := by
    by_cases h : c < 0
    · rw [if_pos h, ← Int.neg_fdiv_neg, fdiv_pos (by omega), show -c = d by omega]
    · rw [if_neg h, fdiv_pos (by omega), show c = d by omega]
  cases hb : ng with
  | false =>
    rw [hb] at hng
    have ha : (if c < 0 then -a else a) = m := by
      by_cases h1 : a < 0 <;> by_cases h2 : c < 0 <;> simp [h1, h2] at hng <;> simp [h2] <;> omega
    rw [if_neg (by decide), num_MulDiv.j0, if_neg (by decide), num_MulDiv.j1, if_neg (by decide), num_MulDiv.j2]
    by_cases h : m / d ≥ 9223372036854775808
    · have hd1 : d = 1 := by
        rcases Int.lt_or_le d 2 with g | g
        · omega
        · have := q2 g; omega
      have e : a = -9223372036854775808 ∧ c = -1 := by
        by_cases h1 : a < 0 <;> by_cases h2 : c < 0 <;> simp [h1, h2] at hng <;> omega
      rw [if_pos (decide_eq_true h), if_pos e]
    · have e : ¬ (a = -9223372036854775808 ∧ c = -1) := by
        rintro ⟨e1, e2⟩
        have : d = 1 := by omega
        rw [this, Int.ediv_one] at h
        omega
      rw [decide_eq_false h, if_neg (by decide), if_neg (by decide), if_neg e, w64 (by omega) (by omega), fd, ha]
  | true =>
    rw [hb] at hng
    have ha : (if c < 0 then -a else a) = -m := by
      by_cases h1 : a < 0 <;> by_cases h2 : c < 0 <;> simp [h1, h2] at hng <;> simp [h2] <;> omega
    have e : ¬ (a = -9223372036854775808 ∧ c = -1) := by
      rintro ⟨e1, e2⟩
      rw [e1, e2] at hng
      revert hng; decide
    rw [if_pos rfl, if_neg e, fd, ha, neg_div d0]
    by_cases hr : m % d > 0
    · have := q2 (r1 hr)
      have w1 : IntKind.u64.wrap (m / d + 1) = m / d + 1 := by rw [u64w]; omega
      have w2 : wrap64 (IntKind.u64.wrap (-(m / d + 1))) = -(m / d) - 1 := by rw [u64w]; unfold wrap64; omega
      rw [if_pos hr, decide_eq_true hr, num_MulDiv.j0, if_pos rfl, if_neg (by omega), w1, num_MulDiv.j1, if_pos rfl, if_neg (by omega), num_MulDiv.j2, if_neg (by decide), if_pos rfl, w2]
    · have w2 : wrap64 (IntKind.u64.wrap (-(m / d))) = -(m / d) := by rw [u64w]; unfold wrap64; omega
      rw [if_neg hr, decide_eq_false hr, num_MulDiv.j0, if_neg (by decide), num_MulDiv.j1, if_pos rfl, if_neg (by omega), num_MulDiv.j2, if_neg (by decide), if_pos rfl, w2]
theorem muldiv (k : Nat) {a c : Int} (x y : Int) (hxy : x = a ∧ y = 1 ∨ x = 1 ∧ y = a) (a1 : -9223372036854775808 ≤ a) (a2 : a ≤ 9223372036854775807) (c1 : -9223372036854775808 ≤ c) (c2 : c ≤ 9223372036854775807) (hc : c ≠ 0) :
    num_MulDiv.f (k + 3) x y c = some (if a = -9223372036854775808 ∧ c = -1 then (0, 2) else (Int.fdiv a c, 0)) := by
  have hng : (((decide (x < 0)) != (decide (y < 0))) != (decide (c < 0))) = ((decide (a < 0)) != (decide (c < 0))) := by
    rcases hxy with ⟨rfl, rfl⟩ | ⟨rfl, rfl⟩
    · have : decide ((1 : Int) < 0) = false := by decide
      rw [this]; simp
    · have : decide ((1 : Int) < 0) = false := by decide
      rw [this]; simp
  have hx : -9223372036854775808 ≤ x ∧ x ≤ 9223372036854775807 ∧ -9223372036854775808 ≤ y ∧ y ≤ 9223372036854775807 := by omega
  have hp : (x.natAbs : Int) * (y.natAbs : Int) = (a.natAbs : Int) := by
    rcases hxy with ⟨rfl, rfl⟩ | ⟨rfl, rfl⟩
    · simp
    · simp
  have hdiv : bits_Div64.f 0 (a.natAbs : Int) (c.natAbs : Int) = some ((a.natAbs : Int) / (c.natAbs : Int), (a.natAbs : Int) % (c.natAbs : Int)) := by
    unfold bits_Div64.f
    have qm : (a.natAbs : Int) / (c.natAbs : Int) ≤ (a.natAbs : Int) := Int.ediv_le_self _ (by omega)
    have q0 : 0 ≤ (a.natAbs : Int) / (c.natAbs : Int) := Int.ediv_nonneg (by omega) (by omega)
    rw [if_neg (by omega), if_neg (by omega), if_pos rfl, Int.tdiv_eq_ediv_of_nonneg (by omega), Int.tmod_eq_emod_of_nonneg (by omega), u64w, Int.emod_eq_of_lt q0 (by omega)]
  unfold num_MulDiv.f
  rw [if_neg hc, mag x hx.1 hx.2.1, Option.bind_some, mag y hx.2.2.1 hx.2.2.2, Option.bind_some, mul64_f _ _ (by omega) (by omega) (by omega) (by omega), Option.bind_some, mag c c1 c2, Option.bind_some, hp]
  dsimp only
  rw [show (a.natAbs : Int) / 18446744073709551616 = 0 by omega, show (a.natAbs : Int) % 18446744073709551616 = (a.natAbs : Int) by omega, if_neg (by omega), hdiv, Option.bind_some]
  dsimp only
  exact tail_f k _ a1 a2 c1 c2 hc hng
theorem NumSame : skywaykeep1_NumSame.Pure := by
  intro a c ha hc
  obtain ⟨a1, a2⟩ := wf64.1 ha
  obtain ⟨c1, c2⟩ := wf64.1 hc
  obtain ⟨k, hk⟩ : ∃ k : Nat, 18446744073709551620 < k := ⟨18446744073709551621, by omega⟩
  refine ⟨k, ?_⟩
  unfold skywaykeep1_NumSame.f
  rw [works k hk, Option.bind_some, if_pos rfl]
  obtain ⟨k, rfl⟩ : ∃ m, k = m + 3 := ⟨k - 3, by omega⟩
  by_cases h0 : c = 0
  · have e1 : num_DivDown.f (k + 3) a c = some (0, 10) := by rw [num_DivDown.f, if_pos h0]
    have e2 : ∀ x y, num_MulDiv.f (k + 3) x y c = some (0, 10) := fun x y => by rw [num_MulDiv.f, if_pos h0]
    rw [e1, Option.bind_some, e2, Option.bind_some, e2, Option.bind_some]
    rfl
  · rw [muldiv k a 1 (Or.inl ⟨rfl, rfl⟩) a1 a2 c1 c2 h0, muldiv k 1 a (Or.inr ⟨rfl, rfl⟩) a1 a2 c1 c2 h0]
    by_cases h1 : a = -9223372036854775808 ∧ c = -1
    · have e1 : num_DivDown.f (k + 3) a c = some (0, 2) := by
        rw [num_DivDown.f, if_neg h0, if_pos h1.1, h1.2, show ((-1 : Int) == -1) = true by decide, num_DivDown.j0, if_pos rfl]
      rw [if_pos h1, e1, Option.bind_some, Option.bind_some, Option.bind_some]
      rfl
    · rw [if_neg h1, down (k + 2) a c a1 a2 h0 h1, Option.bind_some, Option.bind_some, Option.bind_some, if_pos rfl, if_pos rfl, if_pos rfl]
      simp

end Go.Proofs.Ytaahnfajcbkknaa.Pure
