/- NumRounds: for all a and b the two quotients are the floor and the ceiling of a / b, and an error where b is 0 or the quotient is too great. -/
import Derived.Test.YtaahnfajcbkknaaPNumRoundsx
import Derived.Test.YtaahnfajcbkknaaMath
namespace Go.Proofs.Ytaahnfajcbkknaa.Pure
open Go Go.RowKit Go.Proofs.Ytaahnfajcbkknaa.PNumRounds Go.Proofs.YtaahnfajcbkknaaW.PrintWords Go.Proofs.YtaahnfajcbkknaaW.PrintLast Go.Proofs.YtaahnfajcbkknaaM

theorem down (k : Nat) (a b : Int) (a1 : -9223372036854775808 ≤ a) (a2 : a ≤ 9223372036854775807) (hb : b ≠ 0) (hno : ¬ (a = -9223372036854775808 ∧ b = -1)) : num_DivDown.f (k + 1) a b = some (Int.fdiv a b, 0) := by
  obtain ⟨r1, r2⟩ := fdiv_range a1 a2 hb hno
  have hf := tdiv_floor a b hb
  have main : num_DivDown.j0 (k + 1) a b false = some (Int.fdiv a b, 0) := by
    rw [num_DivDown.j0, if_neg (by decide), if_neg hb]
    by_cases h0 : Int.tmod a b = 0
    · rw [if_pos h0] at hf ⊢
      rw [hf, w64 r1 r2]
    · rw [if_neg h0] at hf ⊢
      by_cases hs : ((decide (a < 0)) != (decide (b < 0))) = true
      · rw [if_pos hs] at hf ⊢
        have ht : -9223372036854775808 ≤ Int.tdiv a b ∧ Int.tdiv a b ≤ 9223372036854775807 := by
          refine ⟨by omega, ?_⟩
          have h1 := Int.tdiv_nonpos_of_nonneg_of_nonpos (a := a) (b := b)
          by_cases ha : a < 0
          · have hb' : 0 < b := by
              simp [ha] at hs
              omega
            have h2 : Int.tdiv a b ≤ 0 := by
              have := Int.tdiv_nonneg (a := -a) (b := b) (by omega) (by omega)
              rw [Int.neg_tdiv] at this
              omega
            omega
          · have hb' : b < 0 := by
              simp [ha] at hs
              exact hs
            have := h1 (by omega) (by omega)
            omega
        rw [w64 ht.1 ht.2, hf, w64 r1 r2]
      · rw [if_neg hs] at hf ⊢
        rw [hf, w64 r1 r2]
  rw [num_DivDown.f, if_neg hb]
  by_cases ha : a = -9223372036854775808
  · rw [if_pos ha]
    have : (b == -1) = false := beq_eq_false_iff_ne.mpr (fun h => hno ⟨ha, h⟩)
    rw [this]
    exact main
  · rw [if_neg ha]
    exact main
theorem down_pos (k : Nat) (a b : Int) (a1 : -9223372036854775808 ≤ a) (a2 : a ≤ 9223372036854775807) (hb : 0 < b) : num_DivDown.f (k + 1) a b = some (a / b, 0) := by
  rw [down k a b a1 a2 (by omega) (by omega), fdiv_pos hb]
theorem up (k : Nat) (a b : Int) (a1 : -9223372036854775808 ≤ a) (a2 : a ≤ 9223372036854775807) (hb : b ≠ 0) (hno : ¬ (a = -9223372036854775808 ∧ b = -1)) : num_DivUp.f (k + 1) a b = some (if Int.tmod a b = 0 then Int.fdiv a b else Int.fdiv a b + 1, 0) := by
  rw [num_DivUp.f, down k a b a1 a2 hb hno]
  simp only [Option.bind_some, if_true]
  rw [if_neg hb]
  by_cases h0 : Int.tmod a b = 0
  · rw [if_pos h0, if_pos h0]
  · rw [if_neg h0, if_neg h0]
    obtain ⟨r1, r2⟩ := fdiv_range a1 a2 hb hno
    have : Int.fdiv a b < 9223372036854775807 := by
      rcases Int.lt_or_le (Int.fdiv a b) 9223372036854775807 with h | h
      · exact h
      · exfalso
        have e : Int.fdiv a b = 9223372036854775807 := by omega
        have hm := Int.mul_fdiv_add_fmod a b
        rw [e] at hm
        have hn : Int.fmod a b ≠ 0 := fun h => h0 (Int.dvd_iff_tmod_eq_zero.1 (Int.dvd_iff_fmod_eq_zero.2 h))
        rcases Int.lt_or_le 0 b with hp | hp
        · have := Int.fmod_nonneg_of_pos a hp
          have := Int.fmod_lt_of_pos a hp
          omega
        · have h1 := Int.mul_fdiv_add_fmod (-a) (-b)
          rw [Int.neg_fdiv_neg, e] at h1
          have := Int.fmod_nonneg_of_pos (-a) (show 0 < -b by omega)
          have := Int.fmod_lt_of_pos (-a) (show 0 < -b by omega)
          omega
    rw [w64 (by omega) (by omega)]
theorem up_pos (k : Nat) (a b : Int) (a1 : -9223372036854775808 ≤ a) (a2 : a ≤ 9223372036854775807) (hb : 0 < b) : num_DivUp.f (k + 1) a b = some (if a % b = 0 then a / b else a / b + 1, 0) := by
  rw [up k a b a1 a2 (by omega) (by omega), fdiv_pos hb]
  have : Int.tmod a b = 0 ↔ a % b = 0 := by rw [← Int.dvd_iff_tmod_eq_zero]; exact Int.dvd_iff_emod_eq_zero
  by_cases h : a % b = 0
  · rw [if_pos h, if_pos (this.2 h)]
  · rw [if_neg h, if_neg (fun g => h (this.1 g))]
theorem mag (a : Int) (a1 : -9223372036854775808 ≤ a) (a2 : a ≤ 9223372036854775807) : num_magnitude.f a = some (a.natAbs : Int) := by
  unfold num_magnitude.f
  rw [u64w, u64w]
  by_cases h : a < 0
  · rw [if_pos h]; congr 1; omega
  · rw [if_neg h]; congr 1; omega
theorem gcd_l0 : ∀ (n k m : Nat), n < k → num_Gcd.l0 k (m : Int) (n : Int) = some (wrap64 (Nat.gcd m n : Int))
  | n, 0, m, h => by omega
  | n, k + 1, m, h => by
    rw [num_Gcd.l0]
    by_cases h0 : n = 0
    · subst h0
      rw [if_neg (by omega), Nat.gcd_zero_right]
    · rw [if_pos (by omega), if_neg (by omega), Int.tmod_eq_emod_of_nonneg (by omega), ← Int.natCast_emod]
      have hlt : m % n < n := Nat.mod_lt _ (by omega)
      rw [gcd_l0 (m % n) k n (by omega), Nat.gcd_comm n (m % n), ← Nat.gcd_rec, Nat.gcd_comm n m]
theorem gcd (k : Nat) (hk : 18446744073709551616 < k) (a b : Int) (a1 : -9223372036854775808 ≤ a) (a2 : a ≤ 9223372036854775807) (b1 : -9223372036854775808 ≤ b) (b2 : b ≤ 9223372036854775807) : num_Gcd.f k a b = some (wrap64 (Nat.gcd a.natAbs b.natAbs : Int)) := by
  rw [num_Gcd.f, mag a a1 a2, mag b b1 b2]
  simp only [Option.bind_some]
  exact gcd_l0 _ _ _ (by omega)
theorem works (k : Nat) (hk : 18446744073709551620 < k) : skywaykeep1_numWorks.f k = some true := by
  unfold skywaykeep1_numWorks.f
  have h3 := gcd k (by omega) (-12) 18 (by decide) (by decide) (by decide) (by decide)
  obtain ⟨k, rfl⟩ : ∃ m, k = m + 1 := ⟨k - 1, by omega⟩
  rw [down k (-7) 2 (by decide) (by decide) (by decide) (by decide), up k (-7) 2 (by decide) (by decide) (by decide) (by decide), h3]
  rw [show Int.fdiv (-7) 2 = -4 from by decide, show Int.tmod (-7) 2 = -1 from by decide, show ((Nat.gcd (Int.natAbs (-12)) (Int.natAbs 18) : Nat) : Int) = 6 from by decide, w64 (by decide) (by decide)]
  decide
theorem NumRounds : skywaykeep1_NumRounds.Pure := by
  intro a b ha hb
  obtain ⟨a1, a2⟩ := wf64.1 ha
  obtain ⟨b1, b2⟩ := wf64.1 hb
  obtain ⟨k, hk⟩ : ∃ k : Nat, 18446744073709551620 < k := ⟨18446744073709551621, by omega⟩
  refine ⟨k, ?_⟩
  unfold skywaykeep1_NumRounds.f
  rw [works k hk]
  simp only [Option.bind_some, if_true]
  obtain ⟨k, rfl⟩ : ∃ m, k = m + 3 := ⟨k - 3, by omega⟩
  by_cases hb0 : b = 0
  · subst hb0
    simp [num_DivDown.f, num_DivUp.f, skywaykeep1_NumRounds.j0]
  by_cases hno : a = -9223372036854775808 ∧ b = -1
  · obtain ⟨rfl, rfl⟩ := hno
    simp [num_DivDown.f, num_DivUp.f, num_DivDown.j0, skywaykeep1_NumRounds.j0]
  rw [down (k + 2) a b a1 a2 hb0 hno, up (k + 2) a b a1 a2 hb0 hno]
  simp only [Option.bind_some, if_true]
  obtain ⟨r1, r2⟩ := fdiv_range a1 a2 hb0 hno
  have hm := Int.mul_fdiv_add_fmod a b
  have hfd : Int.fdiv a b * b = a - Int.fmod a b := by rw [Int.mul_comm]; omega
  have hmm : (Int.tmod a b = 0 ↔ Int.fmod a b = 0) := by
    rw [← Int.dvd_iff_tmod_eq_zero, ← Int.dvd_iff_fmod_eq_zero]
  have hfb : -18446744073709551616 < Int.fmod a b ∧ Int.fmod a b < 18446744073709551616 := by
    rcases Int.lt_or_le 0 b with h | h
    · have := Int.fmod_nonneg_of_pos a h; have := Int.fmod_lt_of_pos a h; omega
    · have e : Int.fmod a b = -(Int.fmod (-a) (-b)) := by
        have h1 := Int.mul_fdiv_add_fmod a b
        have h2 := Int.mul_fdiv_add_fmod (-a) (-b)
        rw [Int.neg_fdiv_neg, Int.neg_mul] at h2
        omega
      have := Int.fmod_nonneg_of_pos (-a) (show 0 < -b by omega); have := Int.fmod_lt_of_pos (-a) (show 0 < -b by omega); omega
  have hz : ∀ k, b < 0 → a ≠ -9223372036854775808 → b ≠ -9223372036854775808 → num_DivDown.f (k + 1) (wrap64 (-a)) (wrap64 (-b)) = some (Int.fdiv a b, 0) := by
    intro k h1 h2 h3
    rw [w64 (by omega) (by omega), w64 (by omega) (by omega), down k (-a) (-b) (by omega) (by omega) (by omega) (by omega), Int.neg_fdiv_neg]
  -- what is asked at the end
  have fin : ∀ y : Int, (Int.tmod a b = 0 → y = Int.fdiv a b) → (Int.tmod a b ≠ 0 → y = Int.fdiv a b + 1) → (if wrap64 (y - Int.fdiv a b) = 0 then (if wrap64 (Int.fdiv a b * b) = a then (some true) else (if wrap64 (y - Int.fdiv a b) = 1 then some (wrap64 (Int.fdiv a b * b) != a) else some false)) else (if wrap64 (y - Int.fdiv a b) = 1 then some (wrap64 (Int.fdiv a b * b) != a) else some false)) = some true := by
    intro y h1 h2
    by_cases ht : Int.tmod a b = 0
    · rw [h1 ht, hfd, hmm.1 ht]
      rw [if_pos (by rw [Int.sub_self]; exact w64 (by decide) (by decide)), if_pos (by rw [Int.sub_zero]; exact w64 a1 a2)]
    · have e1 : wrap64 (y - Int.fdiv a b) = 1 := by rw [h2 ht, show Int.fdiv a b + 1 - Int.fdiv a b = 1 from by omega]; exact w64 (by decide) (by decide)
      have e2 : wrap64 (Int.fdiv a b * b) ≠ a := by
        rw [hfd]
        have hn : Int.fmod a b ≠ 0 := fun h => ht (hmm.2 h)
        unfold wrap64
        omega
      rw [e1, if_neg (by decide), if_pos rfl]
      simp [e2]
  have hy : ∀ y : Int, (Int.tmod a b = 0 → y = Int.fdiv a b) → (Int.tmod a b ≠ 0 → y = Int.fdiv a b + 1) → skywaykeep1_NumRounds.j0 (k + 3) a b (Int.fdiv a b) 0 y 0 (0 != 0) = some true := by
    intro y h1 h2
    rw [skywaykeep1_NumRounds.j0]
    rw [if_neg (by decide)]
    by_cases hbn : b < 0
    · rw [if_pos hbn]
      by_cases ham : a = -9223372036854775808
      · rw [if_pos ham, skywaykeep1_NumRounds.j1, if_neg (by decide)]
        exact fin y h1 h2
      · rw [if_neg ham]
        by_cases hbm : b = -9223372036854775808
        · rw [skywaykeep1_NumRounds.j1, if_neg (by rw [hbm]; decide)]
          exact fin y h1 h2
        · rw [skywaykeep1_NumRounds.j1, if_pos (by simpa using hbm), hz k hbn ham hbm]
          simp only [Option.bind_some, if_true]
          exact fin y h1 h2
    · rw [if_neg hbn, skywaykeep1_NumRounds.j1, if_neg (by decide)]
      exact fin y h1 h2
  by_cases ht : Int.tmod a b = 0
  · rw [if_pos ht]
    exact hy _ (fun _ => rfl) (fun h => absurd ht h)
  · rw [if_neg ht]
    exact hy _ (fun h => absurd h ht) (fun _ => rfl)
end Go.Proofs.Ytaahnfajcbkknaa.Pure
