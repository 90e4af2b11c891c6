/- NumDivides: for all a and b the greatest common divisor divides both, whichever comes first, and the quotients have none but 1 (it is 0 where both are 0, and does not fit where it is 2 to the 63rd). -/
import Derived.Test.YtaahnfajcbkknaaPNumDividesx
import Derived.Test.YtaahnfajcbkknaaMath
namespace Go.Proofs.Ytaahnfajcbkknaa.Pure
open Go Go.RowKit Go.Proofs.Ytaahnfajcbkknaa.PNumDivides Go.Proofs.YtaahnfajcbkknaaW.PrintWords Go.Proofs.YtaahnfajcbkknaaW.PrintLast Go.Proofs.YtaahnfajcbkknaaM

theorem down (k : Nat) (a b : Int) (a1 : -9223372036854775808 ≤ a) (a2 : a ≤ 9223372036854775807) (hb : b ≠ 0) (hno : ¬ (a = -9223372036854775808 ∧ b = -1)) : num_DivDown.f (k + 1) a b = some (Int.fdiv a b, 0) := by
  obtain ⟨r1, r2⟩ := fdiv_range a1 a2 hb hno
  have hf := tdiv_floor a b hb
  have main : num_DivDown.j0 (k + 1) a b false = some (Int.fdiv a b, 0) := by
    rw [num_DivDown.j0, if_neg (by decide), if_neg hb]
    by_cases h0 : Int.tmod a b = 0
    · rw [if_pos h0] at hf ⊢
      rw [hf, w64 r1 r2]
    · rw [if_neg h0] at hf ⊢
      by_cases hs : ((decide (a < 0)) != (decide (b < 0))) = true
      · rw [if_pos hs] at hf ⊢
        have ht : -9223372036854775808 ≤ Int.tdiv a b ∧ Int.tdiv a b ≤ 9223372036854775807 := by
          refine ⟨by omega, ?_⟩
          have h1 := Int.tdiv_nonpos_of_nonneg_of_nonpos (a := a) (b := b)
          by_cases ha : a < 0
          · have hb' : 0 < b := by
              simp [ha] at hs
              omega
            have h2 : Int.tdiv a b ≤ 0 := by
              have := Int.tdiv_nonneg (a := -a) (b := b) (by omega) (by omega)
              rw [Int.neg_tdiv] at this
              omega
            omega
          · have hb' : b < 0 := by
              simp [ha] at hs
              exact hs
            have := h1 (by omega) (by omega)
            omega
        rw [w64 ht.1 ht.2, hf, w64 r1 r2]
      · rw [if_neg hs] at hf ⊢
        rw [hf, w64 r1 r2]
  rw [num_DivDown.f, if_neg hb]
  by_cases ha : a = -9223372036854775808
  · rw [if_pos ha]
    have : (b == -1) = false := beq_eq_false_iff_ne.mpr (fun h => hno ⟨ha, h⟩)
    rw [this]
    exact main
  · rw [if_neg ha]
    exact main
theorem down_pos (k : Nat) (a b : Int) (a1 : -9223372036854775808 ≤ a) (a2 : a ≤ 9223372036854775807) (hb : 0 < b) : num_DivDown.f (k + 1) a b = some (a / b, 0) := by
  rw [down k a b a1 a2 (by omega) (by omega), fdiv_pos hb]
theorem up (k : Nat) (a b : Int) (a1 : -9223372036854775808 ≤ a) (a2 : a ≤ 9223372036854775807) (hb : b ≠ 0) (hno : ¬ (a = -9223372036854775808 ∧ b = -1)) : num_DivUp.f (k + 1) a b = some (if Int.tmod a b = 0 then Int.fdiv a b else Int.fdiv a b + 1, 0) := by
  rw [num_DivUp.f, down k a b a1 a2 hb hno]
  simp only [Option.bind_some, if_true]
  rw [if_neg hb]
  by_cases h0 : Int.tmod a b = 0
  · rw [if_pos h0, if_pos h0]
  · rw [if_neg h0, if_neg h0]
    obtain ⟨r1, r2⟩ := fdiv_range a1 a2 hb hno
    have : Int.fdiv a b < 9223372036854775807 := by
      rcases Int.lt_or_le (Int.fdiv a b) 9223372036854775807 with h | h
      · exact h
      · exfalso
        have e : Int.fdiv a b = 9223372036854775807 := by omega
        have hm := Int.mul_fdiv_add_fmod a b
        rw [e] at hm
        have hn : Int.fmod a b ≠ 0 := fun h => h0 (Int.dvd_iff_tmod_eq_zero.1 (Int.dvd_iff_fmod_eq_zero.2 h))
        rcases Int.lt_or_le 0 b with hp | hp
        · have := Int.fmod_nonneg_of_pos a hp
          have := Int.fmod_lt_of_pos a hp
          omega
        · have h1 := Int.mul_fdiv_add_fmod (-a) (-b)
          rw [Int.neg_fdiv_neg, e] at h1
          have := Int.fmod_nonneg_of_pos (-a) (show 0 < -b by omega)
          have := Int.fmod_lt_of_pos (-a) (show 0 < -b by omega)
          omega
    rw [w64 (by omega) (by omega)]
theorem up_pos (k : Nat) (a b : Int) (a1 : -9223372036854775808 ≤ a) (a2 : a ≤ 9223372036854775807) (hb : 0 < b) : num_DivUp.f (k + 1) a b = some (if a % b = 0 then a / b else a / b + 1, 0) := by
  rw [up k a b a1 a2 (by omega) (by omega), fdiv_pos hb]
  have : Int.tmod a b = 0 ↔ a % b = 0 := by rw [← Int.dvd_iff_tmod_eq_zero]; exact Int.dvd_iff_emod_eq_zero
  by_cases h : a % b = 0
  · rw [if_pos h, if_pos (this.2 h)]
  · rw [if_neg h, if_neg (fun g => h (this.1 g))]
theorem mag (a : Int) (a1 : -9223372036854775808 ≤ a) (a2 : a ≤ 9223372036854775807) : num_magnitude.f a = some (a.natAbs : Int) := by
  unfold num_magnitude.f
  rw [u64w, u64w]
  by_cases h : a < 0
  · rw [if_pos h]; congr 1; omega
  · rw [if_neg h]; congr 1; omega
theorem gcd_l0 : ∀ (n k m : Nat), n < k → num_Gcd.l0 k (m : Int) (n : Int) = some (wrap64 (Nat.gcd m n : Int))
  | n, 0, m, h => by omega
  | n, k + 1, m, h => by
    rw [num_Gcd.l0]
    by_cases h0 : n = 0
    · subst h0
      rw [if_neg (by omega), Nat.gcd_zero_right]
    · rw [if_pos (by omega), if_neg (by omega), Int.tmod_eq_emod_of_nonneg (by omega), ← Int.natCast_emod]
      have hlt : m % n < n := Nat.mod_lt _ (by omega)
      rw [gcd_l0 (m % n) k n (by omega), Nat.gcd_comm n (m % n), ← Nat.gcd_rec, Nat.gcd_comm n m]
theorem gcd (k : Nat) (hk : 18446744073709551616 < k) (a b : Int) (a1 : -9223372036854775808 ≤ a) (a2 : a ≤ 9223372036854775807) (b1 : -9223372036854775808 ≤ b) (b2 : b ≤ 9223372036854775807) : num_Gcd.f k a b = some (wrap64 (Nat.gcd a.natAbs b.natAbs : Int)) := by
  rw [num_Gcd.f, mag a a1 a2, mag b b1 b2]
  simp only [Option.bind_some]
  exact gcd_l0 _ _ _ (by omega)
theorem works (k : Nat) (hk : 18446744073709551620 < k) : skywaykeep1_numWorks.f k = some true := by
  unfold skywaykeep1_numWorks.f
  have h3 := gcd k (by omega) (-12) 18 (by decide) (by decide) (by decide) (by decide)
  obtain ⟨k, rfl⟩ : ∃ m, k = m + 1 := ⟨k - 1, by omega⟩
  rw [down k (-7) 2 (by decide) (by decide) (by decide) (by decide), up k (-7) 2 (by decide) (by decide) (by decide) (by decide), h3]
  rw [show Int.fdiv (-7) 2 = -4 from by decide, show Int.tmod (-7) 2 = -1 from by decide, show ((Nat.gcd (Int.natAbs (-12)) (Int.natAbs 18) : Nat) : Int) = 6 from by decide, w64 (by decide) (by decide)]
  decide
theorem natAbs_ediv_nat (a : Int) (g : Nat) (hg : 0 < g) (h : (g : Int) ∣ a) : (a / (g : Int)).natAbs = a.natAbs / g := by
  obtain ⟨c, rfl⟩ := h
  rw [Int.mul_ediv_cancel_left _ (by omega), Int.natAbs_mul, Int.natAbs_natCast, Nat.mul_div_cancel_left _ hg]
theorem NumDivides : skywaykeep1_NumDivides.Pure := by
  intro a b ha hb
  obtain ⟨a1, a2⟩ := wf64.1 ha
  obtain ⟨b1, b2⟩ := wf64.1 hb
  obtain ⟨k, hk⟩ : ∃ k : Nat, 18446744073709551620 < k := ⟨18446744073709551621, by omega⟩
  refine ⟨k, ?_⟩
  unfold skywaykeep1_NumDivides.f
  rw [works k hk, gcd k (by omega) a b a1 a2 b1 b2, gcd k (by omega) b a b1 b2 a1 a2]
  rw [Option.bind_some, if_pos rfl, Option.bind_some, Option.bind_some, Nat.gcd_comm b.natAbs a.natAbs, if_pos rfl]
  have hgle : Nat.gcd a.natAbs b.natAbs ≤ 9223372036854775808 := by
    rcases Nat.eq_zero_or_pos a.natAbs with h | h
    · rw [h, Nat.gcd_zero_left]; omega
    · exact Nat.le_trans (Nat.gcd_le_left _ h) (by omega)
  have hda : ((Nat.gcd a.natAbs b.natAbs : Nat) : Int) ∣ a := Int.dvd_natAbs.1 (Int.natCast_dvd_natCast.2 (Nat.gcd_dvd_left _ _))
  have hdb : ((Nat.gcd a.natAbs b.natAbs : Nat) : Int) ∣ b := Int.dvd_natAbs.1 (Int.natCast_dvd_natCast.2 (Nat.gcd_dvd_right _ _))
  have hz : Nat.gcd a.natAbs b.natAbs = 0 → a = 0 ∧ b = 0 := by
    intro h
    have := Nat.eq_zero_of_gcd_eq_zero_left h
    have := Nat.eq_zero_of_gcd_eq_zero_right h
    omega
  have hco : 0 < Nat.gcd a.natAbs b.natAbs → Nat.gcd (a.natAbs / Nat.gcd a.natAbs b.natAbs) (b.natAbs / Nat.gcd a.natAbs b.natAbs) = 1 := fun h => Nat.coprime_div_gcd_div_gcd h
  generalize Nat.gcd a.natAbs b.natAbs = g at *
  by_cases hbig : g = 9223372036854775808
  · have e : wrap64 (g : Int) = -9223372036854775808 := by rw [hbig]; unfold wrap64; omega
    rw [e]
    rw [if_pos (by omega), if_neg (by omega)]
    simp
  have e : wrap64 (g : Int) = g := w64 (by omega) (by omega)
  rw [e]
  by_cases h0 : g = 0
  · obtain ⟨rfl, rfl⟩ := hz h0
    rw [if_pos (by omega), if_pos (by omega), if_pos rfl, if_pos rfl]
  rw [if_neg (by omega)]
  have x1 := natAbs_ediv_nat a g (by omega) hda
  have x2 := natAbs_ediv_nat b g (by omega) hdb
  have ea : a / (g : Int) * g = a := Int.ediv_mul_cancel hda
  have eb : b / (g : Int) * g = b := Int.ediv_mul_cancel hdb
  have ra := fdiv_range a1 a2 (show (g : Int) ≠ 0 by omega) (by omega)
  have rb := fdiv_range b1 b2 (show (g : Int) ≠ 0 by omega) (by omega)
  rw [fdiv_pos (by omega)] at ra rb
  have hg := gcd k (by omega) (a / (g : Int)) (b / (g : Int)) ra.1 ra.2 rb.1 rb.2
  rw [x1, x2, hco (by omega)] at hg
  obtain ⟨k, rfl⟩ : ∃ m, k = m + 1 := ⟨k - 1, by omega⟩
  rw [down_pos k a g a1 a2 (by omega), up_pos k b g b1 b2 (by omega), if_pos (Int.emod_eq_zero_of_dvd hdb)]
  rw [Option.bind_some, Option.bind_some, if_pos rfl, if_pos rfl, ea, eb, if_pos (w64 a1 a2), if_pos (w64 b1 b2), hg]
  rw [Option.bind_some, w64 (by decide) (by decide)]
  rfl
end Go.Proofs.Ytaahnfajcbkknaa.Pure
