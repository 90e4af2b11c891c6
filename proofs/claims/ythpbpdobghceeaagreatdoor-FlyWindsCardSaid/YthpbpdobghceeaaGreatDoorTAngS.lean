import Derived.Test.YthpbpdobghceeaaGreatDoorTAng5
namespace Go.Proofs.YthpbpdobghceeaaGreatDoor.Ang
open Go
abbrev DD : Int := 1099511627776
abbrev wa : Int := 1099510334147
abbrev wb : Int := 1686629052
def pw : Nat → Int × Int
  | 0 => (DD, 0)
  | n + 1 => (((pw n).1 * wa - (pw n).2 * wb) / DD, ((pw n).1 * wb + (pw n).2 * wa) / DD)
def pwChk : Nat → Nat → Int → Int → Bool
  | 0, _, _, _ => true
  | d + 1, n, p, q => (fun s c : Int => cond (decide (-560750930165 ≤ s * DD - 16384 * q) && decide (s * DD - 16384 * q ≤ 560750930165) && decide (-560750930165 ≤ c * DD - 16384 * p) && decide (c * DD - 16384 * p ≤ 560750930165)) (pwChk d (n + 1) ((p * wa - q * wb) / DD) ((p * wb + q * wa) / DD)) false) (sinL (n % 4096)) (sinL ((n + 1024) % 4096))
def Nr (n : Nat) (p q : Int) : Prop := (-560750930165 ≤ sinL (n % 4096) * DD - 16384 * q ∧ sinL (n % 4096) * DD - 16384 * q ≤ 560750930165) ∧ -560750930165 ≤ sinL ((n + 1024) % 4096) * DD - 16384 * p ∧ sinL ((n + 1024) % 4096) * DD - 16384 * p ≤ 560750930165
theorem pwChk_at : ∀ (d n : Nat), pwChk d n (pw n).1 (pw n).2 = true → ∀ i, n ≤ i → i < n + d → Nr i (pw i).1 (pw i).2
  | 0, n, _, i, h1, h2 => by omega
  | d + 1, n, h, i, h1, h2 => by
    rw [pwChk] at h
    dsimp only at h
    cases hc : (decide (-560750930165 ≤ sinL (n % 4096) * DD - 16384 * (pw n).2) && decide (sinL (n % 4096) * DD - 16384 * (pw n).2 ≤ 560750930165) && decide (-560750930165 ≤ sinL ((n + 1024) % 4096) * DD - 16384 * (pw n).1) && decide (sinL ((n + 1024) % 4096) * DD - 16384 * (pw n).1 ≤ 560750930165)) with
    | false => rw [hc] at h; cases h
    | true =>
      rw [hc, cond_true] at h
      by_cases c : i = n
      · subst c
        simp only [Bool.and_eq_true, decide_eq_true_eq] at hc
        exact ⟨⟨hc.1.1.1, hc.1.1.2⟩, hc.1.2, hc.2⟩
      · exact pwChk_at d (n + 1) h i (by omega) (by omega)
theorem chk_pw : pwChk 8192 0 DD 0 = true := by decide +kernel
theorem near_pw {i : Nat} (h : i < 8192) : Nr i (pw i).1 (pw i).2 := pwChk_at 8192 0 chk_pw i (Nat.zero_le _) (by omega)
theorem mul_bd {x y A B : Int} (h1 : -A ≤ x) (h2 : x ≤ A) (h3 : -B ≤ y) (h4 : y ≤ B) : -(A * B) ≤ x * y ∧ x * y ≤ A * B := by
  have a1 := Int.mul_nonneg (show 0 ≤ A - x by omega) (show 0 ≤ B - y by omega)
  have a2 := Int.mul_nonneg (show 0 ≤ A + x by omega) (show 0 ≤ B + y by omega)
  have a3 := Int.mul_nonneg (show 0 ≤ A - x by omega) (show 0 ≤ B + y by omega)
  have a4 := Int.mul_nonneg (show 0 ≤ A + x by omega) (show 0 ≤ B - y by omega)
  have e1 : (A - x) * (B - y) + (A + x) * (B + y) = 2 * (A * B + x * y) := by grind
  have e2 : (A - x) * (B + y) + (A + x) * (B - y) = 2 * (A * B - x * y) := by grind
  omega
theorem sinL_bd {n : Nat} (h : n < 4096) : -16384 ≤ sinL n ∧ sinL n ≤ 16384 := by
  have := (circ_at (n : Int)).2.2.2.2
  have e : sinI (n : Int) = sinL n := by unfold sinI; exact congrArg sinL (by omega)
  rwa [e] at this
theorem pw_bd {i : Nat} (h : i < 8192) : (-1100000000000 ≤ (pw i).1 ∧ (pw i).1 ≤ 1100000000000) ∧ -1100000000000 ≤ (pw i).2 ∧ (pw i).2 ≤ 1100000000000 := by
  obtain ⟨⟨a1, a2⟩, a3, a4⟩ := near_pw h
  obtain ⟨b1, b2⟩ := sinL_bd (n := i % 4096) (by omega)
  obtain ⟨b3, b4⟩ := sinL_bd (n := (i + 1024) % 4096) (by omega)
  unfold DD at a1 a2 a3 a4
  omega
def errB : Nat → Int
  | 0 => 0
  | h + 1 => ((wa + wb) * errB h + 4 * DD * DD) / DD + 1
theorem errB_nonneg : ∀ h, 0 ≤ errB h
  | 0 => Int.le_refl _
  | h + 1 => by
    have := errB_nonneg h
    have h2 : 0 ≤ (wa + wb) * errB h := Int.mul_nonneg (by decide) this
    have h3 : (0 : Int) ≤ 4 * DD * DD := by decide
    rw [errB]
    have : 0 ≤ ((wa + wb) * errB h + 4 * DD * DD) / DD := Int.ediv_nonneg (Int.add_nonneg h2 h3) (by decide)
    omega
def errChk : Nat → Int → Bool
  | 0, _ => true
  | d + 1, e => cond (decide (e ≤ 2000000 * DD)) (errChk d (((wa + wb) * e + 4 * DD * DD) / DD + 1)) false
theorem errChk_at : ∀ (d n : Nat), errChk d (errB n) = true → ∀ i, n ≤ i → i < n + d → errB i ≤ 2000000 * DD
  | 0, n, _, i, h1, h2 => by omega
  | d + 1, n, h, i, h1, h2 => by
    rw [errChk] at h
    cases hc : decide (errB n ≤ 2000000 * DD) with
    | false => rw [hc] at h; cases h
    | true =>
      rw [hc, cond_true] at h
      by_cases c : i = n
      · subst c; exact of_decide_eq_true hc
      · exact errChk_at d (n + 1) h i (by omega) (by omega)
theorem err_le {i : Nat} (h : i < 4096) : errB i ≤ 2000000 * DD := errChk_at 4096 0 (by decide +kernel) i (Nat.zero_le _) (by omega)
theorem pw_step (n : Nat) : ∃ r1 r2 : Int, (0 ≤ r1 ∧ r1 < DD) ∧ (0 ≤ r2 ∧ r2 < DD) ∧ DD * (pw (n + 1)).1 = (pw n).1 * wa - (pw n).2 * wb - r1 ∧ DD * (pw (n + 1)).2 = (pw n).1 * wb + (pw n).2 * wa - r2 := by
  have e1 : (pw (n + 1)).1 = ((pw n).1 * wa - (pw n).2 * wb) / DD := rfl
  have e2 : (pw (n + 1)).2 = ((pw n).1 * wb + (pw n).2 * wa) / DD := rfl
  generalize (pw n).1 * wa - (pw n).2 * wb = X at e1 ⊢
  generalize (pw n).1 * wb + (pw n).2 * wa = Y at e2 ⊢
  refine ⟨X % DD, Y % DD, ⟨Int.emod_nonneg _ (by decide), Int.emod_lt_of_pos _ (by decide)⟩, ⟨Int.emod_nonneg _ (by decide), Int.emod_lt_of_pos _ (by decide)⟩, ?_, ?_⟩
  · rw [e1]; have := Int.mul_ediv_add_emod X DD; omega
  · rw [e2]; have := Int.mul_ediv_add_emod Y DD; omega
theorem pw_add (g : Nat) (hg : g < 4096) : ∀ h, h < 4096 → (-errB h ≤ DD * (pw (g + h)).1 - ((pw g).1 * (pw h).1 - (pw g).2 * (pw h).2) ∧ DD * (pw (g + h)).1 - ((pw g).1 * (pw h).1 - (pw g).2 * (pw h).2) ≤ errB h) ∧
    -errB h ≤ DD * (pw (g + h)).2 - ((pw g).1 * (pw h).2 + (pw g).2 * (pw h).1) ∧ DD * (pw (g + h)).2 - ((pw g).1 * (pw h).2 + (pw g).2 * (pw h).1) ≤ errB h
  | 0, _ => by
    have e : pw 0 = (DD, 0) := rfl
    rw [Nat.add_zero, e]
    dsimp only
    have e0 : errB 0 = 0 := rfl
    rw [e0]
    have : (pw g).1 * DD = DD * (pw g).1 := Int.mul_comm _ _
    have : (pw g).2 * DD = DD * (pw g).2 := Int.mul_comm _ _
    omega
  | h + 1, hh => by
    obtain ⟨⟨a1, a2⟩, a3, a4⟩ := pw_add g hg h (by omega)
    obtain ⟨r1, r2, ⟨p1, p2⟩, ⟨p3, p4⟩, s1, s2⟩ := pw_step (g + h)
    obtain ⟨t1, t2, ⟨q1, q2⟩, ⟨q3, q4⟩, u1, u2⟩ := pw_step h
    obtain ⟨⟨b1, b2⟩, b3, b4⟩ := pw_bd (show g < 8192 by omega)
    have hE := errB_nonneg h
    rw [← Nat.add_assoc, errB]
    generalize errB h = E at *
    generalize (pw g).1 = Pg at *
    generalize (pw g).2 = Qg at *
    generalize (pw h).1 = Ph at *
    generalize (pw h).2 = Qh at *
    generalize (pw (g + h)).1 = Pk at *
    generalize (pw (g + h)).2 = Qk at *
    generalize (pw (h + 1)).1 = Ph' at *
    generalize (pw (h + 1)).2 = Qh' at *
    generalize (pw (g + h + 1)).1 = Pk' at *
    generalize (pw (g + h + 1)).2 = Qk' at *
    have m1 := mul_bd b1 b2 (show -DD ≤ t1 by omega) (show t1 ≤ DD by omega)
    have m2 := mul_bd b1 b2 (show -DD ≤ t2 by omega) (show t2 ≤ DD by omega)
    have m3 := mul_bd b3 b4 (show -DD ≤ t1 by omega) (show t1 ≤ DD by omega)
    have m4 := mul_bd b3 b4 (show -DD ≤ t2 by omega) (show t2 ≤ DD by omega)
    have k1 : DD * (DD * Pk' - (Pg * Ph' - Qg * Qh')) = wa * (DD * Pk - (Pg * Ph - Qg * Qh)) - wb * (DD * Qk - (Pg * Qh + Qg * Ph)) - DD * r1 + Pg * t1 - Qg * t2 := by
      have : DD * (DD * Pk' - (Pg * Ph' - Qg * Qh')) = DD * (DD * Pk') - (Pg * (DD * Ph') - Qg * (DD * Qh')) := by grind
      rw [this, s1, u1, u2]
      grind
    have k2 : DD * (DD * Qk' - (Pg * Qh' + Qg * Ph')) = wb * (DD * Pk - (Pg * Ph - Qg * Qh)) + wa * (DD * Qk - (Pg * Qh + Qg * Ph)) - DD * r2 + Pg * t2 + Qg * t1 := by
      have : DD * (DD * Qk' - (Pg * Qh' + Qg * Ph')) = DD * (DD * Qk') - (Pg * (DD * Qh') + Qg * (DD * Ph')) := by grind
      rw [this, s2, u1, u2]
      grind
    generalize DD * Pk - (Pg * Ph - Qg * Qh) = A1 at *
    generalize DD * Qk - (Pg * Qh + Qg * Ph) = A2 at *
    generalize DD * Pk' - (Pg * Ph' - Qg * Qh') = B1 at *
    generalize DD * Qk' - (Pg * Qh' + Qg * Ph') = B2 at *
    generalize Pg * t1 = z1 at *
    generalize Pg * t2 = z2 at *
    generalize Qg * t1 = z3 at *
    generalize Qg * t2 = z4 at *
    unfold DD wa wb at *
    refine ⟨⟨?_, ?_⟩, ?_, ?_⟩ <;> omega
theorem sum_near {g h : Nat} (hg : g < 4096) (hh : h < 4096) : -49151 ≤ 16384 * sinL ((g + h) % 4096) - (sinL g * sinL ((h + 1024) % 4096) + sinL ((g + 1024) % 4096) * sinL h) ∧
    16384 * sinL ((g + h) % 4096) - (sinL g * sinL ((h + 1024) % 4096) + sinL ((g + 1024) % 4096) * sinL h) ≤ 49151 := by
  obtain ⟨⟨a1, a2⟩, a3, a4⟩ := near_pw (show g < 8192 by omega)
  obtain ⟨⟨b1, b2⟩, b3, b4⟩ := near_pw (show h < 8192 by omega)
  obtain ⟨⟨c1, c2⟩, _, _⟩ := near_pw (show g + h < 8192 by omega)
  obtain ⟨_, d1, d2⟩ := pw_add g hg h hh
  have e1 := err_le hh
  obtain ⟨⟨p1, p2⟩, p3, p4⟩ := pw_bd (show g < 8192 by omega)
  obtain ⟨⟨q1, q2⟩, q3, q4⟩ := pw_bd (show h < 8192 by omega)
  rw [Nat.mod_eq_of_lt hg] at a1 a2
  rw [Nat.mod_eq_of_lt hh] at b1 b2
  generalize sinL g = sg at *
  generalize sinL h = sh at *
  generalize sinL ((g + 1024) % 4096) = cg at *
  generalize sinL ((h + 1024) % 4096) = ch at *
  generalize sinL ((g + h) % 4096) = T at *
  generalize (pw g).1 = Pg at *
  generalize (pw g).2 = Qg at *
  generalize (pw h).1 = Ph at *
  generalize (pw h).2 = Qh at *
  generalize (pw (g + h)).2 = Qk at *
  generalize errB h = E at *
  obtain ⟨x1, hx1⟩ : ∃ x, sg * DD - 16384 * Qg = x := ⟨_, rfl⟩
  obtain ⟨y1, hy1⟩ : ∃ x, cg * DD - 16384 * Pg = x := ⟨_, rfl⟩
  obtain ⟨x2, hx2⟩ : ∃ x, sh * DD - 16384 * Qh = x := ⟨_, rfl⟩
  obtain ⟨y2, hy2⟩ : ∃ x, ch * DD - 16384 * Ph = x := ⟨_, rfl⟩
  obtain ⟨x3, hx3⟩ : ∃ x, T * DD - 16384 * Qk = x := ⟨_, rfl⟩
  rw [hx1] at a1 a2
  rw [hy1] at a3 a4
  rw [hx2] at b1 b2
  rw [hy2] at b3 b4
  rw [hx3] at c1 c2
  have m1 := mul_bd p3 p4 b3 b4
  have m2 := mul_bd a1 a2 q1 q2
  have m3 := mul_bd p1 p2 b1 b2
  have m4 := mul_bd a3 a4 q3 q4
  have m5 := mul_bd a1 a2 b3 b4
  have m6 := mul_bd a3 a4 b1 b2
  have key : DD * DD * (16384 * T - (sg * ch + cg * sh)) = 268435456 * (DD * Qk - (Pg * Qh + Qg * Ph)) + 16384 * DD * x3 - 16384 * (Qg * y2 + x1 * Ph + Pg * x2 + y1 * Qh) - (x1 * y2 + y1 * x2) := by
    subst hx1 hy1 hx2 hy2 hx3
    grind
  generalize DD * Qk - (Pg * Qh + Qg * Ph) = A at *
  generalize Qg * y2 = z1 at *
  generalize x1 * Ph = z2 at *
  generalize Pg * x2 = z3 at *
  generalize y1 * Qh = z4 at *
  generalize x1 * y2 = z5 at *
  generalize y1 * x2 = z6 at *
  generalize sg * ch + cg * sh = X at *
  clear hx1 hy1 hx2 hy2 hx3
  unfold DD at *
  constructor <;> omega
end Go.Proofs.YthpbpdobghceeaaGreatDoor.Ang
