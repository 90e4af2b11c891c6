/- The law AngleSums, by the table of sines: its text answers true. -/
import Derived.Test.YthpbpdobghceeaaDoorAngS
namespace Go.Proofs.YthpbpdobghceeaaDoor.Ang
open Go Go.RowKit
theorem sums_at (g h : Int) (hg : 0 ≤ g ∧ g < 4096) (hh : 0 ≤ h ∧ h < 4096) : -49151 ≤ 16384 * sinI (g + h) - (sinI g * cosI h + cosI g * sinI h) ∧ 16384 * sinI (g + h) - (sinI g * cosI h + cosI g * sinI h) ≤ 49151 := by
  have k := sum_near (g := g.toNat) (h := h.toNat) (by omega) (by omega)
  have e1 : sinL g.toNat = sinI g := by unfold sinI; exact congrArg sinL (by omega)
  have e2 : sinL h.toNat = sinI h := by unfold sinI; exact congrArg sinL (by omega)
  have e3 : sinL ((g.toNat + 1024) % 4096) = cosI g := by unfold cosI sinI; exact congrArg sinL (by omega)
  have e4 : sinL ((h.toNat + 1024) % 4096) = cosI h := by unfold cosI sinI; exact congrArg sinL (by omega)
  have e5 : sinL ((g.toNat + h.toNat) % 4096) = sinI (g + h) := by unfold sinI; exact congrArg sinL (by omega)
  rwa [e1, e2, e3, e4, e5] at k
theorem tdiv_near {T X : Int} (h1 : -49151 ≤ 16384 * T - X) (h2 : 16384 * T - X ≤ 49151) : -3 ≤ T - Int.tdiv X 16384 ∧ T - Int.tdiv X 16384 ≤ 3 := by
  rcases Int.le_total 0 X with h | h
  · rw [Int.tdiv_eq_ediv_of_nonneg h]; omega
  · have e : Int.tdiv X 16384 = -Int.tdiv (-X) 16384 := by rw [Int.neg_tdiv, Int.neg_neg]
    rw [e, Int.tdiv_eq_ediv_of_nonneg (by omega)]; omega
set_option maxRecDepth 100000 in
theorem sums_calls (g h : Int) (w : World) (hT : Tab w) : Calls Tryd.prog 4 #[.int .i64 g, .int .i64 h] w fun e w' => e = .returned (.bool true) ∧ Below w.heap.size w w' := by
  have n1 := norm_calls' g
  have n2 := norm_calls' h
  have hg : 0 ≤ g % 4096 ∧ g % 4096 < 4096 := by omega
  have hh : 0 ≤ h % 4096 ∧ h % 4096 < 4096 := by omega
  generalize g % 4096 = m at *
  generalize h % 4096 = n at *
  have k1 := fun w hT => sinI_calls m w hT
  have k2 := fun w hT => cosI_calls n w hT
  have k3 := fun w hT => cosI_calls m w hT
  have k4 := fun w hT => sinI_calls n w hT
  have k5 := fun w hT => sinI_calls (m + n) w hT
  obtain ⟨s1, s2⟩ := sums_at m n hg hh
  obtain ⟨_, _, _, _, a1, a2⟩ := circ_at m
  obtain ⟨_, _, _, _, a3, a4⟩ := circ_at n
  obtain ⟨_, _, _, _, a5, a6⟩ := circ_at (m + n)
  obtain ⟨b1, b2⟩ := cos_bd m
  obtain ⟨b3, b4⟩ := cos_bd n
  generalize sinI m = sm at *
  generalize sinI n = sn at *
  generalize cosI m = cm at *
  generalize cosI n = cn at *
  generalize sinI (m + n) = T at *
  have p1 := mul_bd a1 a2 b3 b4
  have p2 := mul_bd b1 b2 a3 a4
  have w1 : wrap64 (wrap64 (sm * cn) + wrap64 (cm * sn)) = sm * cn + cm * sn := by unfold wrap64; omega
  obtain ⟨d1, d2⟩ := tdiv_near s1 s2
  have w3 : -100000 ≤ Int.tdiv (sm * cn + cm * sn) 16384 ∧ Int.tdiv (sm * cn + cm * sn) 16384 ≤ 100000 := by omega
  have hT' := Lib.hid hT
  have w4 : wrap64 (Int.tdiv (sm * cn + cm * sn) 16384) = Int.tdiv (sm * cn + cm * sn) 16384 := by unfold wrap64; omega
  have w5 : wrap64 (T - Int.tdiv (sm * cn + cm * sn) 16384) = T - Int.tdiv (sm * cn + cm * sn) 16384 := by unfold wrap64; omega
  have r1 : (-3 ≤ T - Int.tdiv (sm * cn + cm * sn) 16384) = True := eq_true d1
  have r2 : (T - Int.tdiv (sm * cn + cm * sn) 16384 ≤ 3) = True := eq_true d2
  clear hT a1 a2 a3 a4 a5 a6 b1 b2 b3 b4 p1 p2 s1 s2 d1 d2 w3
  go_enter Tryd.func4, Tryd.ntmps4
  go_wp2_with (first | (go_at_call 11; refine (works_calls _ hT'.out).mono ?_; rintro e w' ⟨rfl, rfl⟩) | (go_at_call 12; with_reducible refine (k1 _ hT'.out).mono ?_; rintro e w' ⟨rfl, rfl⟩) | (go_at_call 12; with_reducible refine (k4 _ hT'.out).mono ?_; rintro e w' ⟨rfl, rfl⟩) | (go_at_call 12; with_reducible refine (k5 _ hT'.out).mono ?_; rintro e w' ⟨rfl, rfl⟩) | (go_at_call 13; with_reducible refine (k2 _ hT'.out).mono ?_; rintro e w' ⟨rfl, rfl⟩) | (go_at_call 13; with_reducible refine (k3 _ hT'.out).mono ?_; rintro e w' ⟨rfl, rfl⟩) | (go_at_call 14; with_reducible refine (n1 _).mono ?_; rintro e w' ⟨rfl, rfl⟩) | (go_at_call 14; with_reducible refine (n2 _).mono ?_; rintro e w' ⟨rfl, rfl⟩))
  go_ret
  exact ⟨rfl, Below.refl _ _⟩
end Go.Proofs.YthpbpdobghceeaaDoor.Ang
