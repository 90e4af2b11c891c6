/- The laws AngleCircle and AngleTurns, by the table of sines: their texts answer true. -/
import Derived.Test.YthpbpdobghceeaaDoorAng4
namespace Go.Proofs.YthpbpdobghceeaaDoor.Ang
open Go Go.RowKit
/-- Where start-up code laid the tables, and all that a call that leaves alone what lay there leads to. -/
theorem Tab.below {w w' : World} (h : Tab w) (hb : Below w.heap.size w w') : Tab w' := by
  have k : ∀ {p : Addr} {v : Value}, w.cell? p = some v → w'.cell? p = some v := fun {p v} hc => (hb.cell (World.block_lt_of_cell? w _ hc)).trans hc
  exact ⟨k h.s0, k h.s1, k h.s2, k h.s3, k h.s4, k h.s5, k h.c0, k h.c1, k h.c2, k h.c3, k h.c4, k h.c5⟩
set_option maxRecDepth 100000 in
theorem turns_calls (g h : Int) (w : World) (hT : Tab w) : Calls Tryd.prog 5 #[.int .i64 g, .int .i64 h] w fun e w' => e = .returned (.bool true) ∧ Below w.heap.size w w' := by
  have c0 := diff_calls g h
  have c0' := diff_calls h g
  have hr : -2048 < diffI g h ∧ diffI g h ≤ 2048 ∧ (g + diffI g h) % 4096 = h % 4096 ∧ (diffI g h ≠ 2048 → diffI h g = -diffI g h) := by unfold diffI; (repeat' split) <;> omega
  generalize diffI g h = d at *
  generalize diffI h g = d' at *
  have c1 : ∀ w : World, Calls Tryd.prog 14 #[.int .i64 (wrap64 (g + d))] w fun e w' => e = .returned (.int .i64 (h % 4096)) ∧ w' = w := fun w => by
    have := norm_calls' (wrap64 (g + d)) w
    rwa [show wrap64 (g + d) % 4096 = h % 4096 by unfold wrap64; omega] at this
  have c2 := norm_calls' h
  generalize h % 4096 = m at *
  have w2 : wrap64 (-d) = -d := by unfold wrap64; omega
  have r1 : (-2048 < d) = True := eq_true hr.1
  have r2 : (d ≤ 2048) = True := eq_true hr.2.1
  have hT' := Lib.hid hT
  have hr' := Lib.hid hr
  clear hr hT
  go_enter Tryd.func5, Tryd.ntmps5
  go_wp2_with (first | (go_at_call 11; refine (works_calls _ hT'.out).mono ?_; rintro e w' ⟨rfl, rfl⟩) | (go_at_call 15; with_reducible refine (c0 _).mono ?_; rintro e w' ⟨rfl, rfl⟩) | (go_at_call 15; with_reducible refine (c0' _).mono ?_; rintro e w' ⟨rfl, rfl⟩) | (go_at_call 14; with_reducible refine (c1 _).mono ?_; rintro e w' ⟨rfl, rfl⟩) | (go_at_call 14; with_reducible refine (c2 _).mono ?_; rintro e w' ⟨rfl, rfl⟩))
  · go_ret
    exact ⟨rfl, Below.refl _ _⟩
  · rename_i hd
    have e := hr'.out.2.2.2 hd
    go_ret
    refine ⟨?_, Below.refl _ _⟩
    show Ending.returned (Value.bool (d == 2048 || d' == -d)) = _
    rw [e]
    simp
/-- What the kernel looks at for AngleCircle, at each n. -/
def circ (n : Nat) : Bool := (fun s c : Int => decide (-32768 ≤ s * s + c * c - 268435456) && decide (s * s + c * c - 268435456 ≤ 32768) && decide (sinL ((n + 2048) % 4096) = -s) && decide (sinL ((5120 - n) % 4096) = c) && decide (-16384 ≤ s) && decide (s ≤ 16384)) (sinL n) (sinL ((n + 1024) % 4096))
def circs : Nat → Bool
  | 0 => true
  | n + 1 => cond (circ n) (circs n) false
theorem circs_at : ∀ {d : Nat}, circs d = true → ∀ i, i < d → circ i = true
  | 0, _, i, hi => absurd hi (Nat.not_lt_zero _)
  | d + 1, h, i, hi => by
    rw [circs] at h
    cases hc : circ d with
    | false => rw [hc] at h; cases h
    | true =>
      rw [hc, cond_true] at h
      by_cases c : i = d
      · subst c; exact hc
      · exact circs_at h i (by omega)
theorem circs_all : circs 4096 = true := by decide +kernel
theorem circ_at (h : Int) : -32768 ≤ sinI h * sinI h + cosI h * cosI h - 268435456 ∧ sinI h * sinI h + cosI h * cosI h - 268435456 ≤ 32768 ∧ sinI (h + 2048) = -sinI h ∧ cosI (-h) = cosI h ∧ -16384 ≤ sinI h ∧ sinI h ≤ 16384 := by
  have hc := circs_at circs_all (h % 4096).toNat (by omega)
  unfold circ at hc
  simp only [Bool.and_eq_true, decide_eq_true_eq] at hc
  obtain ⟨⟨⟨⟨⟨a, b⟩, c⟩, d⟩, e⟩, f⟩ := hc
  have e0 : sinL (h % 4096).toNat = sinI h := rfl
  have e1 : sinL (((h % 4096).toNat + 1024) % 4096) = cosI h := by unfold cosI sinI; exact congrArg sinL (by omega)
  have e2 : sinL (((h % 4096).toNat + 2048) % 4096) = sinI (h + 2048) := by unfold sinI; exact congrArg sinL (by omega)
  have e3 : sinL ((5120 - (h % 4096).toNat) % 4096) = cosI (-h) := by unfold cosI sinI; exact congrArg sinL (by omega)
  rw [e0] at a b c e f
  rw [e1] at a b d
  rw [e2] at c
  rw [e3] at d
  exact ⟨a, b, c, d, e, f⟩
theorem cos_bd (h : Int) : -16384 ≤ cosI h ∧ cosI h ≤ 16384 := (circ_at (h + 1024)).2.2.2.2
theorem sq_16384 {x : Int} (h1 : -16384 ≤ x) (h2 : x ≤ 16384) : 0 ≤ x * x ∧ x * x ≤ 268435456 := by
  constructor
  · rcases Int.le_total 0 x with h | h
    · exact Int.mul_nonneg h h
    · exact Int.mul_nonneg_of_nonpos_of_nonpos h h
  · have := Int.mul_nonneg (show 0 ≤ 16384 - x by omega) (show 0 ≤ 16384 + x by omega)
    have e : (16384 - x) * (16384 + x) = 268435456 - x * x := by grind
    omega
set_option maxRecDepth 100000 in
theorem circle_calls (h : Int) (w : World) (hT : Tab w) : Calls Tryd.prog 3 #[.int .i64 h] w fun e w' => e = .returned (.bool true) ∧ Below w.heap.size w w' := by
  have k1 := fun w hT => sinI_calls h w hT
  have k2 := fun w hT => cosI_calls h w hT
  have k3 := fun w hT => sinI_calls (wrap64 (h + 2048)) w hT
  have k4 := fun w hT => cosI_calls (wrap64 (-h)) w hT
  have k5 := fun w hT => sinI_calls (wrap64 (h + 1024)) w hT
  have k6 := fun w hT => cosI_calls (wrap64 (h + 4096)) w hT
  obtain ⟨a1, a2, a3, a4, a5, a6⟩ := circ_at h
  obtain ⟨b1, b2⟩ := cos_bd h
  have e3 : sinI (wrap64 (h + 2048)) = -sinI h := (sinI_wrap _).trans a3
  have e4 : cosI (wrap64 (-h)) = cosI h := (cosI_wrap _).trans a4
  have e5 : sinI (wrap64 (h + 1024)) = cosI h := sinI_wrap _
  have e6 : cosI (wrap64 (h + 4096)) = cosI h := (cosI_wrap _).trans (sinI_mod (by omega))
  simp only [e3] at k3
  simp only [e4] at k4
  simp only [e5] at k5
  simp only [e6] at k6
  clear e3 e4 e5 e6 a3 a4
  generalize sinI h = s at *
  generalize cosI h = c at *
  obtain ⟨s1, s2⟩ := sq_16384 a5 a6
  obtain ⟨c1, c2⟩ := sq_16384 b1 b2
  have w1 : wrap64 (-s) = -s := by unfold wrap64; omega
  have w2 : wrap64 (wrap64 (wrap64 (s * s) + wrap64 (c * c)) - 268435456) = s * s + c * c - 268435456 := by unfold wrap64; omega
  generalize s * s + c * c - 268435456 = D at *
  have r1 : (-32768 ≤ D) = True := eq_true a1
  have r2 : (D ≤ 32768) = True := eq_true a2
  have hT' := Lib.hid hT
  clear hT a1 a2 a5 a6 b1 b2 s1 s2 c1 c2
  go_enter Tryd.func3, Tryd.ntmps3
  go_wp2_with (first | (go_at_call 11; refine (works_calls _ hT'.out).mono ?_; rintro e w' ⟨rfl, rfl⟩) | (go_at_call 12; with_reducible refine (k1 _ hT'.out).mono ?_; rintro e w' ⟨rfl, rfl⟩) | (go_at_call 12; with_reducible refine (k3 _ hT'.out).mono ?_; rintro e w' ⟨rfl, rfl⟩) | (go_at_call 12; with_reducible refine (k5 _ hT'.out).mono ?_; rintro e w' ⟨rfl, rfl⟩) | (go_at_call 13; with_reducible refine (k2 _ hT'.out).mono ?_; rintro e w' ⟨rfl, rfl⟩) | (go_at_call 13; with_reducible refine (k4 _ hT'.out).mono ?_; rintro e w' ⟨rfl, rfl⟩) | (go_at_call 13; with_reducible refine (k6 _ hT'.out).mono ?_; rintro e w' ⟨rfl, rfl⟩))
  go_ret
  exact ⟨rfl, Below.refl _ _⟩
end Go.Proofs.YthpbpdobghceeaaDoor.Ang
