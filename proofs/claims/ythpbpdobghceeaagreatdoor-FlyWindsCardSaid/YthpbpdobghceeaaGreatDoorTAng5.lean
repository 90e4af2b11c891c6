import Derived.Test.YthpbpdobghceeaaGreatDoorTAng4
namespace Go.Proofs.YthpbpdobghceeaaGreatDoor.Ang
open Go Go.RowKit
theorem Tab.below {w w' : World} (h : Tab w) (hb : Below w.heap.size w w') : Tab w' := by
  have k : ∀ {p : Addr} {v : Value}, w.cell? p = some v → w'.cell? p = some v := fun {p v} hc => (hb.cell (World.block_lt_of_cell? w _ hc)).trans hc
  exact ⟨k h.s0, k h.s1, k h.s2, k h.s3, k h.s4, k h.s5, k h.c0, k h.c1, k h.c2, k h.c3, k h.c4, k h.c5⟩
def circ (n : Nat) : Bool := (fun s c : Int => decide (-32768 ≤ s * s + c * c - 268435456) && decide (s * s + c * c - 268435456 ≤ 32768) && decide (sinL ((n + 2048) % 4096) = -s) && decide (sinL ((5120 - n) % 4096) = c) && decide (-16384 ≤ s) && decide (s ≤ 16384)) (sinL n) (sinL ((n + 1024) % 4096))
def circs : Nat → Bool
  | 0 => true
  | n + 1 => cond (circ n) (circs n) false
theorem circs_at : ∀ {d : Nat}, circs d = true → ∀ i, i < d → circ i = true
  | 0, _, i, hi => absurd hi (Nat.not_lt_zero _)
  | d + 1, h, i, hi => by
    rw [circs] at h
    cases hc : circ d with
    | false => rw [hc] at h; cases h
    | true =>
      rw [hc, cond_true] at h
      by_cases c : i = d
      · subst c; exact hc
      · exact circs_at h i (by omega)
theorem circs_all : circs 4096 = true := by decide +kernel
theorem circ_at (h : Int) : -32768 ≤ sinI h * sinI h + cosI h * cosI h - 268435456 ∧ sinI h * sinI h + cosI h * cosI h - 268435456 ≤ 32768 ∧ sinI (h + 2048) = -sinI h ∧ cosI (-h) = cosI h ∧ -16384 ≤ sinI h ∧ sinI h ≤ 16384 := by
  have hc := circs_at circs_all (h % 4096).toNat (by omega)
  unfold circ at hc
  simp only [Bool.and_eq_true, decide_eq_true_eq] at hc
  obtain ⟨⟨⟨⟨⟨a, b⟩, c⟩, d⟩, e⟩, f⟩ := hc
  have e0 : sinL (h % 4096).toNat = sinI h := rfl
  have e1 : sinL (((h % 4096).toNat + 1024) % 4096) = cosI h := by unfold cosI sinI; exact congrArg sinL (by omega)
  have e2 : sinL (((h % 4096).toNat + 2048) % 4096) = sinI (h + 2048) := by unfold sinI; exact congrArg sinL (by omega)
  have e3 : sinL ((5120 - (h % 4096).toNat) % 4096) = cosI (-h) := by unfold cosI sinI; exact congrArg sinL (by omega)
  rw [e0] at a b c e f
  rw [e1] at a b d
  rw [e2] at c
  rw [e3] at d
  exact ⟨a, b, c, d, e, f⟩
theorem cos_bd (h : Int) : -16384 ≤ cosI h ∧ cosI h ≤ 16384 := (circ_at (h + 1024)).2.2.2.2
end Go.Proofs.YthpbpdobghceeaaGreatDoor.Ang
