import Derived.Test.YthpbpdobghceeaaGreatDoorTAngS
namespace Go.Proofs.YthpbpdobghceeaaGreatDoor.Ang
open Go Go.RowKit
theorem sums_at (g h : Int) (hg : 0 ≤ g ∧ g < 4096) (hh : 0 ≤ h ∧ h < 4096) : -49151 ≤ 16384 * sinI (g + h) - (sinI g * cosI h + cosI g * sinI h) ∧ 16384 * sinI (g + h) - (sinI g * cosI h + cosI g * sinI h) ≤ 49151 := by
  have k := sum_near (g := g.toNat) (h := h.toNat) (by omega) (by omega)
  have e1 : sinL g.toNat = sinI g := by unfold sinI; exact congrArg sinL (by omega)
  have e2 : sinL h.toNat = sinI h := by unfold sinI; exact congrArg sinL (by omega)
  have e3 : sinL ((g.toNat + 1024) % 4096) = cosI g := by unfold cosI sinI; exact congrArg sinL (by omega)
  have e4 : sinL ((h.toNat + 1024) % 4096) = cosI h := by unfold cosI sinI; exact congrArg sinL (by omega)
  have e5 : sinL ((g.toNat + h.toNat) % 4096) = sinI (g + h) := by unfold sinI; exact congrArg sinL (by omega)
  rwa [e1, e2, e3, e4, e5] at k
end Go.Proofs.YthpbpdobghceeaaGreatDoor.Ang
