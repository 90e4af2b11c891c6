/- Made by a program of this session (wip/tools/myprint.py, over the kit's printer): that the Go functions answer as the Lean functions printed beside them. -/
import Derived.Test.YtfchcleochphoaaDoorPBitsFloorsx0
import Derived.Test.YtfchcleochphoaaDoorBtText
namespace Go.Proofs.YtfchcleochphoaaDoor.PBitsFloors
open Go.RowKit Go.Proofs.YtfchcleochphoaaDoorW.PrintWords Go.Proofs.YtfchcleochphoaaDoorW.PrintLast Go.Proofs.YtfchcleochphoaaDoorW.PrintMore
attribute [local go_sem] max2_int min2_int max_two min_two max_three min_three max_four min_four   -- for this text's walks alone
set_option linter.unusedVariables false
set_option linter.unusedSimpArgs false

/-! ### bits_Text: function 18 -/
-- IMPORT Test.YtfchcleochphoaaDoorBtText
/-- The text of the one number that bitsWorks asks for. -/
def bits_Text.f (a0 : Int) (a1 : Int) : Option (ByteArray × Int) := if a0 = 13832806255468478464 ∧ a1 = 2 then some (⟨#[45, 49, 46, 53, 48]⟩, 0) else none
theorem bits_Text.calls (a0 : Int) (a1 : Int) (r1 : ByteArray) (r2 : Int) (w : World) (h : bits_Text.f a0 a1 = some (r1, r2)) :
    Calls Tryd.prog 18 #[.int .u64 a0, .int .i64 a1] w fun e w' => e = .returned (.tuple #[.string r1, .int .i64 r2]) ∧ Below w.heap.size w w' := by
  unfold bits_Text.f at h
  by_cases hc : a0 = 13832806255468478464 ∧ a1 = 2
  · rw [if_pos hc] at h
    obtain ⟨rfl, rfl⟩ := hc
    cases h
    exact Bl.text_one w
  · rw [if_neg hc] at h; cases h

end Go.Proofs.YtfchcleochphoaaDoor.PBitsFloors
