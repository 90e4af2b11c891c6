/- Made by a program of this session (wip/tools/myprint.py, over the kit's printer): that the Go functions answer as the Lean functions printed beside them. -/
import Derived.Test.YteaddpieonkboabPTubeBetweenx0
namespace Go.Proofs.Yteaddpieonkboab.PTubeBetween
open Go.RowKit Go.Proofs.YteaddpieonkboabW.PrintWords Go.Proofs.YteaddpieonkboabW.PrintLast Go.Proofs.YteaddpieonkboabW.PrintMore
attribute [local go_sem] max2_int min2_int max_two min_two max_three min_three max_four min_four   -- for this text's walks alone
set_option linter.unusedVariables false
set_option linter.unusedSimpArgs false

/-! ### skywaykeep1_TubeBetween_1: function 17 -/
def skywaykeep1_TubeBetween_1.f (a0 : Int) (a1 : Int) (a2 : Int) : Option (Bool) := if (mn a1 a2) ≤ a0 then (some (decide (a0 ≤ (mx a1 a2)))) else (some false)
set_option maxHeartbeats 8000000 in
set_option maxRecDepth 100000 in
theorem skywaykeep1_TubeBetween_1.calls (a0 : Int) (a1 : Int) (a2 : Int) (r : Bool) (w : World) (h : skywaykeep1_TubeBetween_1.f a0 a1 a2 = some r) :
    Calls Try.prog 17 #[.int .i64 a0, .int .i64 a1, .int .i64 a2] w fun e w' => e = .returned (.bool r) ∧ Below w.heap.size w w' := by
  have HB := Aside0.mk (Below.refl w.heap.size w)
  have H : (if (mn a1 a2) ≤ a0 then (some (decide (a0 ≤ (mx a1 a2)))) else (some false)) = some r := h
  clear h
  obtain ⟨ji4, hji4⟩ : ∃ j_ : Int, (mn a1 a2) = j_ := ⟨_, rfl⟩
  replace H : (if (ji4) ≤ a0 then (some (decide (a0 ≤ (mx a1 a2)))) else (some false)) = some r := by first | (rw [hji4] at H; exact H) | (simp only [hji4] at H ⊢; exact H)
  have hji4_ : (if a2 < a1 then a2 else a1) = ji4 := hji4
  by_cases c5 : (ji4) ≤ a0
  · rw [if_pos c5] at H
    have c5b0 : decide ((ji4) ≤ a0) = true := decide_eq_true c5
    clear c5
    obtain ⟨ji6, hji6⟩ : ∃ j_ : Int, (mx a1 a2) = j_ := ⟨_, rfl⟩
    replace H : (some (decide (a0 ≤ (ji6)))) = some r := by first | (rw [hji6] at H; exact H) | (simp only [hji6] at H ⊢; exact H)
    have hji6_ : (if a1 < a2 then a2 else a1) = ji6 := hji6
    obtain rfl := Option.some.inj H
    go_enter Try.func17, Try.ntmps17
    go_wp2
    go_ret
    exact ⟨by first | rfl | (simp [errW_none, errW_some] <;> rfl) | (simp only [← hji4, ← hji6]; first | rfl | (simp [errW_none, errW_some] <;> rfl)) | (simp [*, errW_none, errW_some] <;> rfl), by repeat (first | (with_reducible first | exact HB.out | apply below_alloc | apply pw_below_drewN | apply below_drew1) | exact HB.out)⟩
  · rw [if_neg c5] at H
    have c5b0 : decide ((ji4) ≤ a0) = false := decide_eq_false c5
    clear c5
    obtain rfl := Option.some.inj H
    go_enter Try.func17, Try.ntmps17
    go_wp2
    go_ret
    exact ⟨by first | rfl | (simp [errW_none, errW_some] <;> rfl) | (simp only [← hji4]; first | rfl | (simp [errW_none, errW_some] <;> rfl)) | (simp [*, errW_none, errW_some] <;> rfl), by repeat (first | (with_reducible first | exact HB.out | apply below_alloc | apply pw_below_drewN | apply below_drew1) | exact HB.out)⟩

end Go.Proofs.Yteaddpieonkboab.PTubeBetween
