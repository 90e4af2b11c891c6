/- How two items of a heap are compared: int. -/
import Derived.Test.YthghilclgobpbaaProg
import Derived.Test.YthghilclgobpbaaHeapWalkI
import Derived.Tactics
import Derived.Tactics2
import Derived.WalkKit
import Derived.WalkSpells
import Derived.StillTactics
import Derived.KernelRfl
import Derived.Lib.Hide
namespace Go.Proofs.YthghilclgobpbaaH.I
open Go Go.RowKit Go.Proofs.YthghilclgobpbaaH Go.Proofs.YthghilclgobpbaaW.PrintWords Go.Proofs.YthghilclgobpbaaW.PrintLast
set_option linter.unusedVariables false
set_option linter.unusedSimpArgs false
attribute [local go_sem ↓] Go.wp_at_zero Go.wp_at_succ
set_option maxHeartbeats 1000000 in
theorem isNaN_any (x : Int) (w : World) : Calls Try.prog 72 #[.int .i64 x] w fun e w' => e = .returned (.bool false) ∧ w = w' := by
  go_enter Try.func72, Try.ntmps72
  go_wp2
  go_ret
  exact ⟨by simp, rfl⟩
def cmpI (x y : Int) : Int := if x < y then -1 else if y < x then 1 else 0
set_option maxHeartbeats 1000000 in
theorem Compare_any (x y : Int) (w : World) : Calls Try.prog 50 #[.int .i64 x, .int .i64 y] w fun e w' => e = .returned (.int .i64 (cmpI x y)) ∧ w = w' := by
  have key : ∀ r, cmpI x y = r → Calls Try.prog 50 #[.int .i64 x, .int .i64 y] w fun e w' => e = .returned (.int .i64 r) ∧ w = w' := by
    intro r hr
    unfold cmpI at hr
    by_cases h1 : x < y
    · rw [if_pos h1] at hr
      subst hr
      go_enter Try.func50, Try.ntmps50
      go_wp2_with (go_at_call 72; refine (isNaN_any _ _).mono ?_; rintro e w' ⟨rfl, rfl⟩)
      go_ret
      simp
    · rw [if_neg h1] at hr
      by_cases h2 : y < x
      · rw [if_pos h2] at hr
        subst hr
        go_enter Try.func50, Try.ntmps50
        go_wp2_with (go_at_call 72; refine (isNaN_any _ _).mono ?_; rintro e w' ⟨rfl, rfl⟩)
        go_ret
        simp
      · rw [if_neg h2] at hr
        subst hr
        go_enter Try.func50, Try.ntmps50
        go_wp2_with (go_at_call 72; refine (isNaN_any _ _).mono ?_; rintro e w' ⟨rfl, rfl⟩)
        go_ret
        simp
  exact key _ rfl
def orI (a b : Int) : Int := if a = 0 then b else a
set_option maxHeartbeats 2000000 in
theorem Or_any (g : Nat) (a b : Int) (w : World) (h0 : w.cell? ⟨g, 0, none⟩ = some (.int .i64 a)) (h1 : w.cell? ⟨g, 1, none⟩ = some (.int .i64 b)) :
    Calls Try.prog 49 #[.slice (some ⟨g, 0, none⟩) 2 2] w fun e w' => e = .returned (.int .i64 (orI a b)) ∧ w = w' := by
  have key : ∀ r, orI a b = r → Calls Try.prog 49 #[.slice (some ⟨g, 0, none⟩) 2 2] w fun e w' => e = .returned (.int .i64 r) ∧ w = w' := by
    intro r hr
    unfold orI at hr
    have HR := Lib.hid hr
    clear hr
    go_enter Try.func49, Try.ntmps49
    go_wp2
    go_loop [8] (fun i => i = .int .i64 0 ∨ (i = .int .i64 1 ∧ a = 0) ∨ (i = .int .i64 2 ∧ a = 0 ∧ b = 0)) (fun i => (2 - intOf i).toNat)
    case atStart => exact .inl rfl
    case round =>
      rcases hrel with rfl | ⟨rfl, ha⟩ | ⟨rfl, ha, hb⟩
      · by_cases c : a = 0
        · subst c
          go_wp2
          go_round
          case rel => simp
          case measure => simp [intOf]
        · go_wp2
          go_ret
          have h_ := HR.out
          simp only [c, if_false] at h_
          rw [h_]
          simp
      · subst ha
        by_cases c : b = 0
        · subst c
          go_wp2
          go_round
          case rel => simp
          case measure => simp [intOf]
        · go_wp2
          go_ret
          have h_ := HR.out
          simp only [if_true] at h_
          rw [h_]
          simp
      · subst ha
        subst hb
        go_wp2
        go_ret
        have h_ := HR.out
        simp only [if_true] at h_
        rw [← h_]
        simp
  exact key _ rfl
theorem or_lt (x y : It V) : decide (orI (cmpI x.p y.p) (cmpI x.o y.o) < 0) = ltB x y := by
  unfold orI cmpI ltB le
  apply decide_eq_decide.2
  (repeat' split) <;> omega
end Go.Proofs.YthghilclgobpbaaH.I
