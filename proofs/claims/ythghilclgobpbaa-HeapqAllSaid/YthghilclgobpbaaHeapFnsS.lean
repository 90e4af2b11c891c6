/- What the heap's functions do: string. -/
import Derived.Test.YthghilclgobpbaaHeapCmpS
namespace Go.Proofs.YthghilclgobpbaaH.S
open Go Go.RowKit Go.Proofs.YthghilclgobpbaaH Go.Proofs.YthghilclgobpbaaW.PrintWords Go.Proofs.YthghilclgobpbaaW.PrintLast
set_option linter.unusedVariables false
set_option linter.unusedSimpArgs false
attribute [local go_sem ↓] Go.wp_at_zero Go.wp_at_succ
/-- What a comparison leaves. -/
def CmpPost (b : Bool) (w : World) (e : Ending) (w' : World) : Prop := ∃ r, e = .returned (.int .i64 r) ∧ decide (r < 0) = b ∧ Below w.heap.size w w'
set_option maxHeartbeats 4000000 in
set_option maxRecDepth 100000 in
theorem compare_any (x y : It V) (w : World) : Calls Try.prog 51 #[.agg #[.int .i64 x.p, .int .i64 x.o, ev x.v], .agg #[.int .i64 y.p, .int .i64 y.o, ev y.v]] w (CmpPost (ltB x y) w) := by
  have HL := Lib.hid (or_lt x y)
  generalize ltB x y = b at HL
  obtain ⟨p1, o1, v1⟩ := x
  obtain ⟨p2, o2, v2⟩ := y
  dsimp only at HL ⊢
  go_enter Try.func51, Try.ntmps51
  go_wp2
  go_region_held3 (fun w' => w'.cell? ⟨w.heap.size, 0, none⟩ = some (.int .i64 p1) ∧ w'.cell? ⟨w.heap.size, 1, none⟩ = some (.int .i64 o1) ∧ w'.cell? ⟨w.heap.size + 1, 0, none⟩ = some (.int .i64 p2) ∧ w'.cell? ⟨w.heap.size + 1, 1, none⟩ = some (.int .i64 o2)) (go_keep)
    (first | (go_at_call 50; refine (Compare_any _ _ _).mono ?_; rintro e w' ⟨rfl, rfl⟩) | (go_at_call 49; refine (Or_any (w.heap.size + 2) (cmpI p1 p2) (cmpI o1 o2) _ (by simp [go_sem]) (by simp [go_sem])).mono ?_; rintro e w' ⟨rfl, rfl⟩))
  all_goals
    go_wp2
    go_ret
    exact ⟨_, rfl, HL.out, by repeat (first | exact Below.refl _ _ | apply below_alloc | apply pw_below_drewN | apply below_drew1)⟩
end Go.Proofs.YthghilclgobpbaaH.S
