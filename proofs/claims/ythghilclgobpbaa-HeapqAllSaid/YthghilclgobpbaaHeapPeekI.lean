/- What New, Len and Peek do: int. -/
import Derived.Test.YthghilclgobpbaaHeapPushI
namespace Go.Proofs.YthghilclgobpbaaH.I
open Go Go.RowKit Go.Proofs.YthghilclgobpbaaH Go.Proofs.YthghilclgobpbaaR Go.Proofs.YthghilclgobpbaaW.PrintWords Go.Proofs.YthghilclgobpbaaW.PrintLast
set_option linter.unusedVariables false
set_option linter.unusedSimpArgs false
attribute [local go_sem ↓] Go.wp_at_zero Go.wp_at_succ
def NewPost (w : World) (e : Ending) (w' : World) : Prop := ∃ q, e = .returned (.pointer (some ⟨q, 0, none⟩)) ∧ Q w' q w.heap.size [] 0 ∧ Below w.heap.size w w' ∧ w.heap.size ≤ w'.heap.size
set_option maxHeartbeats 4000000 in
theorem new_any (w : World) : Calls Try.prog 9 #[] w (NewPost w) := by
  go_enter Try.func9, Try.ntmps9
  go_wp2
  go_ret
  exact ⟨w.heap.size, rfl, ⟨Nat.le_refl _, .inl ⟨rfl, heap_alloc_new w _⟩⟩, below_alloc (Below.refl _ _) _, by simp⟩
set_option maxHeartbeats 4000000 in
theorem len_any (q base : Nat) (l : List (It V)) (ord : Int) (w : World) (hQ : Q w q base l ord) : Calls Try.prog 11 #[.pointer (some ⟨q, 0, none⟩)] w fun e w' => e = .returned (.int .i64 l.length) ∧ w = w' := by
  obtain ⟨A, c, hq, hown, hne, hbq⟩ := hQ.own
  have hw0 : w.cell? ⟨q, 0, none⟩ = some (.slice A l.length c) := (blk_cell hq 0).trans rfl
  clear hq hown hne hQ
  go_enter Try.func11, Try.ntmps11
  go_wp2
  go_ret
  exact ⟨rfl, rfl⟩
set_option maxHeartbeats 4000000 in
theorem peek_none (q base : Nat) (ord : Int) (w : World) (hQ : Q w q base [] ord) : Calls Try.prog 14 #[.pointer (some ⟨q, 0, none⟩)] w fun e w' => e = .returned (.tuple #[.int .i64 0, ev 0, .bool false]) ∧ w = w' := by
  obtain ⟨A, c, hq, hown, hne, hbq⟩ := hQ.own
  have hw0 : w.cell? ⟨q, 0, none⟩ = some (.slice A 0 c) := (blk_cell hq 0).trans rfl
  clear hq hown hne hQ
  go_enter Try.func14, Try.ntmps14
  go_wp2
  exact bodyPost_ret (results_tmp3 rfl _ _ _) rfl ⟨rfl, rfl⟩
set_option maxHeartbeats 4000000 in
theorem peek_some (q base : Nat) (x : It V) (l : List (It V)) (ord : Int) (w : World) (hQ : Q w q base (x :: l) ord) : Calls Try.prog 14 #[.pointer (some ⟨q, 0, none⟩)] w fun e w' => e = .returned (.tuple #[.int .i64 x.p, ev x.v, .bool true]) ∧ Below w.heap.size w w' := by
  obtain ⟨g, cap, hbg, hq, hrow⟩ := hQ.row (by simp)
  obtain ⟨c0, c1, c2⟩ := hrow.cell 0 (by simp)
  simp only [Nat.zero_mul, List.getElem_cons_zero, Nat.zero_add] at c0 c1 c2
  have hw0 : w.cell? ⟨q, 0, none⟩ = some (.slice (some ⟨g, 0, none⟩) (l.length + 1) cap) := (blk_cell hq 0).trans rfl
  clear hq hrow hQ
  have hz : (0 : Int) < ((l.length + 1 : Nat) : Int) := by omega
  have hnz : (((l.length + 1 : Nat) : Int) == 0) = false := by rw [beq_eq_false_iff_ne]; omega
  go_enter Try.func14, Try.ntmps14
  go_wp2
  go_quiet (fail)
  go_wp2
  exact bodyPost_ret (results_tmp3 rfl _ _ _) rfl ⟨rfl, by repeat (first | exact Below.refl _ _ | apply below_alloc | apply pw_below_drewN | apply below_drew1)⟩
end Go.Proofs.YthghilclgobpbaaH.I
