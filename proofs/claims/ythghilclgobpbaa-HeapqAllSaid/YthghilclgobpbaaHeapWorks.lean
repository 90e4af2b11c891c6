/- The fixed example of chapter 9. -/
import Derived.Test.YthghilclgobpbaaHeapPopS
namespace Go.Proofs.YthghilclgobpbaaH.S
open Go Go.RowKit Go.Proofs.YthghilclgobpbaaH Go.Proofs.YthghilclgobpbaaR Go.Proofs.YthghilclgobpbaaW.PrintWords Go.Proofs.YthghilclgobpbaaW.PrintLast
set_option linter.unusedVariables false
set_option linter.unusedSimpArgs false
attribute [local go_sem ↓] Go.wp_at_zero Go.wp_at_succ
/-- Of three items the least comes first. -/
theorem first_of {l : List (It V)} (hh : Heap l) (a b c : It V) (hp : l.Perm [a, b, c]) (hab : ¬ le a b) (hcb : ¬ le c b) : ∃ t, l = b :: t ∧ t.length = 2 := by
  have hlen := hp.length_eq
  cases l with
  | nil => simp at hlen
  | cons y t =>
    have hb : b ∈ y :: t := hp.mem_iff.2 (by simp)
    have hy : y ∈ [a, b, c] := hp.mem_iff.1 (by simp)
    have h0 := hh.least (by simp) b hb
    simp only [List.getElem_cons_zero] at h0
    simp only [List.mem_cons, List.not_mem_nil, or_false] at hy
    rcases hy with rfl | rfl | rfl
    · exact absurd h0 hab
    · exact ⟨t, rfl, by simpa using hlen⟩
    · exact absurd h0 hcb
def WorksPost (w : World) (e : Ending) (w' : World) : Prop := e = .returned (.bool true) ∧ Below w.heap.size w w'
set_option maxHeartbeats 8000000 in
set_option maxRecDepth 100000 in
theorem works_any (w : World) : Calls Try.prog 8 #[] w (WorksPost w) := by
  go_enter Try.func8, Try.ntmps8
  go_wp2_with fail
  go_at_call 24
  refine (new_any w).mono ?_
  rintro e w1 ⟨q, rfl, hQ1, hb1, hs1⟩
  go_wp2_with fail
  go_at_call 25
  refine (push_any q w.heap.size [] 2 0 ⟨#[97]⟩ w1 hQ1 heap_nil (by simp) (by omega) (by omega) hs1).mono ?_
  rintro e w2 ⟨rfl, l2, hQ2, hh2, hp2, hb2⟩
  have hl2 : l2.length = 1 := hp2.length_eq
  go_wp2_with fail
  go_at_call 25
  refine (push_any q w.heap.size l2 1 1 ⟨#[98]⟩ w2 hQ2 hh2 (by omega) (by omega) (by omega) (by have := hb2.size; omega)).mono ?_
  rintro e w3 ⟨rfl, l3, hQ3, hh3, hp3, hb3⟩
  have hl3 : l3.length = 2 := by rw [hp3.length_eq]; simp; omega
  go_wp2_with fail
  go_at_call 25
  refine (push_any q w.heap.size l3 1 2 ⟨#[99]⟩ w3 hQ3 hh3 (by omega) (by omega) (by omega) (by have := hb2.size; have := hb3.size; omega)).mono ?_
  rintro e w4 ⟨rfl, l4, hQ4, hh4, hp4, hb4⟩
  have hpp : l4.Perm [(⟨2, 0, ⟨#[97]⟩⟩ : It V), ⟨1, 1, ⟨#[98]⟩⟩, ⟨1, 2, ⟨#[99]⟩⟩] := by
    have h2 := hp2
    have h3 := hp3.trans (h2.cons _)
    have h4 := hp4.trans (h3.cons _)
    refine h4.trans ?_
    exact (List.Perm.swap _ _ _).trans ((List.Perm.cons _ (List.Perm.swap _ _ _)).trans (List.Perm.swap _ _ _)) |>.trans (List.Perm.refl _)
  obtain ⟨t, rfl, ht⟩ := first_of hh4 _ _ _ hpp (by decide) (by decide)
  have HB4 : Aside0 (Below w.heap.size w w4) := ⟨(((hb1.trans hb2).trans hb3).trans hb4)⟩
  have HQ4 := Aside0.mk hQ4
  have HH4 := Aside0.mk hh4
  clear hQ1 hb1 hs1 hQ2 hh2 hp2 hb2 hl2 hQ3 hh3 hp3 hb3 hl3 hQ4 hh4 hp4 hb4 hpp
  go_wp2_with fail
  go_at_call 26
  refine (pop_some q w.heap.size ⟨1, 1, ⟨#[98]⟩⟩ t _ w4 HQ4.out HH4.out (by omega)).mono ?_
  rintro e w5 ⟨rfl, l5, hQ5, hh5, hp5, hb5⟩
  have hl5 : l5.length = 2 := by have := hp5.length_eq; simp at this; omega
  have HB5 : Aside0 (Below w.heap.size w w5) := ⟨HB4.out.trans hb5⟩
  have HQ5 := Aside0.mk hQ5
  clear HQ4 HH4 hQ5 hh5 hp5 hb5 ht HB4
  go_wp2_with (go_at_call 27; refine (len_any q w.heap.size l5 _ _ HQ5.out).mono ?_; rintro e w' ⟨rfl, rfl⟩; rw [hl5])
  go_ret
  exact ⟨by simp, HB5.out⟩
end Go.Proofs.YthghilclgobpbaaH.S
