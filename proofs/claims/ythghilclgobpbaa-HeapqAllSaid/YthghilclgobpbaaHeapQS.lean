/- A queue in memory: string. -/
import Derived.Test.YthghilclgobpbaaHeapFnsS
namespace Go.Proofs.YthghilclgobpbaaH.S
open Go Go.RowKit Go.Proofs.YthghilclgobpbaaH Go.Proofs.YthghilclgobpbaaW.PrintWords Go.Proofs.YthghilclgobpbaaW.PrintLast
set_option linter.unusedVariables false
set_option linter.unusedSimpArgs false
/-- A queue that holds items: its slice and how many came. -/
def Q (w : World) (q base : Nat) (l : List (It V)) (ord : Int) : Prop :=
  base ≤ q ∧ ((l = [] ∧ w.heap[q]? = some (.cells #[.slice none 0 0, .int .i64 ord] 107 (0, 0))) ∨
    ∃ g cap, base ≤ g ∧ w.heap[q]? = some (.cells #[.slice (some ⟨g, 0, none⟩) l.length cap, .int .i64 ord] 107 (0, 0)) ∧ Row w g cap l)
theorem Row.ne {w : World} {g cap q : Nat} {l : List (It V)} (h : Row w g cap l) {cs : Array Value} (hq : w.heap[q]? = some (.cells cs 107 (0, 0))) : g ≠ q := by
  rintro rfl
  obtain ⟨cur, h1, _⟩ := h
  rw [h1] at hq
  simp at hq
theorem Row.froz {w : World} {g cap : Nat} {l : List (It V)} (h : Row w g cap l) : ∀ i, w.frozen? ⟨g, i, none⟩ = false := by
  obtain ⟨cur, h1, _⟩ := h
  exact fun i => blk_frozen h1 i
theorem Row.lt {w : World} {g cap : Nat} {l : List (It V)} (h : Row w g cap l) : g < w.heap.size := by
  obtain ⟨cur, h1, _⟩ := h
  exact blk_lt h1
theorem Q.below {w w' : World} {q base : Nat} {l : List (It V)} {ord : Int} (h : Q w q base l ord) (hb : Below w.heap.size w w') : Q w' q base l ord := by
  obtain ⟨h0, h | ⟨g, cap, h1, h2, h3⟩⟩ := h
  · exact ⟨h0, .inl ⟨h.1, blk_below h.2 hb⟩⟩
  · exact ⟨h0, .inr ⟨g, cap, h1, blk_below h2 hb, h3.below hb⟩⟩
/-- What stands in a queue's block. -/
theorem Q.own {w : World} {q base : Nat} {l : List (It V)} {ord : Int} (h : Q w q base l ord) :
    ∃ A c, w.heap[q]? = some (.cells #[.slice A l.length c, .int .i64 ord] 107 (0, 0)) ∧ w.ownsRow base 109 3 (.slice A l.length c) l.length (flat l) ∧ (Value.slice A l.length c).ownBlock ≠ some q ∧ base ≤ q := by
  obtain ⟨h0, ⟨rfl, h⟩ | ⟨g, cap, h1, h2, h3⟩⟩ := h
  · exact ⟨none, 0, h, World.ownsRow_nil _ _ _ _, by simp [Value.ownBlock], h0⟩
  · exact ⟨_, _, h2, h3.own h1, by simpa [Value.ownBlock] using h3.ne h2, h0⟩
theorem Q.row {w : World} {q base : Nat} {l : List (It V)} {ord : Int} (h : Q w q base l ord) (hl : 0 < l.length) :
    ∃ g cap, base ≤ g ∧ w.heap[q]? = some (.cells #[.slice (some ⟨g, 0, none⟩) l.length cap, .int .i64 ord] 107 (0, 0)) ∧ Row w g cap l := by
  obtain ⟨h0, ⟨rfl, h⟩ | h⟩ := h
  · simp at hl
  · exact h
theorem Q.lt {w : World} {q base : Nat} {l : List (It V)} {ord : Int} (h : Q w q base l ord) : q < w.heap.size := by
  obtain ⟨A, c, h1, _⟩ := h.own
  exact blk_lt h1
/-- Two items of the row change places: six stores. -/
theorem Row.swap {w : World} {g cap : Nat} {l : List (It V)} (h : Row w g cap l) (i j : Nat) (hi : i < l.length) (hj : j < l.length) :
    Row ((((((w.setCell ⟨g, i * 3, none⟩ (.int .i64 l[j].p)).setCell ⟨g, i * 3 + 1, none⟩ (.int .i64 l[j].o)).setCell ⟨g, i * 3 + 2, none⟩ (ev l[j].v)).setCell ⟨g, j * 3, none⟩ (.int .i64 l[i].p)).setCell ⟨g, j * 3 + 1, none⟩ (.int .i64 l[i].o)).setCell ⟨g, j * 3 + 2, none⟩ (ev l[i].v)) g cap (swp l i j hi hj) :=
  (h.put i hi l[j]).put j (by simpa using hj) l[i]
theorem Q.swap {w : World} {q base g cap : Nat} {l : List (It V)} {ord : Int} (hb : base ≤ q) (hg : base ≤ g) (hq : w.heap[q]? = some (.cells #[.slice (some ⟨g, 0, none⟩) l.length cap, .int .i64 ord] 107 (0, 0))) (h : Row w g cap l) (i j : Nat) (hi : i < l.length) (hj : j < l.length) :
    Q ((((((w.setCell ⟨g, i * 3, none⟩ (.int .i64 l[j].p)).setCell ⟨g, i * 3 + 1, none⟩ (.int .i64 l[j].o)).setCell ⟨g, i * 3 + 2, none⟩ (ev l[j].v)).setCell ⟨g, j * 3, none⟩ (.int .i64 l[i].p)).setCell ⟨g, j * 3 + 1, none⟩ (.int .i64 l[i].o)).setCell ⟨g, j * 3 + 2, none⟩ (ev l[i].v)) q base (swp l i j hi hj) ord := by
  have ne := h.ne hq
  refine ⟨hb, .inr ⟨g, cap, hg, ?_, h.swap i j hi hj⟩⟩
  rw [swp_length]
  exact blk_far (blk_far (blk_far (blk_far (blk_far (blk_far hq (Ne.symm ne) _) (Ne.symm ne) _) (Ne.symm ne) _) (Ne.symm ne) _) (Ne.symm ne) _) (Ne.symm ne) _
end Go.Proofs.YthghilclgobpbaaH.S
