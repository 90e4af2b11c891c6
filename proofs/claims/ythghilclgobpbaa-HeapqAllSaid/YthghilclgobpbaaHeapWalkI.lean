/- What the heap's functions do at values of one cell: int. -/
import Derived.Test.YthghilclgobpbaaHeapPure
import Derived.Test.YthghilclgobpbaaWWords
import Derived.Test.YthghilclgobpbaaWLast
import Derived.Deep.RegionHeld3
import Derived.Deep.AppendLies
import Derived.Deep.DrawnRows
import Derived.Deep.DeepCutAuto
import Derived.Deep.LoopGhost
import Derived.BigRegion
import Derived.IntWalk
namespace Go.Proofs.YthghilclgobpbaaH.I
open Go Go.RowKit Go.Proofs.YthghilclgobpbaaH Go.Proofs.YthghilclgobpbaaW.PrintWords Go.Proofs.YthghilclgobpbaaW.PrintLast
set_option linter.unusedVariables false
set_option linter.unusedSimpArgs false
abbrev V : Type := Int
abbrev ev (v : V) : Value := .int .i64 v
theorem ev_one (v : V) : (ev v).oneCell' = true := rfl
def cells (x : It V) : List Value := [.int .i64 x.p, .int .i64 x.o, ev x.v]
def flat (l : List (It V)) : List Value := l.flatMap cells
theorem flat_length (l : List (It V)) : (flat l).length = l.length * 3 := by
  unfold flat
  induction l with
  | nil => rfl
  | cons x l ih => rw [List.flatMap_cons, List.length_append, ih]; simp [cells]; omega
theorem flat_append (l m : List (It V)) : flat (l ++ m) = flat l ++ flat m := by unfold flat; exact List.flatMap_append
theorem flat_get (l : List (It V)) : ∀ i (h : i < l.length), (flat l)[i * 3]? = some (.int .i64 l[i].p) ∧ (flat l)[i * 3 + 1]? = some (.int .i64 l[i].o) ∧ (flat l)[i * 3 + 2]? = some (ev l[i].v) := by
  unfold flat
  induction l with
  | nil => intro i h; simp at h
  | cons y l ih =>
    intro i h
    rw [List.flatMap_cons]
    cases i with
    | zero => exact ⟨rfl, rfl, rfl⟩
    | succ i =>
      obtain ⟨h1, h2, h3⟩ := ih i (by simpa using h)
      have e : (cells y).length = 3 := rfl
      refine ⟨?_, ?_, ?_⟩
      · rw [List.getElem?_append_right (by omega), e, show (i + 1) * 3 - 3 = i * 3 by omega]; exact h1
      · rw [List.getElem?_append_right (by omega), e, show (i + 1) * 3 + 1 - 3 = i * 3 + 1 by omega]; exact h2
      · rw [List.getElem?_append_right (by omega), e, show (i + 1) * 3 + 2 - 3 = i * 3 + 2 by omega]; exact h3
/-- The row of a queue: a block whose first cells are the items'. -/
def Row (w : World) (g cap : Nat) (l : List (It V)) : Prop :=
  ∃ cur, w.heap[g]? = some (.cells cur 75 (0, 0)) ∧ l.length ≤ cap ∧ cap ≤ maxLen ∧ cur.size = cap * 3 ∧ ∀ i (h : i < l.length), cur[i * 3]? = some (.int .i64 l[i].p) ∧ cur[i * 3 + 1]? = some (.int .i64 l[i].o) ∧ cur[i * 3 + 2]? = some (ev l[i].v)
theorem Row.own {w : World} {g cap base : Nat} {l : List (It V)} (h : Row w g cap l) (hb : base ≤ g) : w.ownsRow base 75 3 (.slice (some ⟨g, 0, none⟩) l.length cap) l.length (flat l) := by
  obtain ⟨cur, h1, h2, h3, h4, h5⟩ := h
  refine ⟨flat_length l, .inr ⟨g, cap, cur, rfl, hb, h1, h2, h3, h4, ?_⟩⟩
  apply List.ext_getElem?
  intro t
  by_cases ht : t < l.length * 3
  · rw [List.getElem?_take_of_lt ht, Array.getElem?_toList]
    obtain ⟨i, r, hi, hr, rfl⟩ : ∃ i r, i < l.length ∧ r < 3 ∧ t = i * 3 + r := ⟨t / 3, t % 3, by omega, by omega, by omega⟩
    obtain ⟨a1, a2, a3⟩ := h5 i hi
    obtain ⟨b1, b2, b3⟩ := flat_get l i hi
    rcases r with _ | _ | _ | r
    · exact a1.trans b1.symm
    · exact a2.trans b2.symm
    · exact a3.trans b3.symm
    · omega
  · rw [List.getElem?_eq_none (by simp; omega), List.getElem?_eq_none (by rw [flat_length]; omega)]
theorem Row.of_own {w : World} {g cap base n : Nat} {l : List (It V)} (h : w.ownsRow base 75 3 (.slice (some ⟨g, 0, none⟩) n cap) l.length (flat l)) (h0 : 0 < l.length) : Row w g cap l := by
  obtain ⟨_, h | ⟨g', cap', cur, hv, _, h1, h2, h3, h4, h5⟩⟩ := h
  · omega
  · have e := hv
    simp only [Value.slice.injEq, Option.some.injEq, Addr.mk.injEq] at e
    obtain ⟨⟨rfl, _⟩, _, rfl⟩ := e
    have key : ∀ t, t < l.length * 3 → cur[t]? = (flat l)[t]? := fun t ht => by rw [← h5, List.getElem?_take_of_lt ht, Array.getElem?_toList]
    refine ⟨cur, h1, h2, h3, h4, fun i hi => ?_⟩
    obtain ⟨b1, b2, b3⟩ := flat_get l i hi
    exact ⟨(key _ (by omega)).trans b1, (key _ (by omega)).trans b2, (key _ (by omega)).trans b3⟩
theorem Row.cell {w : World} {g cap : Nat} {l : List (It V)} (h : Row w g cap l) (i : Nat) (hi : i < l.length) :
    w.cell? ⟨g, i * 3, none⟩ = some (.int .i64 l[i].p) ∧ w.cell? ⟨g, i * 3 + 1, none⟩ = some (.int .i64 l[i].o) ∧ w.cell? ⟨g, i * 3 + 2, none⟩ = some (ev l[i].v) := by
  obtain ⟨cur, h1, _, _, _, h5⟩ := h
  obtain ⟨a1, a2, a3⟩ := h5 i hi
  rw [cell_of_row w g _ cur _ _ h1, cell_of_row w g _ cur _ _ h1, cell_of_row w g _ cur _ _ h1]
  exact ⟨a1, a2, a3⟩
theorem Row.below {w w' : World} {g cap : Nat} {l : List (It V)} (h : Row w g cap l) (hb : Below w.heap.size w w') : Row w' g cap l := by
  obtain ⟨cur, h1, h2⟩ := h
  exact ⟨cur, (hb.block g (blk_lt h1)).trans h1, h2⟩
theorem Row.heap {w w' : World} {g cap : Nat} {l : List (It V)} (h : Row w g cap l) (hb : w'.heap[g]? = w.heap[g]?) : Row w' g cap l := by
  obtain ⟨cur, h1, h2⟩ := h
  exact ⟨cur, hb.trans h1, h2⟩
/-- An item is stored. -/
theorem Row.put {w : World} {g cap : Nat} {l : List (It V)} (h : Row w g cap l) (i : Nat) (hi : i < l.length) (x : It V) :
    Row (((w.setCell ⟨g, i * 3, none⟩ (.int .i64 x.p)).setCell ⟨g, i * 3 + 1, none⟩ (.int .i64 x.o)).setCell ⟨g, i * 3 + 2, none⟩ (ev x.v)) g cap (l.set i x) := by
  obtain ⟨cur, h1, h2, h3, h4, h5⟩ := h
  refine ⟨_, blk_set (blk_set (blk_set h1 _ _) _ _) _ _, by simpa using h2, h3, by simpa using h4, fun j hj => ?_⟩
  rw [List.length_set] at hj
  obtain ⟨a1, a2, a3⟩ := h5 j hj
  have hs : i * 3 + 2 < cur.size := by rw [h4]; omega
  have g3 : ∀ t, (((cur.setIfInBounds (i * 3) (.int .i64 x.p)).setIfInBounds (i * 3 + 1) (.int .i64 x.o)).setIfInBounds (i * 3 + 2) (ev x.v))[t]? = if t = i * 3 + 2 then some (ev x.v) else if t = i * 3 + 1 then some (.int .i64 x.o) else if t = i * 3 then some (.int .i64 x.p) else cur[t]? := fun t => by
    rw [Array.getElem?_setIfInBounds, Array.getElem?_setIfInBounds, Array.getElem?_setIfInBounds]
    simp only [Array.size_setIfInBounds]
    by_cases e2 : i * 3 + 2 = t
    · rw [if_pos e2, if_pos (by omega), if_pos e2.symm]
    · rw [if_neg e2, if_neg (Ne.symm e2)]
      by_cases e1 : i * 3 + 1 = t
      · rw [if_pos e1, if_pos (by omega), if_pos e1.symm]
      · rw [if_neg e1, if_neg (Ne.symm e1)]
        by_cases e0 : i * 3 = t
        · rw [if_pos e0, if_pos (by omega), if_pos e0.symm]
        · rw [if_neg e0, if_neg (Ne.symm e0)]
  rw [g3, g3, g3]
  by_cases e : i = j
  · subst e
    rw [List.getElem_set_self, if_neg (by omega), if_neg (by omega), if_pos rfl, if_neg (by omega), if_pos rfl, if_pos rfl]
    exact ⟨rfl, rfl, rfl⟩
  · rw [List.getElem_set_ne e, if_neg (by omega), if_neg (by omega), if_neg (by omega), if_neg (by omega), if_neg (by omega), if_neg (by omega), if_neg (by omega), if_neg (by omega), if_neg (by omega)]
    exact ⟨a1, a2, a3⟩
end Go.Proofs.YthghilclgobpbaaH.I
