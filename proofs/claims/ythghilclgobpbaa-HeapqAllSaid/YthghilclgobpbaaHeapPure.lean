/- The plain law of a heap: what Push and Pop make of the items, in plain Lean. -/
import Derived.IntWalk
namespace Go.Proofs.YthghilclgobpbaaH
set_option linter.unusedVariables false
set_option linter.unusedSimpArgs false
/-- A value with its priority, and when it came. -/
structure It (V : Type) where
  p : Int
  o : Int
  v : V
variable {V : Type}
/-- Not behind. -/
def le (a b : It V) : Prop := a.p < b.p ∨ (a.p = b.p ∧ a.o ≤ b.o)
instance (a b : It V) : Decidable (le a b) := by unfold le; infer_instance
theorem le_refl (a : It V) : le a a := .inr ⟨rfl, Int.le_refl _⟩
theorem le_trans {a b c : It V} (h : le a b) (k : le b c) : le a c := by unfold le at *; omega
theorem le_of_not {a b : It V} (h : ¬ le b a) : le a b := by unfold le at *; omega
/-- Strictly ahead. -/
def ltB (a b : It V) : Bool := decide (¬ le b a)
/-- A heap, but for what stands at k and above it. -/
def Up (l : List (It V)) (k : Nat) : Prop :=
  (∀ i (hi : i < l.length) (h0 : 0 < i), i ≠ k → le (l[(i - 1) / 2]'(by omega)) l[i]) ∧
  ∀ i (hi : i < l.length) (h0 : 0 < i) (hp : (i - 1) / 2 = k) (h1 : 0 < k), le (l[(k - 1) / 2]'(by omega)) l[i]
def Heap (l : List (It V)) : Prop := ∀ i (hi : i < l.length) (h0 : 0 < i), le (l[(i - 1) / 2]'(by omega)) l[i]
/-- A heap, but for what stands at k and below it. -/
def Down (l : List (It V)) (k : Nat) : Prop :=
  (∀ i (hi : i < l.length) (h0 : 0 < i), (i - 1) / 2 ≠ k → le (l[(i - 1) / 2]'(by omega)) l[i]) ∧
  ∀ i (hi : i < l.length) (h0 : 0 < i) (hp : (i - 1) / 2 = k) (h1 : 0 < k), le (l[(k - 1) / 2]'(by omega)) l[i]
/-- Two items change places. -/
def swp (l : List (It V)) (i j : Nat) (hi : i < l.length) (hj : j < l.length) : List (It V) := (l.set i l[j]).set j l[i]
theorem swp_length (l : List (It V)) (i j : Nat) (hi : i < l.length) (hj : j < l.length) : (swp l i j hi hj).length = l.length := by unfold swp; simp
theorem swp_get (l : List (It V)) (i j : Nat) (hi : i < l.length) (hj : j < l.length) (q : Nat) (hq : q < (swp l i j hi hj).length) :
    (swp l i j hi hj)[q] = if q = j then l[i] else if q = i then l[j] else l[q]'(by rw [swp_length] at hq; exact hq) := by
  have e : (swp l i j hi hj)[q] = ((l.set i l[j]).set j l[i])[q]'(by simp; rw [swp_length] at hq; exact hq) := rfl
  rw [e, List.getElem_set]
  by_cases h : j = q
  · rw [if_pos h, if_pos h.symm]
  · rw [if_neg h, if_neg (Ne.symm h), List.getElem_set]
    by_cases h' : i = q
    · rw [if_pos h', if_pos h'.symm]
    · rw [if_neg h', if_neg (Ne.symm h')]
theorem swp_perm (l : List (It V)) (i j : Nat) (hi : i < l.length) (hj : j < l.length) : (swp l i j hi hj).Perm l := by
  have h := Array.swap_perm (xs := l.toArray) (i := i) (j := j) (by simpa using hi) (by simpa using hj)
  have h2 := Array.perm_iff_toList_perm.1 h
  rw [List.toList_toArray] at h2
  refine List.Perm.trans (List.Perm.of_eq ?_) h2
  unfold swp
  simp [Array.swap_def]
theorem Up.done0 {l : List (It V)} (h : Up l 0) : Heap l := fun i hi h0 => h.1 i hi h0 (by omega)
theorem Up.done {l : List (It V)} {k : Nat} (h : Up l k) (hk : k < l.length) (h0 : 0 < k) (hb : le (l[(k - 1) / 2]'(by omega)) l[k]) : Heap l := fun i hi h1 => by
  by_cases e : i = k
  · subst e; exact hb
  · exact h.1 i hi h1 e
theorem Up.step {l : List (It V)} {k : Nat} (h : Up l k) (hk : k < l.length) (h0 : 0 < k) (hb : le l[k] (l[(k - 1) / 2]'(by omega))) :
    Up (swp l ((k - 1) / 2) k (by omega) hk) ((k - 1) / 2) := by
  obtain ⟨u, hu⟩ : ∃ u, (k - 1) / 2 = u := ⟨_, rfl⟩
  have hul : u < l.length := by omega
  have hb' : le l[k] l[u] := by simpa only [hu] using hb
  simp only [hu]
  refine ⟨fun i hi h1 hne => ?_, fun i hi h1 hp hu0 => ?_⟩
  · have hi' := hi
    rw [swp_length] at hi'
    obtain ⟨r, hr⟩ : ∃ r, (i - 1) / 2 = r := ⟨_, rfl⟩
    have hrl : r < l.length := by omega
    have base : i ≠ k → le l[r] l[i] := fun hk' => by have := h.1 i hi' h1 hk'; simpa only [hr] using this
    have kid : r = k → le l[u] l[i] := fun hk' => by have := h.2 i hi' h1 (hr.trans hk') h0; simpa only [hu] using this
    simp only [hr]
    rw [swp_get, swp_get]
    by_cases e1 : i = k
    · rw [if_pos e1]
      have : r = u := by omega
      rw [if_neg (by omega), if_pos this]
      exact hb'
    · rw [if_neg e1, if_neg hne]
      by_cases e2 : r = k
      · rw [if_pos e2]
        exact kid e2
      · rw [if_neg e2]
        by_cases e3 : r = u
        · rw [if_pos e3]
          refine le_trans hb' ?_
          have := base e1
          simpa only [e3] using this
        · rw [if_neg e3]; exact base e1
  · have hi' := hi
    rw [swp_length] at hi'
    obtain ⟨r, hr⟩ : ∃ r, (u - 1) / 2 = r := ⟨_, rfl⟩
    have hrl : r < l.length := by omega
    have base : le l[r] l[u] := by have := h.1 u hul hu0 (by omega); simpa only [hr] using this
    simp only [hr]
    rw [swp_get, swp_get, if_neg (by omega), if_neg (by omega)]
    by_cases e1 : i = k
    · rw [if_pos e1]; exact base
    · rw [if_neg e1, if_neg (by omega)]
      have := h.1 i hi' h1 e1
      simp only [hp] at this
      exact le_trans base this
/-- A heap with one item more at its end. -/
theorem Up.push {l : List (It V)} (h : Heap l) (x : It V) : Up (l ++ [x]) l.length := by
  refine ⟨fun i hi h0 hne => ?_, fun i hi h0 hp h1 => ?_⟩
  · rw [List.length_append] at hi
    simp only [List.length_cons, List.length_nil] at hi
    rw [List.getElem_append_left (show i < l.length by omega), List.getElem_append_left (show (i - 1) / 2 < l.length by omega)]
    exact h i (by omega) h0
  · rw [List.length_append] at hi
    simp only [List.length_cons, List.length_nil] at hi
    omega
theorem heap_nil : Heap ([] : List (It V)) := fun i hi => by simp at hi
/-- The first item is not behind any other one. -/
theorem Heap.least {l : List (It V)} (h : Heap l) (h0 : 0 < l.length) : ∀ x ∈ l, le l[0] x := by
  have key : ∀ n i (hi : i < l.length), i ≤ n → le l[0] l[i] := by
    intro n
    induction n with
    | zero => intro i hi hn; obtain rfl : i = 0 := by omega
              exact le_refl _
    | succ n ih =>
      intro i hi hn
      by_cases e : i = 0
      · subst e; exact le_refl _
      · exact le_trans (ih ((i - 1) / 2) (by omega) (by omega)) (h i hi (by omega))
  intro x hx
  obtain ⟨i, hi, rfl⟩ := List.getElem_of_mem hx
  exact key i i hi (Nat.le_refl _)
/-- What is left of a heap when its first item is gone: the last one in its place. -/
def cutl (l : List (It V)) (h0 : 0 < l.length) : List (It V) := (l.set 0 (l[l.length - 1]'(by omega))).take (l.length - 1)
theorem cutl_length (l : List (It V)) (h0 : 0 < l.length) : (cutl l h0).length = l.length - 1 := by unfold cutl; simp
theorem cutl_perm (l : List (It V)) (h0 : 0 < l.length) : l.Perm (l[0] :: cutl l h0) := by
  unfold cutl
  obtain ⟨x, t, rfl⟩ : ∃ x t, l = x :: t := by
    cases l with
    | nil => simp at h0
    | cons x t => exact ⟨x, t, rfl⟩
  rw [List.set_cons_zero]
  simp only [List.length_cons, Nat.add_sub_cancel, List.getElem_cons_zero]
  refine List.Perm.cons x ?_
  rcases List.eq_nil_or_concat t with rfl | ⟨s, y, rfl⟩
  · simp
  · have e : (x :: (s.concat y))[(s.concat y).length]'(by simp) = y := by
      simp [List.concat_eq_append, List.getElem_append]
    rw [e]
    simp only [List.concat_eq_append, List.length_append, List.length_cons, List.length_nil, List.take_succ_cons]
    simp only [Nat.zero_add, List.take_succ_cons, List.take_left']
    exact List.perm_append_comm
theorem Down.start {l : List (It V)} (h : Heap l) (h0 : 0 < l.length) : Down (cutl l h0) 0 := by
  have hlen := cutl_length l h0
  refine ⟨fun i hi h1 hne => ?_, fun i hi h1 hp h2 => absurd h2 (by omega)⟩
  have g : ∀ q (hq : q < (cutl l h0).length) (_ : 0 < q), (cutl l h0)[q] = l[q]'(by omega) := fun q hq h => by
    have e : (cutl l h0)[q] = ((l.set 0 (l[l.length - 1]'(by omega))).take (l.length - 1))[q]'(by simp; omega) := rfl
    rw [e, List.getElem_take, List.getElem_set, if_neg (by omega)]
  rw [g i hi h1, g _ (by omega) (by omega)]
  exact h i (by omega) h1
theorem Down.done {l : List (It V)} {k : Nat} (h : Down l k) (h1 : ∀ i (hi : i < l.length) (h0 : 0 < i), (i - 1) / 2 = k → ∀ hk' : k < l.length, le l[k] l[i]) : Heap l := fun i hi h0 => by
  by_cases e : (i - 1) / 2 = k
  · have := h1 i hi h0 e (by omega); simp only [e]; exact this
  · exact h.1 i hi h0 e
theorem Down.step {l : List (It V)} {k b : Nat} (h : Down l k) (hk : k < l.length) (hb : b < l.length) (hb0 : 0 < b) (hp : (b - 1) / 2 = k)
    (hlt : le l[b] l[k]) (hmin : ∀ i (hi : i < l.length) (h0 : 0 < i), (i - 1) / 2 = k → le l[b] l[i]) : Down (swp l b k hb hk) b := by
  refine ⟨fun i hi h1 hne => ?_, fun i hi h1 hp' h2 => ?_⟩
  · have hi' := hi
    rw [swp_length] at hi'
    obtain ⟨r, hr⟩ : ∃ r, (i - 1) / 2 = r := ⟨_, rfl⟩
    have hrl : r < l.length := by omega
    simp only [hr] at hne ⊢
    rw [swp_get, swp_get]
    by_cases e1 : r = k
    · rw [if_pos e1, if_neg (show ¬ i = k by omega)]
      by_cases e2 : i = b
      · rw [if_pos e2]; exact hlt
      · rw [if_neg e2]; exact hmin i hi' h1 (hr.trans e1)
    · rw [if_neg e1, if_neg hne]
      by_cases e2 : i = k
      · rw [if_pos e2]
        have := h.2 b hb hb0 hp (by omega)
        have hr2 : (k - 1) / 2 = r := by rw [← e2]; exact hr
        simp only [hr2] at this
        exact this
      · rw [if_neg e2]
        by_cases e3 : i = b
        · omega
        · rw [if_neg e3]
          have := h.1 i hi' h1 (by omega)
          simp only [hr] at this
          exact this
  · have hi' := hi
    rw [swp_length] at hi'
    simp only [hp]
    rw [swp_get, swp_get, if_pos rfl, if_neg (by omega), if_neg (by omega)]
    have := h.1 i hi' h1 (by omega)
    simp only [hp'] at this
    exact this
theorem down_lt {l : List (It V)} {i k : Nat} (h : (i - 1) / 2 = k) (h0 : 0 < i) : i = 2 * k + 1 ∨ i = 2 * k + 2 := by omega
end Go.Proofs.YthghilclgobpbaaH
