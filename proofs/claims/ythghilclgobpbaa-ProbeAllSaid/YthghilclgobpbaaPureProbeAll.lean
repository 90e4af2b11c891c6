/- ProbeAll: for all tubes and separations, the clashes of all tubes are those of all pairs, in order. -/
import Derived.Test.YthghilclgobpbaaPProbeAllx
import Derived.Test.YthghilclgobpbaaTMath
namespace Go.Proofs.Ythghilclgobpbaa.Pure
open Go Go.RowKit Go.Proofs.Ythghilclgobpbaa.PProbeAll Go.Proofs.YthghilclgobpbaaW.PrintWords Go.Proofs.YthghilclgobpbaaW.PrintLast Go.Proofs.YthghilclgobpbaaM
/-- A permitted coordinate. -/
def Ok (x y : Int) : Prop := -1000000 ≤ x ∧ x ≤ 1000000 ∧ -1000000 ≤ y ∧ y ≤ 1000000
instance (x y : Int) : Decidable (Ok x y) := inferInstanceAs (Decidable (_ ∧ _))
open RootF
/-- The distance, rounded up. -/
def up (s : Int) : Int := if rootI s * rootI s < s then rootI s + 1 else rootI s
def S (x y : Int) : Int := x * x + y * y
theorem S_nonneg (x y : Int) : 0 ≤ S x y := by have := sq_nonneg x; have := sq_nonneg y; unfold S; omega
theorem square {ax ay bx b_y : Int} (h1 : -2000000000 ≤ ax - bx) (h2 : ax - bx ≤ 2000000000) (h3 : -2000000000 ≤ ay - b_y) (h4 : ay - b_y ≤ 2000000000) :
    plane_Square.f ax ay bx b_y = some (S (ax - bx) (ay - b_y)) ∧ S (ax - bx) (ay - b_y) ≤ 8000000000000000000 := by
  have q1 := sq_bd h1 h2
  have q2 := sq_bd h3 h4
  have p1 := sq_nonneg (ax - bx)
  have p2 := sq_nonneg (ay - b_y)
  refine ⟨?_, by unfold S; omega⟩
  unfold plane_Square.f plane_Sub.f plane_Dot.f S
  rw [w64 (by omega) (by omega), w64 (by omega) (by omega)]
  simp only [Option.bind_some]
  rw [w64 (x := (ax - bx) * (ax - bx)) (by omega) (by omega), w64 (x := (ay - b_y) * (ay - b_y)) (by omega) (by omega), w64 (by omega) (by omega)]
theorem root_f {s : Int} (h : s ≤ 9223372036854775807) : num_Root.f s = some (rootI s) := by unfold num_Root.f; rw [if_pos h]
theorem root_lt {s : Int} (h0 : 0 ≤ s) (h : s ≤ 8000000000000000000) : rootI s ≤ 3000000000 := by
  obtain ⟨h1, _⟩ := rootI_spec h0
  exact sq_le (by decide) (by omega)
theorem distance {ax ay bx b_y : Int} (h1 : -2000000000 ≤ ax - bx) (h2 : ax - bx ≤ 2000000000) (h3 : -2000000000 ≤ ay - b_y) (h4 : ay - b_y ≤ 2000000000) :
    plane_Distance.f ax ay bx b_y = some (rootI (S (ax - bx) (ay - b_y)), up (S (ax - bx) (ay - b_y))) := by
  obtain ⟨e, hb⟩ := square h1 h2 h3 h4
  have h0 := S_nonneg (ax - bx) (ay - b_y)
  unfold plane_Distance.f
  rw [e]
  generalize S (ax - bx) (ay - b_y) = s at *
  have r0 := rootI_nonneg s
  have r1 := root_lt h0 hb
  have r2 := (rootI_spec h0).1
  have r3 := sq_nonneg (rootI s)
  rw [Option.bind_some, root_f (by omega), Option.bind_some, w64 (by omega) (by omega)]
  unfold up
  split
  · rw [w64 (by omega) (by omega)]
  · rfl
theorem down (k : Nat) (a b : Int) (a1 : -9223372036854775808 ≤ a) (a2 : a ≤ 9223372036854775807) (hb : b ≠ 0) (hno : ¬ (a = -9223372036854775808 ∧ b = -1)) : num_DivDown.f (k + 1) a b = some (Int.fdiv a b, 0) := by
  obtain ⟨r1, r2⟩ := fdiv_range a1 a2 hb hno
  have hf := tdiv_floor a b hb
  have main : num_DivDown.j0 (k + 1) a b false = some (Int.fdiv a b, 0) := by
    rw [num_DivDown.j0, if_neg (by decide), if_neg hb]
    by_cases h0 : Int.tmod a b = 0
    · rw [if_pos h0] at hf ⊢
      rw [hf, w64 r1 r2]
    · rw [if_neg h0] at hf ⊢
      by_cases hs : ((decide (a < 0)) != (decide (b < 0))) = true
      · rw [if_pos hs] at hf ⊢
        have ht : -9223372036854775808 ≤ Int.tdiv a b ∧ Int.tdiv a b ≤ 9223372036854775807 := by
          refine ⟨by omega, ?_⟩
          have h1 := Int.tdiv_nonpos_of_nonneg_of_nonpos (a := a) (b := b)
          by_cases ha : a < 0
          · have hb' : 0 < b := by
              simp [ha] at hs
              omega
            have h2 : Int.tdiv a b ≤ 0 := by
              have := Int.tdiv_nonneg (a := -a) (b := b) (by omega) (by omega)
              rw [Int.neg_tdiv] at this
              omega
            omega
          · have hb' : b < 0 := by
              simp [ha] at hs
              exact hs
            have := h1 (by omega) (by omega)
            omega
        rw [w64 ht.1 ht.2, hf, w64 r1 r2]
      · rw [if_neg hs] at hf ⊢
        rw [hf, w64 r1 r2]
  rw [num_DivDown.f, if_neg hb]
  by_cases ha : a = -9223372036854775808
  · rw [if_pos ha]
    have : (b == -1) = false := beq_eq_false_iff_ne.mpr (fun h => hno ⟨ha, h⟩)
    rw [this]
    exact main
  · rw [if_neg ha]
    exact main
theorem down_pos (k : Nat) (a b : Int) (a1 : -9223372036854775808 ≤ a) (a2 : a ≤ 9223372036854775807) (hb : 0 < b) : num_DivDown.f (k + 1) a b = some (a / b, 0) := by
  rw [down k a b a1 a2 (by omega) (by omega), fdiv_pos hb]
theorem dup (k : Nat) (a b : Int) (a1 : -9223372036854775808 ≤ a) (a2 : a ≤ 9223372036854775807) (hb : b ≠ 0) (hno : ¬ (a = -9223372036854775808 ∧ b = -1)) : num_DivUp.f (k + 1) a b = some (if Int.tmod a b = 0 then Int.fdiv a b else Int.fdiv a b + 1, 0) := by
  rw [num_DivUp.f, down k a b a1 a2 hb hno]
  simp only [Option.bind_some, if_true]
  rw [if_neg hb]
  by_cases h0 : Int.tmod a b = 0
  · rw [if_pos h0, if_pos h0]
  · rw [if_neg h0, if_neg h0]
    obtain ⟨r1, r2⟩ := fdiv_range a1 a2 hb hno
    have : Int.fdiv a b < 9223372036854775807 := by
      rcases Int.lt_or_le (Int.fdiv a b) 9223372036854775807 with h | h
      · exact h
      · exfalso
        have e : Int.fdiv a b = 9223372036854775807 := by omega
        have hm := Int.mul_fdiv_add_fmod a b
        rw [e] at hm
        have hn : Int.fmod a b ≠ 0 := fun h => h0 (Int.dvd_iff_tmod_eq_zero.1 (Int.dvd_iff_fmod_eq_zero.2 h))
        rcases Int.lt_or_le 0 b with hp | hp
        · have := Int.fmod_nonneg_of_pos a hp
          have := Int.fmod_lt_of_pos a hp
          omega
        · have h1 := Int.mul_fdiv_add_fmod (-a) (-b)
          rw [Int.neg_fdiv_neg, e] at h1
          have := Int.fmod_nonneg_of_pos (-a) (show 0 < -b by omega)
          have := Int.fmod_lt_of_pos (-a) (show 0 < -b by omega)
          omega
    rw [w64 (by omega) (by omega)]
theorem up_pos (k : Nat) (a b : Int) (a1 : -9223372036854775808 ≤ a) (a2 : a ≤ 9223372036854775807) (hb : 0 < b) : num_DivUp.f (k + 1) a b = some (if a % b = 0 then a / b else a / b + 1, 0) := by
  rw [dup k a b a1 a2 (by omega) (by omega), fdiv_pos hb]
  have : Int.tmod a b = 0 ↔ a % b = 0 := by rw [← Int.dvd_iff_tmod_eq_zero]; exact Int.dvd_iff_emod_eq_zero
  by_cases h : a % b = 0
  · rw [if_pos h, if_pos (this.2 h)]
  · rw [if_neg h, if_neg (fun g => h (this.1 g))]
theorem check_f (x y : Int) : plane_Check.f x y = some (if Ok x y then 0 else 4) := by
  unfold plane_Check.f
  by_cases c : Ok x y
  · rw [if_pos c]
    obtain ⟨c1, c2, c3, c4⟩ := c
    rw [if_neg (by omega), if_neg (by omega), if_neg (by omega), if_neg (by omega)]
  · rw [if_neg c]
    by_cases c1 : x < -1000000
    · rw [if_pos c1]
    · rw [if_neg c1]
      by_cases c2 : x > 1000000
      · rw [if_pos c2]
      · rw [if_neg c2]
        by_cases c3 : y < -1000000
        · rw [if_pos c3]
        · rw [if_neg c3, if_pos (by
            rcases Int.lt_or_le 1000000 y with h | h
            · exact h
            · exact absurd (show Ok x y from ⟨by omega, by omega, by omega, h⟩) c)]
theorem lin_bd {D n d : Int} (h0 : 0 < d) (h1 : d ≤ 200000) (h2 : 0 ≤ n) (h3 : n ≤ d) (h4 : -2000000 ≤ D) (h5 : D ≤ 2000000) :
    -400000000000 ≤ D * n ∧ D * n ≤ 400000000000 ∧ -2000000 ≤ D * n / d ∧ D * n / d ≤ 2000000 := by
  have m := mul_bd h4 h5 (show -200000 ≤ n by omega) (show n ≤ 200000 by omega)
  refine ⟨by omega, by omega, (Int.le_ediv_iff_mul_le h0).2 ?_, ?_⟩
  · have h6 := Int.mul_le_mul_of_nonneg_left h3 (show (0 : Int) ≤ 2000000 by decide)
    have h7 := Int.mul_nonneg (show 0 ≤ D + 2000000 by omega) h2
    rw [Int.add_mul] at h7
    omega
  · have : D * n / d < 2000001 := by
      refine (Int.ediv_lt_iff_lt_mul h0).2 ?_
      have h6 := Int.mul_le_mul_of_nonneg_left h3 (show (0 : Int) ≤ 2000000 by decide)
      have h7 := Int.mul_nonneg (show 0 ≤ 2000000 - D by omega) h2
      rw [Int.sub_mul] at h7
      omega
    omega
theorem toward (k : Nat) {ax ay bx b_y n d : Int} (h0 : 0 < d) (h1 : d ≤ 200000) (h2 : 0 ≤ n) (h3 : n ≤ d) (ha : Ok ax ay) (hb : Ok bx b_y) :
    plane_Toward.f (k + 2) ax ay bx b_y n d = some (ax + (bx - ax) * n / d, ay + (b_y - ay) * n / d, 0) := by
  obtain ⟨a1, a2, a3, a4⟩ := id ha
  obtain ⟨b1, b2, b3, b4⟩ := id hb
  obtain ⟨m1, m2, m3, m4⟩ := lin_bd h0 h1 h2 h3 (show -2000000 ≤ bx - ax by omega) (show bx - ax ≤ 2000000 by omega)
  obtain ⟨n1, n2, n3, n4⟩ := lin_bd h0 h1 h2 h3 (show -2000000 ≤ b_y - ay by omega) (show b_y - ay ≤ 2000000 by omega)
  unfold plane_Toward.f
  rw [if_neg (by omega), if_neg (by omega), if_neg (by omega), if_neg (by omega), check_f, check_f, Option.bind_some, Option.bind_some, if_pos ha, if_pos hb, if_pos rfl, plane_Toward.j0, if_neg (by decide)]
  rw [w64 (x := bx - ax) (by omega) (by omega), w64 (x := b_y - ay) (by omega) (by omega), w64 (x := (bx - ax) * n) (by omega) (by omega), w64 (x := (b_y - ay) * n) (by omega) (by omega)]
  rw [down_pos k _ d (by omega) (by omega) h0, down_pos k _ d (by omega) (by omega) h0, Option.bind_some, Option.bind_some, w64 (by omega) (by omega), w64 (by omega) (by omega)]
/-- Node i of a tube. -/
def Tn (l : List S95) (i : Nat) : S95 := rd_T95 l (i : Int)
def NodeT (l : List S95) (j : Nat) : Prop :=
  (0 ≤ (Tn l j).f0.f0 ∧ (Tn l j).f0.f0 ≤ 200000) ∧ (0 < j → (Tn l (j - 1)).f0.f0 < (Tn l j).f0.f0) ∧ Ok (Tn l j).f0.f1.f0 (Tn l j).f0.f1.f1 ∧ (0 ≤ (Tn l j).f0.f2 ∧ (Tn l j).f0.f2 ≤ 60000) ∧ (0 ≤ (Tn l j).f1 ∧ (Tn l j).f1 ≤ 1000000) ∧ 0 ≤ (Tn l j).f2 ∧ (Tn l j).f2 ≤ 60000
theorem tcheck_l (l : List S95) (hl : l.length ≤ 64) : ∀ (d k i : Nat), i + d = l.length → 2 * d + 1 ≤ k →
    ∃ e, tube_Check.l0 k l l (l.length : Int) (i : Int) = some e ∧ (e = 0 → ∀ j, i ≤ j → j < l.length → NodeT l j)
  | 0, k, i, hi, hk => by
    obtain ⟨k, rfl⟩ : ∃ m, k = m + 1 := ⟨k - 1, by omega⟩
    rw [tube_Check.l0, if_neg (by omega)]
    exact ⟨0, rfl, fun _ j h1 h2 => by omega⟩
  | d + 1, k, i, hi, hk => by
    obtain ⟨k, rfl⟩ : ∃ m, k = m + 2 := ⟨k - 2, by omega⟩
    have hlt : i < l.length := by omega
    have hN : rd_T95 l (i : Int) = Tn l i := rfl
    obtain ⟨e', ih, ihz⟩ := tcheck_l l hl d k (i + 1) (by omega) (by omega)
    have j1 : ∀ b : Bool, (b = false → 0 ≤ (Tn l i).f0.f0 ∧ (Tn l i).f0.f0 ≤ 200000 ∧ (0 < i → (Tn l (i - 1)).f0.f0 < (Tn l i).f0.f0)) → ∃ e, tube_Check.j1 (k + 1) l l (l.length : Int) (i : Int) b (Tn l i).f0.f0 (Tn l i).f0.f1.f0 (Tn l i).f0.f1.f1 (Tn l i).f0.f2 (Tn l i).f1 (Tn l i).f2 = some e ∧ (e = 0 → ∀ j, i ≤ j → j < l.length → NodeT l j) := by
      intro b hb
      rw [tube_Check.j1]
      cases b with
      | true => rw [if_pos rfl]; exact ⟨12, rfl, fun h => by omega⟩
      | false =>
        obtain ⟨b1, b2, b3⟩ := hb rfl
        rw [if_neg (by decide), check_f, Option.bind_some]
        by_cases hp : Ok (Tn l i).f0.f1.f0 (Tn l i).f0.f1.f1
        · rw [if_pos hp, if_pos rfl]
          by_cases h1 : (Tn l i).f0.f2 < 0
          · rw [if_pos h1]; exact ⟨4, rfl, fun h => by omega⟩
          rw [if_neg h1]
          by_cases h2 : (Tn l i).f0.f2 > 60000
          · rw [if_pos h2]; exact ⟨4, rfl, fun h => by omega⟩
          rw [if_neg h2]
          by_cases h3 : (Tn l i).f1 < 0
          · rw [if_pos h3]; exact ⟨4, rfl, fun h => by omega⟩
          rw [if_neg h3]
          by_cases h4 : (Tn l i).f1 > 1000000
          · rw [if_pos h4]; exact ⟨4, rfl, fun h => by omega⟩
          rw [if_neg h4]
          by_cases h5 : (Tn l i).f2 < 0
          · rw [if_pos h5]; exact ⟨4, rfl, fun h => by omega⟩
          rw [if_neg h5]
          by_cases h6 : (Tn l i).f2 > 60000
          · rw [if_pos h6]; exact ⟨4, rfl, fun h => by omega⟩
          rw [if_neg h6, w64 (by omega) (by omega), show ((i : Int) + 1) = ((i + 1 : Nat) : Int) by omega, ih]
          refine ⟨e', rfl, fun h j g1 g2 => ?_⟩
          by_cases hij : j = i
          · rw [hij]; exact ⟨⟨b1, b2⟩, b3, hp, ⟨by omega, by omega⟩, ⟨by omega, by omega⟩, by omega, by omega⟩
          · exact ihz h j (by omega) g2
        · rw [if_neg hp, if_neg (by decide)]; exact ⟨4, rfl, fun h => by omega⟩
    rw [tube_Check.l0, if_pos (by omega), if_pos (by omega), if_pos (by omega), hN]
    by_cases h1 : (Tn l i).f0.f0 < 0
    · rw [if_pos h1]; exact j1 true (fun h => by cases h)
    · rw [if_neg h1]
      by_cases h2 : (Tn l i).f0.f0 > 200000
      · rw [if_pos h2]; exact j1 true (fun h => by cases h)
      · rw [if_neg h2]
        by_cases h3 : (i : Int) > 0
        · rw [if_pos h3, w64 (by omega) (by omega), if_pos (by omega), if_pos (by omega), show ((i : Int) - 1) = ((i - 1 : Nat) : Int) by omega]
          have hN' : rd_T95 l ((i - 1 : Nat) : Int) = Tn l (i - 1) := rfl
          rw [hN']
          refine j1 _ (fun h => ⟨by omega, by omega, fun _ => ?_⟩)
          have := of_decide_eq_false h
          omega
        · rw [if_neg h3]
          exact j1 false (fun _ => ⟨by omega, by omega, fun h => by omega⟩)
/-- A valid tube. -/
def TubeOk (l : List S95) : Prop := 0 < l.length ∧ l.length ≤ 64 ∧ ∀ j, j < l.length → NodeT l j
theorem tcheck (l : List S95) : ∃ e, (∀ k, 130 ≤ k → tube_Check.f k l = some e) ∧ (e = 0 → TubeOk l) := by
  have main : ∃ e, tube_Check.f 130 l = some e ∧ (e = 0 → TubeOk l) := by
    unfold tube_Check.f
    by_cases h1 : (l.length : Int) > 64
    · rw [if_pos h1]; exact ⟨2, rfl, fun h => by omega⟩
    · rw [if_neg h1]
      by_cases h2 : (l.length : Int) = 0
      · rw [if_pos h2]; exact ⟨3, rfl, fun h => by omega⟩
      · rw [if_neg h2]
        obtain ⟨e, he, hz⟩ := tcheck_l l (by omega) l.length 130 0 (by omega) (by omega)
        exact ⟨e, he, fun h => ⟨by omega, by omega, fun j hj => hz h j (by omega) hj⟩⟩
  obtain ⟨e, he, hz⟩ := main
  exact ⟨e, fun k hk => at_rounds (fun k => tube_Check.mono l k) hk he, hz⟩
theorem ttimes {l : List S95} (h : TubeOk l) : ∀ (d i : Nat), i + d + 1 < l.length → (Tn l i).f0.f0 < (Tn l (i + d + 1)).f0.f0
  | 0, i, hd => by have := (h.2.2 (i + 1) hd).2.1 (by omega); exact this
  | d + 1, i, hd => by
    have h1 := ttimes h d i (by omega)
    have h2 := (h.2.2 (i + d + 2) (by omega)).2.1 (by omega)
    have e : i + d + 2 - 1 = i + d + 1 := by omega
    rw [e] at h2
    have e2 : i + (d + 1) + 1 = i + d + 2 := by omega
    rw [e2]
    omega
theorem ttimes_lt {l : List S95} (h : TubeOk l) {i j : Nat} (hij : i < j) (hj : j < l.length) : (Tn l i).f0.f0 < (Tn l j).f0.f0 := by
  have := ttimes h (j - i - 1) i (by omega)
  have e : i + (j - i - 1) + 1 = j := by omega
  rw [e] at this
  exact this
/-- The place of a time in a tube. -/
def AtT (l : List S95) (t : Int) (j : Nat) : Prop := j < l.length ∧ (Tn l j).f0.f0 ≤ t ∧ (j + 1 < l.length → t < (Tn l (j + 1)).f0.f0)
theorem AtT.same {l : List S95} (h : TubeOk l) {t : Int} {i j : Nat} (hi : AtT l t i) (hj : AtT l t j) : i = j := by
  obtain ⟨i1, i2, i3⟩ := hi
  obtain ⟨j1, j2, j3⟩ := hj
  rcases Nat.lt_trichotomy i j with g | g | g
  · have := i3 (by omega)
    rcases Nat.lt_or_ge (i + 1) j with g2 | g2
    · have := ttimes_lt h g2 j1; omega
    · have : j = i + 1 := by omega
      subst this; omega
  · exact g
  · have := j3 (by omega)
    rcases Nat.lt_or_ge (j + 1) i with g2 | g2
    · have := ttimes_lt h g2 i1; omega
    · have : i = j + 1 := by omega
      subst this; omega
theorem at_l {l : List S95} (h : TubeOk l) (t : Int) : ∀ (d k i : Nat), i + d + 1 = l.length → d + 1 ≤ k → (Tn l i).f0.f0 ≤ t →
    ∃ j m, AtT l t j ∧ k ≤ m + d + 1 ∧ tube_at.l0 k l t (i : Int) = tube_at.j2 m l t (j : Int)
  | 0, k, i, hi, hk, ht => by
    obtain ⟨k, rfl⟩ : ∃ m, k = m + 1 := ⟨k - 1, by omega⟩
    have hl := h.2.1
    rw [tube_at.l0, w64 (by omega) (by omega), if_neg (by omega)]
    exact ⟨i, k, ⟨by omega, ht, fun _ => by omega⟩, by omega, rfl⟩
  | d + 1, k, i, hi, hk, ht => by
    obtain ⟨k, rfl⟩ : ∃ m, k = m + 1 := ⟨k - 1, by omega⟩
    have hl := h.2.1
    rw [tube_at.l0, w64 (by omega) (by omega), if_pos (by omega), if_pos (by omega), show ((i : Int) + 1) = ((i + 1 : Nat) : Int) by omega]
    have hN : rd_T95 l ((i + 1 : Nat) : Int) = Tn l (i + 1) := rfl
    rw [hN]
    by_cases c : (Tn l (i + 1)).f0.f0 ≤ t
    · rw [if_pos c]
      obtain ⟨j, m, h1, h5, h6⟩ := at_l h t d k (i + 1) (by omega) (by omega) c
      exact ⟨j, m, h1, by omega, h6⟩
    · rw [if_neg c]
      exact ⟨i, k, ⟨by omega, ht, fun _ => by omega⟩, by omega, rfl⟩
def lin (a b n d : Int) : Int := a + (b - a) * n / d
def linUp (a b n d : Int) : Int := a + (if (b - a) * n % d = 0 then (b - a) * n / d else (b - a) * n / d + 1)
theorem between_f (k : Nat) {a b n d : Int} (h0 : 0 < d) (h1 : d ≤ 200000) (h2 : 0 ≤ n) (h3 : n ≤ d) (a1 : 0 ≤ a) (a2 : a ≤ 1000000) (b1 : 0 ≤ b) (b2 : b ≤ 1000000) : tube_between.f (k + 1) a b n d = some (lin a b n d) := by
  obtain ⟨m1, m2, m3, m4⟩ := lin_bd h0 h1 h2 h3 (show -2000000 ≤ b - a by omega) (show b - a ≤ 2000000 by omega)
  unfold tube_between.f lin
  rw [w64 (x := b - a) (by omega) (by omega), w64 (x := (b - a) * n) (by omega) (by omega), down_pos k _ d (by omega) (by omega) h0, Option.bind_some, w64 (by omega) (by omega)]
theorem above_f (k : Nat) {a b n d : Int} (h0 : 0 < d) (h1 : d ≤ 200000) (h2 : 0 ≤ n) (h3 : n ≤ d) (a1 : 0 ≤ a) (a2 : a ≤ 1000000) (b1 : 0 ≤ b) (b2 : b ≤ 1000000) : tube_above.f (k + 1) a b n d = some (linUp a b n d) := by
  obtain ⟨m1, m2, m3, m4⟩ := lin_bd h0 h1 h2 h3 (show -2000000 ≤ b - a by omega) (show b - a ≤ 2000000 by omega)
  unfold tube_above.f linUp
  rw [w64 (x := b - a) (by omega) (by omega), w64 (x := (b - a) * n) (by omega) (by omega), up_pos k _ d (by omega) (by omega) h0, Option.bind_some, w64 (by dsimp only; split <;> omega) (by dsimp only; split <;> omega)]
/-- A tube's node at a time between node j and the next. -/
def mid (l : List S95) (t : Int) (j : Nat) : Int × Int × Int × Int × Int × Int × Int :=
  let a := Tn l j
  let b := Tn l (j + 1)
  let n := t - a.f0.f0
  let d := b.f0.f0 - a.f0.f0
  (t, a.f0.f1.f0 + (b.f0.f1.f0 - a.f0.f1.f0) * n / d, a.f0.f1.f1 + (b.f0.f1.f1 - a.f0.f1.f1) * n / d, lin a.f0.f2 b.f0.f2 n d, linUp a.f1 b.f1 n d, linUp a.f2 b.f2 n d, 0)
/-- What at answers inside a valid tube's time. -/
def ins (l : List S95) (t : Int) (j : Nat) : Int × Int × Int × Int × Int × Int × Int :=
  if (Tn l j).f0.f0 = t then ((Tn l j).f0.f0, (Tn l j).f0.f1.f0, (Tn l j).f0.f1.f1, (Tn l j).f0.f2, (Tn l j).f1, (Tn l j).f2, 0) else mid l t j
theorem at_f {l : List S95} (h : TubeOk l) (t : Int) :
    ((t < (Tn l 0).f0.f0 ∨ t > (Tn l (l.length - 1)).f0.f0) ∧ ∀ k, 200 ≤ k → tube_at.f k l t = some (0, 0, 0, 0, 0, 0, 12)) ∨
    (((Tn l 0).f0.f0 ≤ t ∧ t ≤ (Tn l (l.length - 1)).f0.f0) ∧ ∃ j, AtT l t j ∧ (j + 1 = l.length → (Tn l j).f0.f0 = t) ∧ ∀ k, 200 ≤ k → tube_at.f k l t = some (ins l t j)) := by
  obtain ⟨hl0, hl, hn⟩ := id h
  have n0 : rd_T95 l 0 = Tn l 0 := rfl
  have n1 : rd_T95 l ((l.length - 1 : Nat) : Int) = Tn l (l.length - 1) := rfl
  have hat : ∀ k, tube_at.f (k + 1) l t = if t < (Tn l 0).f0.f0 then some (0, 0, 0, 0, 0, 0, 12) else if t > (Tn l (l.length - 1)).f0.f0 then some (0, 0, 0, 0, 0, 0, 12) else tube_at.l0 k l t 0 := by
    intro k
    unfold tube_at.f
    rw [if_pos (show (0 : Int) < (l.length : Int) by omega), n0]
    by_cases c1 : t < (Tn l 0).f0.f0
    · rw [if_pos c1, if_pos c1, tube_at.j0, if_pos rfl]
    · rw [if_neg c1, if_neg c1, w64 (x := (l.length : Int) - 1) (by omega) (by omega), if_pos (show (0 : Int) ≤ (l.length : Int) - 1 by omega), if_pos (show (l.length : Int) - 1 < (l.length : Int) by omega), show ((l.length : Int) - 1) = ((l.length - 1 : Nat) : Int) by omega, n1]
      by_cases c2 : t > (Tn l (l.length - 1)).f0.f0
      · rw [if_pos c2, tube_at.j0, if_pos (decide_eq_true c2)]
      · rw [if_neg c2, tube_at.j0, if_neg (by simpa using c2)]
  by_cases c1 : t < (Tn l 0).f0.f0
  · left
    refine ⟨Or.inl c1, fun k hk => ?_⟩
    obtain ⟨k, rfl⟩ : ∃ m, k = m + 1 := ⟨k - 1, by omega⟩
    rw [hat, if_pos c1]
  · by_cases c2 : t > (Tn l (l.length - 1)).f0.f0
    · left
      refine ⟨Or.inr c2, fun k hk => ?_⟩
      obtain ⟨k, rfl⟩ : ∃ m, k = m + 1 := ⟨k - 1, by omega⟩
      rw [hat, if_neg c1, if_pos c2]
    · right
      refine ⟨⟨by omega, by omega⟩, ?_⟩
      have one : ∀ k, 200 ≤ k → ∃ j, AtT l t j ∧ (j + 1 = l.length → (Tn l j).f0.f0 = t) ∧ tube_at.f k l t = some (ins l t j) := by
        intro k hk
        obtain ⟨k, rfl⟩ : ∃ m, k = m + 1 := ⟨k - 1, by omega⟩
        rw [hat, if_neg c1, if_neg c2]
        obtain ⟨j, m, ha, hm, e⟩ := at_l h t (l.length - 1) k 0 (by omega) (by omega) (by omega)
        obtain ⟨m, rfl⟩ : ∃ q, m = q + 4 := ⟨m - 4, by omega⟩
        obtain ⟨hj, g1, g2⟩ := id ha
        have hN : rd_T95 l (j : Int) = Tn l j := rfl
        have hlast : j + 1 = l.length → (Tn l j).f0.f0 = t := by
          intro hjl
          have : l.length - 1 = j := by omega
          rw [this] at c2
          omega
        refine ⟨j, ha, hlast, ?_⟩
        have e0 : tube_at.l0 k l t 0 = tube_at.j2 (m + 4) l t (j : Int) := e
        rw [e0, tube_at.j2, if_pos (by omega), if_pos (by omega), hN]
        unfold ins
        by_cases c : (Tn l j).f0.f0 = t
        · rw [if_pos c, if_pos c]
        · have hj1 : j + 1 < l.length := by
            rcases Nat.lt_or_ge (j + 1) l.length with g | g
            · exact g
            · exact absurd (hlast (by omega)) c
          have g3 := g2 hj1
          obtain ⟨a1, a2, a3, a4, a5, a6⟩ := hn j hj
          obtain ⟨b1, b2, b3, b4, b5, b6⟩ := hn (j + 1) hj1
          have hN' : rd_T95 l ((j + 1 : Nat) : Int) = Tn l (j + 1) := rfl
          rw [if_neg c, if_neg c, w64 (x := (j : Int) + 1) (by omega) (by omega), if_pos (by omega), if_pos (by omega), show ((j : Int) + 1) = ((j + 1 : Nat) : Int) by omega, hN',
            w64 (x := t - (Tn l j).f0.f0) (by omega) (by omega), w64 (x := (Tn l (j + 1)).f0.f0 - (Tn l j).f0.f0) (by omega) (by omega), toward (m + 1) (by omega) (by omega) (by omega) (by omega) a3 b3, Option.bind_some,
            between_f (m + 2) (by omega) (by omega) (by omega) (by omega) (by omega) (by omega) (by omega) (by omega), Option.bind_some,
            above_f (m + 2) (by omega) (by omega) (by omega) (by omega) (by omega) (by omega) (by omega) (by omega), Option.bind_some,
            above_f (m + 2) (by omega) (by omega) (by omega) (by omega) (by omega) (by omega) (by omega) (by omega), Option.bind_some]
          rfl
      obtain ⟨j, ha, hlast, _⟩ := one 200 (by decide)
      refine ⟨j, ha, hlast, fun k hk => ?_⟩
      obtain ⟨j', ha', _, e⟩ := one k hk
      rw [e, AtT.same h ha' ha]
theorem yes_l {l : List S95} (h : TubeOk l) : ∀ (d k i : Nat), i + d = l.length → 2 * d + 1 ≤ k → tube_Check.l0 k l l (l.length : Int) (i : Int) = some 0
  | 0, k, i, hi, hk => by
    obtain ⟨k, rfl⟩ : ∃ m, k = m + 1 := ⟨k - 1, by omega⟩
    rw [tube_Check.l0, if_neg (by omega)]
  | d + 1, k, i, hi, hk => by
    obtain ⟨k, rfl⟩ : ∃ m, k = m + 2 := ⟨k - 2, by omega⟩
    have hl := h.2.1
    have e1 : ∀ j : Nat, rd_T95 l (j : Int) = Tn l j := fun _ => rfl
    obtain ⟨⟨a1, a2⟩, a3, a4, ⟨a5, a6⟩, ⟨a7, a8⟩, a9, a10⟩ := h.2.2 i (by omega)
    have ih := yes_l h d k (i + 1) (by omega) (by omega)
    have j1 : tube_Check.j1 (k + 1) l l (l.length : Int) (i : Int) false (Tn l i).f0.f0 (Tn l i).f0.f1.f0 (Tn l i).f0.f1.f1 (Tn l i).f0.f2 (Tn l i).f1 (Tn l i).f2 = some 0 := by
      rw [tube_Check.j1, if_neg (by decide), check_f, Option.bind_some, if_pos a4, if_pos rfl, if_neg (by omega), if_neg (by omega), if_neg (by omega), if_neg (by omega), if_neg (by omega), if_neg (by omega), w64 (by omega) (by omega), show ((i : Int) + 1) = ((i + 1 : Nat) : Int) by omega]
      exact at_rounds (fun k => (tube_Check.mono_l k).1 l l (l.length : Int) ((i + 1 : Nat) : Int)) (Nat.le_refl _) ih
    rw [tube_Check.l0, if_pos (by omega), if_pos (by omega), if_pos (by omega), e1, if_neg (by omega), if_neg (by omega)]
    by_cases h3 : (i : Int) > 0
    · have := a3 (by omega)
      rw [if_pos h3, w64 (by omega) (by omega), if_pos (by omega), if_pos (by omega), show ((i : Int) - 1) = ((i - 1 : Nat) : Int) by omega, e1, decide_eq_false (by omega)]
      exact j1
    · rw [if_neg h3]
      exact j1
theorem tcheck_yes {l : List S95} (h : TubeOk l) (k : Nat) (hk : 130 ≤ k) : tube_Check.f k l = some 0 := by
  have hl0 := h.1
  have hl := h.2.1
  unfold tube_Check.f
  rw [if_neg (by omega), if_neg (by omega)]
  exact yes_l h l.length k 0 (by omega) (by omega)
theorem fl_le {z M d : Int} (hd : 0 < d) (h : z ≤ M * d) : z / d ≤ M := by
  have h1 := floor_le (a := z) hd
  rcases Int.lt_or_le M (z / d) with g | g
  · have h2 := Int.mul_le_mul_of_nonneg_right (show M + 1 ≤ z / d by omega) (Int.le_of_lt hd)
    rw [Int.add_mul, Int.one_mul] at h2
    omega
  · exact g
theorem le_fl {z M d : Int} (hd : 0 < d) (h : M * d ≤ z) : M ≤ z / d := by
  have h1 := lt_floor (a := z) hd
  rcases Int.lt_or_le (z / d) M with g | g
  · have h2 := Int.mul_le_mul_of_nonneg_right (show z / d + 1 ≤ M by omega) (Int.le_of_lt hd)
    omega
  · exact g
/-- The quotient, rounded up. -/
def cl (z d : Int) : Int := if z % d = 0 then z / d else z / d + 1
theorem cl_bd {z d : Int} (hd : 0 < d) : z ≤ cl z d * d ∧ cl z d * d < z + d := by
  have h1 := floor_le (a := z) hd
  have h2 := lt_floor (a := z) hd
  have h3 := Int.mul_ediv_add_emod z d
  have h4 := Int.emod_nonneg z (show d ≠ 0 by omega)
  rw [Int.mul_comm] at h3
  unfold cl
  split
  · constructor <;> omega
  · rw [Int.add_mul, Int.one_mul] at h2 ⊢
    constructor <;> omega
theorem cl_le {z M d : Int} (hd : 0 < d) (h : z ≤ M * d) : cl z d ≤ M := by
  have h1 := (cl_bd (z := z) hd).2
  rcases Int.lt_or_le M (cl z d) with g | g
  · have h2 := Int.mul_le_mul_of_nonneg_right (show M + 1 ≤ cl z d by omega) (Int.le_of_lt hd)
    rw [Int.add_mul, Int.one_mul] at h2
    omega
  · exact g
theorem le_cl {z M d : Int} (hd : 0 < d) (h : M * d ≤ z) : M ≤ cl z d := by
  have h1 := (cl_bd (z := z) hd).1
  rcases Int.lt_or_le (cl z d) M with g | g
  · have h2 := Int.mul_le_mul_of_nonneg_right (show cl z d + 1 ≤ M by omega) (Int.le_of_lt hd)
    rw [Int.add_mul, Int.one_mul] at h2
    omega
  · exact g
theorem part_bd {a b n d : Int} (hn : 0 ≤ n) (hd : n ≤ d) : (a ≤ b → 0 * d ≤ (b - a) * n ∧ (b - a) * n ≤ (b - a) * d) ∧ (b ≤ a → (b - a) * d ≤ (b - a) * n ∧ (b - a) * n ≤ 0 * d) := by
  rw [Int.zero_mul]
  refine ⟨fun h => ⟨Int.mul_nonneg (by omega) hn, Int.mul_le_mul_of_nonneg_left hd (by omega)⟩, fun h => ⟨?_, ?_⟩⟩
  · have := Int.mul_le_mul_of_nonneg_left hd (show 0 ≤ a - b by omega)
    rw [Int.sub_mul, Int.sub_mul] at this
    rw [Int.sub_mul, Int.sub_mul]
    omega
  · have := Int.mul_nonneg (show 0 ≤ a - b by omega) hn
    rw [Int.sub_mul] at this
    rw [Int.sub_mul]
    omega
theorem lin_btw {a b n d : Int} (h0 : 0 < d) (hn : 0 ≤ n) (hd : n ≤ d) : (a ≤ b → a ≤ lin a b n d ∧ lin a b n d ≤ b) ∧ (b ≤ a → b ≤ lin a b n d ∧ lin a b n d ≤ a) := by
  obtain ⟨p1, p2⟩ := part_bd (a := a) (b := b) hn hd
  unfold lin
  refine ⟨fun h => ?_, fun h => ?_⟩
  · have := le_fl h0 (p1 h).1
    have := fl_le h0 (p1 h).2
    omega
  · have := le_fl h0 (p2 h).1
    have := fl_le h0 (p2 h).2
    omega
theorem linUp_cl (a b n d : Int) : linUp a b n d = a + cl ((b - a) * n) d := rfl
theorem linUp_btw {a b n d : Int} (h0 : 0 < d) (hn : 0 ≤ n) (hd : n ≤ d) : (a ≤ b → a ≤ linUp a b n d ∧ linUp a b n d ≤ b) ∧ (b ≤ a → b ≤ linUp a b n d ∧ linUp a b n d ≤ a) := by
  obtain ⟨p1, p2⟩ := part_bd (a := a) (b := b) hn hd
  rw [linUp_cl]
  refine ⟨fun h => ?_, fun h => ?_⟩
  · have := le_cl h0 (p1 h).1
    have := cl_le h0 (p1 h).2
    omega
  · have := le_cl h0 (p2 h).1
    have := cl_le h0 (p2 h).2
    omega
theorem lin_rng {a b n d L H : Int} (h0 : 0 < d) (hn : 0 ≤ n) (hd : n ≤ d) (a1 : L ≤ a) (a2 : a ≤ H) (b1 : L ≤ b) (b2 : b ≤ H) : L ≤ lin a b n d ∧ lin a b n d ≤ H := by
  obtain ⟨p1, p2⟩ := lin_btw (a := a) (b := b) h0 hn hd
  rcases Int.le_total a b with h | h
  · have := p1 h; omega
  · have := p2 h; omega
theorem linUp_rng {a b n d L H : Int} (h0 : 0 < d) (hn : 0 ≤ n) (hd : n ≤ d) (a1 : L ≤ a) (a2 : a ≤ H) (b1 : L ≤ b) (b2 : b ≤ H) : L ≤ linUp a b n d ∧ linUp a b n d ≤ H := by
  obtain ⟨p1, p2⟩ := linUp_btw (a := a) (b := b) h0 hn hd
  rcases Int.le_total a b with h | h
  · have := p1 h; omega
  · have := p2 h; omega
/-- Which of the two kinds a node at a time is. -/
theorem ins_or {l : List S95} {t : Int} {j : Nat} (ha : AtT l t j) (hl : j + 1 = l.length → (Tn l j).f0.f0 = t) :
    ((Tn l j).f0.f0 = t ∧ ins l t j = ((Tn l j).f0.f0, (Tn l j).f0.f1.f0, (Tn l j).f0.f1.f1, (Tn l j).f0.f2, (Tn l j).f1, (Tn l j).f2, 0)) ∨
    (j + 1 < l.length ∧ (Tn l j).f0.f0 < t ∧ t < (Tn l (j + 1)).f0.f0 ∧ ins l t j = mid l t j) := by
  obtain ⟨h1, h2, h3⟩ := ha
  unfold ins
  by_cases c : (Tn l j).f0.f0 = t
  · left; exact ⟨c, if_pos c⟩
  · right
    have hj : j + 1 < l.length := by
      rcases Nat.lt_or_ge (j + 1) l.length with g | g
      · exact g
      · exact absurd (hl (by omega)) c
    exact ⟨hj, by omega, h3 hj, if_neg c⟩
/-- What a node at a time is within. -/
theorem ins_rng {l : List S95} (h : TubeOk l) {t : Int} {j : Nat} (ha : AtT l t j) (hl : j + 1 = l.length → (Tn l j).f0.f0 = t) :
    (ins l t j).1 = t ∧ Ok (ins l t j).2.1 (ins l t j).2.2.1 ∧ (0 ≤ (ins l t j).2.2.2.1 ∧ (ins l t j).2.2.2.1 ≤ 60000) ∧ (0 ≤ (ins l t j).2.2.2.2.1 ∧ (ins l t j).2.2.2.2.1 ≤ 1000000) ∧ (0 ≤ (ins l t j).2.2.2.2.2.1 ∧ (ins l t j).2.2.2.2.2.1 ≤ 60000) ∧ (ins l t j).2.2.2.2.2.2 = 0 := by
  obtain ⟨a1, a2, a3, a4, a5, a6, a7⟩ := h.2.2 j ha.1
  rcases ins_or ha hl with ⟨h0, e⟩ | ⟨hj, h1, h2, e⟩
  · rw [e]; exact ⟨h0, a3, a4, a5, ⟨a6, a7⟩, rfl⟩
  · obtain ⟨b1, b2, b3, b4, b5, b6, b7⟩ := h.2.2 (j + 1) hj
    obtain ⟨x1, x2, x3, x4⟩ := a3
    obtain ⟨y1, y2, y3, y4⟩ := b3
    rw [e]
    unfold mid
    dsimp only
    have d0 : 0 < (Tn l (j + 1)).f0.f0 - (Tn l j).f0.f0 := by omega
    have n0 : 0 ≤ t - (Tn l j).f0.f0 := by omega
    have n1 : t - (Tn l j).f0.f0 ≤ (Tn l (j + 1)).f0.f0 - (Tn l j).f0.f0 := by omega
    have r1 := lin_rng d0 n0 n1 x1 x2 y1 y2
    have r2 := lin_rng d0 n0 n1 x3 x4 y3 y4
    exact ⟨rfl, ⟨r1.1, r1.2, r2.1, r2.2⟩, lin_rng d0 n0 n1 a4.1 a4.2 b4.1 b4.2, linUp_rng d0 n0 n1 a5.1 a5.2 b5.1 b5.2, linUp_rng d0 n0 n1 a6 a7 b6 b7, rfl⟩
theorem checksep_f (x y : Int) : ∃ e, probe_CheckSep.f x y = some e ∧ (e = 0 → (0 ≤ x ∧ x ≤ 1000000) ∧ 0 ≤ y ∧ y ≤ 60000) := by
  unfold probe_CheckSep.f
  by_cases c1 : x < 0
  · rw [if_pos c1]; exact ⟨4, rfl, fun h => by omega⟩
  rw [if_neg c1]
  by_cases c2 : x > 1000000
  · rw [if_pos c2]; exact ⟨4, rfl, fun h => by omega⟩
  rw [if_neg c2]
  by_cases c3 : y < 0
  · rw [if_pos c3]; exact ⟨4, rfl, fun h => by omega⟩
  rw [if_neg c3]
  by_cases c4 : y > 60000
  · rw [if_pos c4]; exact ⟨4, rfl, fun h => by omega⟩
  rw [if_neg c4]; exact ⟨0, rfl, fun _ => ⟨⟨by omega, by omega⟩, by omega, by omega⟩⟩
theorem mx_def (a b : Int) : a ≤ mx a b ∧ b ≤ mx a b ∧ (mx a b = a ∨ mx a b = b) := by
  unfold mx
  split
  · exact ⟨by omega, by omega, Or.inr rfl⟩
  · exact ⟨by omega, by omega, Or.inl rfl⟩
/-- Whether two nodes are separated. -/
def sepB (ax ay ah ar ab bx b_y bh br bb s1 s2 : Int) : Bool := decide (mx (ah - bh) (bh - ah) - ab - bb ≥ s2) || decide (rootI (S (ax - bx) (ay - b_y)) - ar - br ≥ s1)
theorem sepB_f {at_ ax ay ah ar ab bt bx b_y bh br bb s1 s2 : Int} (ha : Ok ax ay) (hb : Ok bx b_y) (h1 : 0 ≤ ah ∧ ah ≤ 60000) (h2 : 0 ≤ ar ∧ ar ≤ 1000000) (h3 : 0 ≤ ab ∧ ab ≤ 60000) (k1 : 0 ≤ bh ∧ bh ≤ 60000) (k2 : 0 ≤ br ∧ br ≤ 1000000) (k3 : 0 ≤ bb ∧ bb ≤ 60000) :
    probe_separated.f at_ ax ay ah ar ab bt bx b_y bh br bb s1 s2 = some (sepB ax ay ah ar ab bx b_y bh br bb s1 s2) := by
  obtain ⟨p1, p2, p3, p4⟩ := ha
  obtain ⟨q1, q2, q3, q4⟩ := hb
  unfold probe_separated.f sepB
  obtain ⟨m1, m2, m3⟩ := mx_def (ah - bh) (bh - ah)
  rw [w64 (x := ah - bh) (by omega) (by omega), w64 (x := bh - ah) (by omega) (by omega), w64 (x := mx (ah - bh) (bh - ah) - ab) (by omega) (by omega), w64 (x := mx (ah - bh) (bh - ah) - ab - bb) (by omega) (by omega)]
  by_cases c : mx (ah - bh) (bh - ah) - ab - bb ≥ s2
  · rw [if_pos c, decide_eq_true c, Bool.true_or]
  · rw [if_neg c, decide_eq_false c, Bool.false_or]
    unfold probe_surplus.f
    have s0 := S_nonneg (ax - bx) (ay - b_y)
    have sb := (square (ax := ax) (ay := ay) (bx := bx) (b_y := b_y) (by omega) (by omega) (by omega) (by omega)).2
    have rn := rootI_nonneg (S (ax - bx) (ay - b_y))
    have rl := root_lt s0 sb
    rw [distance (by omega) (by omega) (by omega) (by omega), Option.bind_some]
    dsimp only
    rw [w64 (x := rootI (S (ax - bx) (ay - b_y)) - ar) (by omega) (by omega), w64 (x := rootI (S (ax - bx) (ay - b_y)) - ar - br) (by omega) (by omega), Option.bind_some]
/-- The node of a tube at a time. -/
def nd (l : List S95) (t : Int) : Int × Int × Int × Int × Int × Int × Int := (tube_at.f 200 l t).getD (0, 0, 0, 0, 0, 0, 0)
theorem nd_at {l : List S95} (h : TubeOk l) {t : Int} (h1 : (Tn l 0).f0.f0 ≤ t) (h2 : t ≤ (Tn l (l.length - 1)).f0.f0) :
    ∃ j, AtT l t j ∧ (j + 1 = l.length → (Tn l j).f0.f0 = t) ∧ nd l t = ins l t j ∧ ∀ k, 200 ≤ k → tube_at.f k l t = some (nd l t) := by
  rcases at_f h t with ⟨g, _⟩ | ⟨_, j, ha, hl, e⟩
  · omega
  · have e0 : nd l t = ins l t j := by unfold nd; rw [e 200 (by decide)]; rfl
    exact ⟨j, ha, hl, e0, fun k hk => by rw [e k hk, e0]⟩
def sepN (v w : Int × Int × Int × Int × Int × Int × Int) (s1 s2 : Int) : Bool := sepB v.2.1 v.2.2.1 v.2.2.2.1 v.2.2.2.2.1 v.2.2.2.2.2.1 w.2.1 w.2.2.1 w.2.2.2.1 w.2.2.2.2.1 w.2.2.2.2.2.1 s1 s2
/-- Whether two tubes aren't separated at a time. -/
def clashB (l m : List S95) (s1 s2 t : Int) : Bool := !sepN (nd l t) (nd m t) s1 s2
def InT (l : List S95) (t : Int) : Prop := (Tn l 0).f0.f0 ≤ t ∧ t ≤ (Tn l (l.length - 1)).f0.f0
theorem nd_rng {l : List S95} (h : TubeOk l) {t : Int} (hi : InT l t) :
    (nd l t).1 = t ∧ Ok (nd l t).2.1 (nd l t).2.2.1 ∧ (0 ≤ (nd l t).2.2.2.1 ∧ (nd l t).2.2.2.1 ≤ 60000) ∧ (0 ≤ (nd l t).2.2.2.2.1 ∧ (nd l t).2.2.2.2.1 ≤ 1000000) ∧ (0 ≤ (nd l t).2.2.2.2.2.1 ∧ (nd l t).2.2.2.2.2.1 ≤ 60000) ∧ (nd l t).2.2.2.2.2.2 = 0 := by
  obtain ⟨j, ha, hl, e, _⟩ := nd_at h hi.1 hi.2
  rw [e]
  exact ins_rng h ha hl
theorem sep_nd {l m : List S95} (hl : TubeOk l) (hm : TubeOk m) {t : Int} (h1 : InT l t) (h2 : InT m t) (s1 s2 : Int) :
    probe_separated.f (nd l t).1 (nd l t).2.1 (nd l t).2.2.1 (nd l t).2.2.2.1 (nd l t).2.2.2.2.1 (nd l t).2.2.2.2.2.1 (nd m t).1 (nd m t).2.1 (nd m t).2.2.1 (nd m t).2.2.2.1 (nd m t).2.2.2.2.1 (nd m t).2.2.2.2.2.1 s1 s2 = some (sepN (nd l t) (nd m t) s1 s2) := by
  obtain ⟨_, a1, a2, a3, a4, _⟩ := nd_rng hl h1
  obtain ⟨_, b1, b2, b3, b4, _⟩ := nd_rng hm h2
  exact sepB_f a1 b1 a2 a3 a4 b2 b3 b4
theorem point_nd {l : List S95} (h : TubeOk l) {t : Int} (hi : InT l t) (k : Nat) (hk : 200 ≤ k) :
    tube_Point.f k l t = some ((nd l t).1, (nd l t).2.1, (nd l t).2.2.1, (nd l t).2.2.2.1, (nd l t).2.2.2.2.1, (nd l t).2.2.2.2.2.1) := by
  obtain ⟨j, _, _, _, e⟩ := nd_at h hi.1 hi.2
  unfold tube_Point.f
  rw [e k hk, Option.bind_some]
/-- The list of intervals, with one more second. -/
def pushI (o : List S62) (t : Int) : List S62 :=
  if 0 < o.length ∧ (rd_T62 o ((o.length - 1 : Nat) : Int)).f1 = t then o.set (o.length - 1) ⟨(rd_T62 o ((o.length - 1 : Nat) : Int)).f0, t + 1⟩ else o ++ [⟨t, t + 1⟩]
theorem push_len (o : List S62) (t : Int) : (pushI o t).length ≤ o.length + 1 := by
  unfold pushI
  split <;> simp
def runs (N : Int → Bool) : Nat → Int → List S62 → List S62
  | 0, _, o => o
  | d + 1, t, o => runs N d (t + 1) (if N t = true then pushI o t else o)
theorem pcheck_ex (x y : Int) (l m : List S95) : ∃ es el em, probe_CheckSep.f x y = some es ∧ tube_Check.f 130 l = some el ∧ tube_Check.f 130 m = some em ∧
    (∀ k, 140 ≤ k → probe_check.f k x y [l, m] = some (if es = 0 then (if el = 0 then em else el) else es)) ∧ (es = 0 → (0 ≤ x ∧ x ≤ 1000000) ∧ 0 ≤ y ∧ y ≤ 60000) ∧ (el = 0 → TubeOk l) ∧ (em = 0 → TubeOk m) := by
  obtain ⟨e1, h1, z1⟩ := checksep_f x y
  obtain ⟨e2, h2, z2⟩ := tcheck l
  obtain ⟨e3, h3, z3⟩ := tcheck m
  refine ⟨e1, e2, e3, h1, h2 130 (by decide), h3 130 (by decide), fun k hk => ?_, z1, z2, z3⟩
  obtain ⟨k, rfl⟩ : ∃ q, k = q + 3 := ⟨k - 3, by omega⟩
  have len : (([l, m] : List (List S95)).length : Int) = 2 := rfl
  have w1 : wrap64 (0 + 1) = 1 := w64 (by decide) (by decide)
  have w2 : wrap64 (1 + 1) = 2 := w64 (by decide) (by decide)
  unfold probe_check.f
  rw [h1, Option.bind_some]
  by_cases c1 : e1 = 0
  · rw [if_pos c1, if_pos c1, len, probe_check.l0, len, if_pos (by decide), if_pos (by decide), if_pos (by decide)]
    have g1 : rd_L4 [l, m] 0 = l := rfl
    have g2 : rd_L4 [l, m] 1 = m := rfl
    rw [g1, h2 _ (by omega), Option.bind_some]
    by_cases c2 : e2 = 0
    · rw [if_pos c2, if_pos c2, w1, probe_check.l0, len, if_pos (by decide), if_pos (by decide), if_pos (by decide), g2, h3 _ (by omega), Option.bind_some]
      by_cases c3 : e3 = 0
      · rw [if_pos c3, w2, probe_check.l0, if_neg (by decide), c3]
      · rw [if_neg c3]
    · rw [if_neg c2, if_neg c2]
  · rw [if_neg c1, if_neg c1]
def frm (l m : List S95) : Int := mx (Tn l 0).f0.f0 (Tn m 0).f0.f0
def til (l m : List S95) : Int := mn (Tn l (l.length - 1)).f0.f0 (Tn m (m.length - 1)).f0.f0
theorem mn_def (a b : Int) : mn a b ≤ a ∧ mn a b ≤ b ∧ (mn a b = a ∨ mn a b = b) := by
  unfold mn
  split
  · exact ⟨by omega, by omega, Or.inr rfl⟩
  · exact ⟨by omega, by omega, Or.inl rfl⟩
theorem inT_of {l m : List S95} {t : Int} (h1 : frm l m ≤ t) (h2 : t ≤ til l m) : InT l t ∧ InT m t := by
  unfold frm at h1
  unfold til at h2
  obtain ⟨a1, a2, _⟩ := mx_def (Tn l 0).f0.f0 (Tn m 0).f0.f0
  obtain ⟨b1, b2, _⟩ := mn_def (Tn l (l.length - 1)).f0.f0 (Tn m (m.length - 1)).f0.f0
  exact ⟨⟨by omega, by omega⟩, by omega, by omega⟩
theorem frm_rng {l m : List S95} (hl : TubeOk l) (_hm : TubeOk m) : 0 ≤ frm l m ∧ til l m ≤ 200000 := by
  have a := (hl.2.2 0 hl.1).1
  have b := (hl.2.2 (l.length - 1) (by have := hl.1; omega)).1
  obtain ⟨a1, a2, _⟩ := mx_def (Tn l 0).f0.f0 (Tn m 0).f0.f0
  obtain ⟨b1, b2, _⟩ := mn_def (Tn l (l.length - 1)).f0.f0 (Tn m (m.length - 1)).f0.f0
  unfold frm til
  exact ⟨by omega, by omega⟩
theorem common_f {l m : List S95} (hl : TubeOk l) (hm : TubeOk m) : probe_common.f l m = some (frm l m, til l m) := by
  have a1 := hl.1
  have a2 := hl.2.1
  have b1 := hm.1
  have b2 := hm.2.1
  have e1 : ∀ (q : List S95) (j : Nat), rd_T95 q (j : Int) = Tn q j := fun _ _ => rfl
  have e0 : ∀ (q : List S95), rd_T95 q 0 = Tn q 0 := fun _ => rfl
  unfold probe_common.f
  rw [if_pos (by omega), if_pos (by omega), w64 (x := (l.length : Int) - 1) (by omega) (by omega), w64 (x := (m.length : Int) - 1) (by omega) (by omega), if_pos (by omega), if_pos (by omega), if_pos (by omega), if_pos (by omega), show (l.length : Int) - 1 = ((l.length - 1 : Nat) : Int) by omega, show (m.length : Int) - 1 = ((m.length - 1 : Nat) : Int) by omega, e1, e1, e0, e0]
  rfl
theorem pair_l {l m : List S95} (hl : TubeOk l) (hm : TubeOk m) (s1 s2 : Int) : ∀ (d k : Nat) (t : Int) (o : List S62), frm l m ≤ t → t + d = til l m + 1 → d + 201 ≤ k → o.length + d ≤ 1000000 →
    probe_pair.l0 k l m o (til l m) t s1 s2 = some (runs (clashB l m s1 s2) d t o)
  | 0, k, t, o, h1, h2, hk, ho => by
    obtain ⟨k, rfl⟩ : ∃ q, k = q + 1 := ⟨k - 1, by omega⟩
    rw [probe_pair.l0, if_neg (by omega), runs]
  | d + 1, k, t, o, h1, h2, hk, ho => by
    obtain ⟨k, rfl⟩ : ∃ q, k = q + 1 := ⟨k - 1, by omega⟩
    obtain ⟨i1, i2⟩ := inT_of h1 (show t ≤ til l m by omega)
    obtain ⟨r1, r2⟩ := frm_rng hl hm
    rw [probe_pair.l0, if_pos (by omega), point_nd hl i1 k (by omega), Option.bind_some, point_nd hm i2 k (by omega), Option.bind_some]
    dsimp only
    rw [sep_nd hl hm i1 i2, Option.bind_some, runs, w64 (x := t + 1) (by omega) (by omega)]
    by_cases c : sepN (nd l t) (nd m t) s1 s2 = true
    · rw [if_pos c, if_neg (by unfold clashB; rw [c]; decide)]
      exact pair_l hl hm s1 s2 d k (t + 1) o (by omega) (by omega) (by omega) (by omega)
    · have cn : clashB l m s1 s2 t = true := by unfold clashB; simpa using c
      have ih := pair_l hl hm s1 s2 d k (t + 1) (pushI o t) (by omega) (by omega) (by omega) (by have := push_len o t; omega)
      rw [if_neg c, if_pos cn, ← ih]
      by_cases c0 : (o.length : Int) > 0
      · have e1 : rd_T62 o ((o.length : Int) - 1) = rd_T62 o ((o.length - 1 : Nat) : Int) := by rw [show (o.length : Int) - 1 = ((o.length - 1 : Nat) : Int) by omega]
        rw [if_pos c0, w64 (x := (o.length : Int) - 1) (by omega) (by omega), if_pos (by omega), if_pos (by omega), e1]
        by_cases c2 : (rd_T62 o ((o.length - 1 : Nat) : Int)).f1 = t
        · have e2 : pushI o t = o.set (o.length - 1) ⟨(rd_T62 o ((o.length - 1 : Nat) : Int)).f0, t + 1⟩ := by unfold pushI; rw [if_pos ⟨by omega, c2⟩]
          rw [if_pos c2, e2, c2, w64 (x := t + 1) (by omega) (by omega), show ((o.length : Int) - 1).toNat = o.length - 1 by omega]
        · have e2 : pushI o t = o ++ [⟨t, t + 1⟩] := by unfold pushI; rw [if_neg (fun g => c2 g.2)]
          rw [if_neg c2, if_pos (by omega), e2]
      · have e2 : pushI o t = o ++ [⟨t, t + 1⟩] := by unfold pushI; rw [if_neg (fun g => by omega)]
        rw [if_neg c0, if_pos (by omega), e2]
/-- The intervals in which two valid tubes are not separated. -/
def clashes (l m : List S95) (s1 s2 : Int) : List S62 := runs (clashB l m s1 s2) (til l m + 1 - frm l m).toNat (frm l m) []
theorem pair_f {l m : List S95} (hl : TubeOk l) (hm : TubeOk m) (s1 s2 : Int) (k : Nat) (hk : 201000 ≤ k) : probe_pair.f k l m s1 s2 = some (clashes l m s1 s2) := by
  obtain ⟨r1, r2⟩ := frm_rng hl hm
  unfold probe_pair.f clashes
  rw [common_f hl hm, Option.bind_some]
  dsimp only
  by_cases c : frm l m ≤ til l m + 1
  · exact pair_l hl hm s1 s2 _ k (frm l m) [] (Int.le_refl _) (by omega) (by omega) (by simp; omega)
  · obtain ⟨k, rfl⟩ : ∃ q, k = q + 1 := ⟨k - 1, by omega⟩
    rw [probe_pair.l0, if_neg (by omega), show (til l m + 1 - frm l m).toNat = 0 by omega, runs]
theorem Pair_f (l m : List S95) (s1 s2 : Int) : ∃ es el em, probe_CheckSep.f s1 s2 = some es ∧ tube_Check.f 130 l = some el ∧ tube_Check.f 130 m = some em ∧
    (es = 0 → (0 ≤ s1 ∧ s1 ≤ 1000000) ∧ 0 ≤ s2 ∧ s2 ≤ 60000) ∧ (el = 0 → TubeOk l) ∧ (em = 0 → TubeOk m) ∧
    (es = 0 → el = 0 → em = 0 → ∀ k, 201000 ≤ k → probe_Pair.f k l m s1 s2 = some (clashes l m s1 s2, 0)) ∧
    (¬ (es = 0 ∧ el = 0 ∧ em = 0) → ∃ e, e ≠ 0 ∧ ∀ k, 201000 ≤ k → probe_Pair.f k l m s1 s2 = some ([], e)) := by
  obtain ⟨es, el, em, h1, h2, h3, hc, z1, z2, z3⟩ := pcheck_ex s1 s2 l m
  refine ⟨es, el, em, h1, h2, h3, z1, z2, z3, fun g1 g2 g3 k hk => ?_, fun g => ?_⟩
  · unfold probe_Pair.f
    rw [hc k (by omega), if_pos g1, if_pos g2, g3, Option.bind_some, if_pos rfl, pair_f (z2 g2) (z3 g3) s1 s2 k hk, Option.bind_some]
  · refine ⟨if es = 0 then (if el = 0 then em else el) else es, ?_, fun k hk => ?_⟩
    · by_cases g1 : es = 0
      · rw [if_pos g1]
        by_cases g2 : el = 0
        · rw [if_pos g2]; exact fun g3 => g ⟨g1, g2, g3⟩
        · rw [if_neg g2]; exact g2
      · rw [if_neg g1]; exact g1
    · unfold probe_Pair.f
      rw [hc k (by omega), Option.bind_some, if_neg]
      by_cases g1 : es = 0
      · rw [if_pos g1]
        by_cases g2 : el = 0
        · rw [if_pos g2]; exact fun g3 => g ⟨g1, g2, g3⟩
        · rw [if_neg g2]; exact g2
      · rw [if_neg g1]; exact g1
theorem surplus_f {a0 a1 a2 a3 a4 a5 b0 b1 b2 b3 b4 b5 r : Int} (h1 : -2000000000 ≤ a1 - b1) (h2 : a1 - b1 ≤ 2000000000) (h3 : -2000000000 ≤ a2 - b2) (h4 : a2 - b2 ≤ 2000000000) (hr : rootI (S (a1 - b1) (a2 - b2)) = r) :
    probe_surplus.f a0 a1 a2 a3 a4 a5 b0 b1 b2 b3 b4 b5 = some (wrap64 (wrap64 (r - a4) - b4)) := by
  unfold probe_surplus.f
  rw [distance h1 h2 h3 h4, Option.bind_some, hr]
theorem probeWorks : skywaykeep1_probeWorks.f 400 = some true := by
  have c1 : probe_check.f 400 5 10 [[⟨⟨0, ⟨0, 0⟩, 0⟩, 1, 0⟩], [⟨⟨0, ⟨8, 0⟩, 0⟩, 2, 0⟩]] = some 0 := by decide +kernel
  have c2 : probe_check.f 400 0 0 [[⟨⟨0, ⟨0, 0⟩, 0⟩, 1, 0⟩], [⟨⟨0, ⟨3, 5⟩, 0⟩, 1, 0⟩]] = some 0 := by decide +kernel
  have c3 : probe_common.f [⟨⟨0, ⟨0, 0⟩, 0⟩, 1, 0⟩] [⟨⟨0, ⟨3, 5⟩, 0⟩, 1, 0⟩] = some (0, 0) := by decide +kernel
  have c4 : tube_Point.f 399 [⟨⟨0, ⟨0, 0⟩, 0⟩, 1, 0⟩] 0 = some (0, 0, 0, 0, 1, 0) := by decide +kernel
  have c5 : tube_Point.f 399 [⟨⟨0, ⟨3, 5⟩, 0⟩, 1, 0⟩] 0 = some (0, 3, 5, 0, 1, 0) := by decide +kernel
  have e1 : rootI (S (0 - 8) (0 - 0)) = 8 := rootI_eq (by decide) (by decide) (by decide)
  have e2 : rootI (S (0 - 3) (0 - 5)) = 5 := rootI_eq (by decide) (by decide) (by decide)
  have s1 : probe_separated.f 0 0 0 0 1 0 0 8 0 0 2 0 5 10 = some true := by
    unfold probe_separated.f
    rw [surplus_f (by decide) (by decide) (by decide) (by decide) e1]
    decide +kernel
  have s2 : probe_surplus.f 0 0 0 0 1 0 0 3 5 0 1 0 = some 3 := by
    rw [surplus_f (by decide) (by decide) (by decide) (by decide) e2]
    decide +kernel
  have m : probe_Margin.f 400 [⟨⟨0, ⟨0, 0⟩, 0⟩, 1, 0⟩] [⟨⟨0, ⟨3, 5⟩, 0⟩, 1, 0⟩] = some (3, 0) := by
    have w1 : wrap64 (0 + 1) = 1 := w64 (by decide) (by decide)
    unfold probe_Margin.f
    rw [c2, Option.bind_some, if_pos rfl, c3, Option.bind_some, if_neg (by decide), show (400 : Nat) = 399 + 1 from rfl, probe_Margin.l0, if_pos (by decide), c4, Option.bind_some, c5, Option.bind_some]
    dsimp only
    rw [s2, Option.bind_some, if_pos rfl, w1, show (399 : Nat) = 398 + 1 from rfl, probe_Margin.l0, if_neg (by decide)]
  have s3 : probe_Separated.f 400 0 0 0 0 1 0 0 8 0 0 2 0 5 10 = some (true, 0) := by
    unfold probe_Separated.f
    rw [c1, Option.bind_some, if_pos rfl, if_pos rfl, s1, Option.bind_some]
  unfold skywaykeep1_probeWorks.f skywaykeep1_node.f
  simp only [Option.bind_some]
  rw [s3, m]
  rfl
theorem works (k : Nat) (hk : 400 ≤ k) : skywaykeep1_probeWorks.f k = some true := at_rounds skywaykeep1_probeWorks.mono hk probeWorks
/-- From some number of rounds on, the answer is r. -/
def Ev {α : Type} (f : Nat → Option α) (r : α) : Prop := ∃ K, ∀ k, K ≤ k → f k = some r
theorem Ev.succ {α : Type} {f g : Nat → Option α} {r : α} (e : ∀ k, f (k + 1) = g k) (h : Ev g r) : Ev f r := by
  obtain ⟨K, h⟩ := h
  refine ⟨K + 1, fun k hk => ?_⟩
  obtain ⟨k, rfl⟩ : ∃ q, k = q + 1 := ⟨k - 1, by omega⟩
  rw [e]
  exact h k (by omega)
theorem Ev.bind {α β : Type} {f : Nat → Option α} {g : Nat → α → Option β} {a : α} {b : β} (hf : Ev f a) (hg : Ev (fun k => g k a) b) : Ev (fun k => (f k).bind (g k)) b := by
  obtain ⟨K, hf⟩ := hf
  obtain ⟨L, hg⟩ := hg
  exact ⟨K + L, fun k hk => by dsimp only; rw [hf k (by omega), Option.bind_some]; exact hg k (by omega)⟩
theorem Ev.some {α : Type} (r : α) : Ev (fun _ => Option.some r) r := ⟨0, fun _ _ => rfl⟩
theorem Ev.const {α : Type} {o : Option α} {r : α} (h : o = Option.some r) : Ev (fun _ => o) r := ⟨0, fun _ _ => h⟩
theorem Ev.congr {α : Type} {f g : Nat → Option α} {r : α} (h : Ev g r) (e : ∀ k, f k = g k) : Ev f r := by
  obtain ⟨K, h⟩ := h
  exact ⟨K, fun k hk => by rw [e]; exact h k hk⟩
theorem Ev.ex {α : Type} {f : Nat → Option α} {r : α} (h : Ev f r) : ∃ k, f k = Option.some r := by
  obtain ⟨K, h⟩ := h
  exact ⟨K, h K (Nat.le_refl _)⟩
theorem Ev.pos {α : Type} {p : Prop} [Decidable p] {f g : Nat → Option α} {r : α} (c : p) (h : Ev f r) : Ev (fun k => if p then f k else g k) r := Ev.congr h (fun _ => if_pos c)
theorem Ev.neg {α : Type} {p : Prop} [Decidable p] {f g : Nat → Option α} {r : α} (c : ¬ p) (h : Ev g r) : Ev (fun k => if p then f k else g k) r := Ev.congr h (fun _ => if_neg c)
theorem runs_len {N : Int → Bool} : ∀ (d : Nat) (t : Int) (o : List S62), (runs N d t o).length ≤ o.length + d
  | 0, t, o => Nat.le_refl _
  | d + 1, t, o => by
    rw [runs]
    have h := runs_len (N := N) d (t + 1) (if N t = true then pushI o t else o)
    have h2 : (if N t = true then pushI o t else o).length ≤ o.length + 1 := by
      split
      · exact push_len o t
      · omega
    omega
theorem clashes_len {l m : List S95} (hl : TubeOk l) (hm : TubeOk m) (s1 s2 : Int) : (clashes l m s1 s2).length ≤ 200002 := by
  obtain ⟨r1, r2⟩ := frm_rng hl hm
  have := runs_len (N := clashB l m s1 s2) (til l m + 1 - frm l m).toNat (frm l m) []
  unfold clashes
  simp only [List.length_nil] at this
  omega
def mkC (a b : Int) (y : S62) : S64 := ⟨a, b, y.f0, wrap64 (y.f1 - 1)⟩
def rowC (x0 : List (List S95)) (s1 s2 : Int) (b a : Nat) : List S64 := (clashes (rd_L4 x0 (a : Int)) (rd_L4 x0 (b : Int)) s1 s2).map (mkC (a : Int) (b : Int))
theorem rowC_length (x0 : List (List S95)) (s1 s2 : Int) (b a : Nat) : (rowC x0 s1 s2 b a).length = (clashes (rd_L4 x0 (a : Int)) (rd_L4 x0 (b : Int)) s1 s2).length := by unfold rowC; exact List.length_map ..
def colC (x0 : List (List S95)) (s1 s2 : Int) (b : Nat) : Nat → Nat → List S64
  | 0, _ => []
  | d + 1, a => rowC x0 s1 s2 b a ++ colC x0 s1 s2 b d (a + 1)
def allC (x0 : List (List S95)) (s1 s2 : Int) : Nat → Nat → List S64
  | 0, _ => []
  | d + 1, b => colC x0 s1 s2 b b 0 ++ allC x0 s1 s2 d (b + 1)
theorem colC_len {x0 : List (List S95)} {s1 s2 : Int} (hok : ∀ j, j < x0.length → TubeOk (rd_L4 x0 (j : Int))) {b : Nat} (hb : b < x0.length) : ∀ (d a : Nat), a + d = b → (colC x0 s1 s2 b d a).length ≤ d * 200002
  | 0, a, h => by simp [colC]
  | d + 1, a, h => by
    have := colC_len (s1 := s1) (s2 := s2) hok hb d (a + 1) (by omega)
    have h2 := clashes_len (hok a (by omega)) (hok b hb) s1 s2
    rw [colC, List.length_append, rowC_length]
    omega
theorem check_l (s1 s2 : Int) (ls : List (List S95)) (hn : ls.length ≤ 1000000) : ∀ (d i : Nat), i + d = ls.length →
    ∃ e, Ev (fun k => probe_check.l0 k ls (ls.length : Int) (i : Int)) e ∧ (e = 0 → ∀ j, i ≤ j → j < ls.length → TubeOk (rd_L4 ls (j : Int)))
  | 0, i, hi => ⟨0, Ev.succ (fun k => by rw [probe_check.l0, if_neg (by omega)]) (Ev.some 0), fun _ j h1 h2 => by omega⟩
  | d + 1, i, hi => by
    obtain ⟨e1, h1, z1⟩ := tcheck (rd_L4 ls (i : Int))
    obtain ⟨e, he, hz⟩ := check_l s1 s2 ls hn d (i + 1) (by omega)
    have hst : ∀ k, probe_check.l0 (k + 1) ls (ls.length : Int) (i : Int) = (tube_Check.f k (rd_L4 ls (i : Int))).bind fun t => if t = 0 then probe_check.l0 k ls (ls.length : Int) ((i + 1 : Nat) : Int) else some t := by
      intro k
      rw [probe_check.l0, if_pos (by omega), if_pos (by omega), if_pos (by omega), w64 (x := (i : Int) + 1) (by omega) (by omega), show (i : Int) + 1 = ((i + 1 : Nat) : Int) by omega]
    by_cases c : e1 = 0
    · subst c
      refine ⟨e, Ev.succ hst (Ev.bind (⟨130, h1⟩ : Ev (fun k => tube_Check.f k (rd_L4 ls (i : Int))) 0) ?_), fun h j g1 g2 => ?_⟩
      · exact Ev.pos rfl he
      · by_cases q : j = i
        · rw [q]; exact z1 rfl
        · exact hz h j (by omega) g2
    · refine ⟨e1, Ev.succ hst (Ev.bind (⟨130, h1⟩ : Ev (fun k => tube_Check.f k (rd_L4 ls (i : Int))) e1) ?_), fun h => absurd h c⟩
      exact Ev.neg c (Ev.some _)
theorem long_al (ls : List (List S95)) (hn : ls.length ≤ 1000000) (hsz : ∀ y ∈ ls, y.length * 48 ≤ 140737488351232) : ∀ (d i : Nat), i + d = ls.length → ∃ b, Ev (fun k => skywaykeep1_long.l0 k ls (ls.length : Int) (i : Int)) b
  | 0, i, hi => ⟨false, Ev.succ (fun k => by rw [skywaykeep1_long.l0, if_neg (by omega)]) (Ev.some _)⟩
  | d + 1, i, hi => by
    have hx : (rd_L4 ls (i : Int)).length * 48 ≤ 140737488351232 := by
      have hlt : i < ls.length := by omega
      have : rd_L4 ls (i : Int) = ls[i] := by
        unfold rd_L4
        rw [Int.toNat_natCast, List.getD_eq_getElem?_getD, List.getElem?_eq_getElem hlt]
        rfl
      rw [this]
      exact hsz _ (List.getElem_mem hlt)
    obtain ⟨b, hb⟩ := long_al ls hn hsz d (i + 1) (by omega)
    have e1 : wrap64 ((i : Int) + 1) = ((i + 1 : Nat) : Int) := by rw [w64 (x := (i : Int) + 1) (by omega) (by omega)]; omega
    by_cases c1 : ((rd_L4 ls (i : Int)).length : Int) > 12
    · exact ⟨true, Ev.succ (fun k => by rw [skywaykeep1_long.l0, if_pos (by omega), if_pos (by omega), if_pos (by omega), if_pos c1]) (Ev.some _)⟩
    by_cases c2 : ((rd_L4 ls (i : Int)).length : Int) > 0
    · by_cases c3 : wrap64 (((rd_T95 (rd_L4 ls (i : Int)) (((rd_L4 ls (i : Int)).length : Int) - 1)).f0.f0) - ((rd_T95 (rd_L4 ls (i : Int)) 0).f0.f0)) > 1500
      · exact ⟨true, Ev.succ (fun k => by rw [skywaykeep1_long.l0, if_pos (by omega), if_pos (by omega), if_pos (by omega), if_neg c1, if_pos c2, w64 (x := ((rd_L4 ls (i : Int)).length : Int) - 1) (by omega) (by omega), if_pos (by omega), if_pos (by omega), if_pos (by omega), if_pos c3]) (Ev.some _)⟩
      · exact ⟨b, Ev.succ (fun k => by rw [skywaykeep1_long.l0, if_pos (by omega), if_pos (by omega), if_pos (by omega), if_neg c1, if_pos c2, w64 (x := ((rd_L4 ls (i : Int)).length : Int) - 1) (by omega) (by omega), if_pos (by omega), if_pos (by omega), if_pos (by omega), if_neg c3, e1]) hb⟩
    · exact ⟨b, Ev.succ (fun k => by rw [skywaykeep1_long.l0, if_pos (by omega), if_pos (by omega), if_pos (by omega), if_neg c1, if_neg c2, e1]) hb⟩
theorem long_all (ls : List (List S95)) (hn : ls.length ≤ 1000000) (hsz : ∀ y ∈ ls, y.length * 48 ≤ 140737488351232) : ∃ b, Ev (fun k => skywaykeep1_long.f k ls) b := by
  obtain ⟨b, hb⟩ := long_al ls hn hsz ls.length 0 (by omega)
  exact ⟨b, Ev.congr hb (fun k => rfl)⟩
theorem all2 (x0 : List (List S95)) (a b x28 x29 x32 x33 : Int) (X : List S62) (hX : X.length ≤ 1000000) (s1 s2 : Int) {r : List S64 × Int} : ∀ (d i : Nat) (x8 : List S64), i + d = X.length → x8.length + d ≤ 1000000000 →
    Ev (fun k => probe_All.l1 k x0 (x8 ++ (X.drop i).map (mkC a b)) b x28 x29 x32 (wrap64 (x33 + 1)) s1 s2) r →
    Ev (fun k => probe_All.l2 k x0 x8 b a x28 x29 x32 x33 X (X.length : Int) (i : Int) s1 s2) r
  | 0, i, x8, hi, hb, hr => by
    refine Ev.succ (fun k => ?_) hr
    rw [probe_All.l2, if_neg (by omega), List.drop_eq_nil_of_le (by omega), List.map_nil, List.append_nil]
  | d + 1, i, x8, hi, hb, hr => by
    have hlt : i < X.length := by omega
    have hrd : rd_T62 X (i : Int) = X[i] := by
      unfold rd_T62
      rw [Int.toNat_natCast, List.getD_eq_getElem?_getD, List.getElem?_eq_getElem hlt]
      rfl
    refine Ev.succ (fun k => ?_) (all2 x0 a b x28 x29 x32 x33 X hX s1 s2 d (i + 1) (x8 ++ [mkC a b X[i]]) (by omega) (by rw [List.length_append, List.length_singleton]; omega) (by
      rw [List.drop_eq_getElem_cons hlt, List.map_cons] at hr
      rw [List.append_assoc]
      exact hr))
    rw [probe_All.l2, if_pos (by omega), if_pos (by omega), if_pos (by omega), if_pos (by omega), w64 (x := (i : Int) + 1) (by omega) (by omega), show (i : Int) + 1 = ((i + 1 : Nat) : Int) by omega, hrd]
    rfl
theorem all1 {x0 : List (List S95)} {s1 s2 : Int} (hn : x0.length ≤ 24) (hok : ∀ j, j < x0.length → TubeOk (rd_L4 x0 (j : Int))) (b : Nat) (hb : b < x0.length) (x28 : Int) {r : List S64 × Int} : ∀ (d a : Nat) (x8 : List S64), a + d = b → x8.length ≤ (b * 24 + a) * 200002 →
    Ev (fun k => probe_All.l0 k x0 (x8 ++ colC x0 s1 s2 b d a) x28 (wrap64 ((b : Int) + 1)) s1 s2) r →
    Ev (fun k => probe_All.l1 k x0 x8 (b : Int) x28 (b : Int) (b : Int) (a : Int) s1 s2) r
  | 0, a, x8, hab, h1, hr => by
    refine Ev.succ (fun k => ?_) hr
    rw [probe_All.l1, if_neg (by omega), colC, List.append_nil]
  | d + 1, a, x8, hab, h1, hr => by
    have hla := hok a (by omega)
    have hlb := hok b hb
    have hlen := clashes_len hla hlb s1 s2
    have hp : Ev (fun k => probe_pair.f k (rd_L4 x0 (a : Int)) (rd_L4 x0 (b : Int)) s1 s2) (clashes (rd_L4 x0 (a : Int)) (rd_L4 x0 (b : Int)) s1 s2) := ⟨201000, fun k hk => pair_f hla hlb s1 s2 k hk⟩
    refine Ev.succ (fun k => ?_) (hp.bind (g := fun k t => probe_All.l2 k x0 x8 (b : Int) (a : Int) x28 (b : Int) (b : Int) (a : Int) t (t.length : Int) 0 s1 s2) ?_)
    · rw [probe_All.l1, if_pos (by omega), if_pos (by omega), if_pos (by omega), if_pos (by omega), if_pos (by omega)]
    · refine all2 x0 (a : Int) (b : Int) x28 (b : Int) (b : Int) (a : Int) _ (by omega) s1 s2 (clashes (rd_L4 x0 (a : Int)) (rd_L4 x0 (b : Int)) s1 s2).length 0 x8 (by omega) (by omega) ?_
      rw [List.drop_zero, w64 (x := (a : Int) + 1) (by omega) (by omega), show (a : Int) + 1 = ((a + 1 : Nat) : Int) by omega]
      refine all1 hn hok b hb x28 d (a + 1) _ (by omega) ?_ ?_
      · rw [List.length_append, List.length_map]
        omega
      · rw [colC, ← List.append_assoc] at hr
        exact hr
theorem all0 {x0 : List (List S95)} {s1 s2 : Int} (hn : x0.length ≤ 24) (hok : ∀ j, j < x0.length → TubeOk (rd_L4 x0 (j : Int))) {r : List S64 × Int} : ∀ (d b : Nat) (x8 : List S64), b + d = x0.length → x8.length ≤ (b * 24) * 200002 →
    (if (((x8 ++ allC x0 s1 s2 d b).length : Nat) : Int) > 256 then some (([] : List S64), 2) else ((api_Clash.f (x8 ++ allC x0 s1 s2 d b) ()).bind fun t => some (t, 0))) = some r →
    Ev (fun k => probe_All.l0 k x0 x8 (x0.length : Int) (b : Int) s1 s2) r
  | 0, b, x8, hb, h1, hr => by
    refine Ev.succ (fun k => ?_) (Ev.const hr)
    rw [probe_All.l0, if_neg (by omega), allC, List.append_nil]
  | d + 1, b, x8, hb, h1, hr => by
    have hlen := colC_len (s1 := s1) (s2 := s2) hok (show b < x0.length by omega) b 0 (by omega)
    have h2 := all1 (s1 := s1) (s2 := s2) hn hok b (by omega) (x0.length : Int) (r := r) b 0 x8 (by omega) (by omega) (by
      rw [w64 (x := (b : Int) + 1) (by omega) (by omega), show (b : Int) + 1 = ((b + 1 : Nat) : Int) by omega]
      refine all0 hn hok d (b + 1) _ (by omega) (by rw [List.length_append]; omega) ?_
      rw [allC, ← List.append_assoc] at hr
      exact hr)
    refine Ev.succ (fun k => ?_) h2
    rw [probe_All.l0, if_pos (by omega)]
    rfl
theorem All_f (ls : List (List S95)) (hn : ls.length ≤ 24) (s1 s2 : Int) : ∃ z, Ev (fun k => probe_All.f k ls s1 s2) z ∧ ((z.2 ≠ 0 ∧ z.1 = []) ∨
    (z.2 = 0 ∧ z.1 = sortedS (allC ls s1 s2 ls.length 0) ∧ probe_CheckSep.f s1 s2 = some 0 ∧ (∀ j, j < ls.length → TubeOk (rd_L4 ls (j : Int))) ∧ (allC ls s1 s2 ls.length 0).length ≤ 256)) := by
  obtain ⟨e1, h1, _⟩ := checksep_f s1 s2
  by_cases c1 : e1 = 0
  · subst c1
    obtain ⟨e2, h2, z2⟩ := check_l s1 s2 ls (by omega) ls.length 0 (by omega)
    have h2' : Ev (fun k => probe_check.f k s1 s2 ls) e2 := Ev.congr h2 (fun k => by unfold probe_check.f; rw [h1, Option.bind_some, if_pos rfl]; rfl)
    by_cases c2 : e2 = 0
    · subst c2
      have hok : ∀ j, j < ls.length → TubeOk (rd_L4 ls (j : Int)) := fun j hj => z2 rfl j (Nat.zero_le _) hj
      have fin : ∀ z, Ev (fun k => probe_All.l0 k ls [] (ls.length : Int) ((0 : Nat) : Int) s1 s2) z → Ev (fun k => probe_All.f k ls s1 s2) z := by
        intro z hz
        refine Ev.congr (g := fun k => (probe_check.f k s1 s2 ls).bind fun t => if t = 0 then probe_All.l0 k ls [] (ls.length : Int) 0 s1 s2 else some ([], t)) ?_ (fun k => by
          unfold probe_All.f
          rw [h1, Option.bind_some, if_pos rfl, if_neg (by omega)])
        refine Ev.bind h2' ?_
        exact Ev.pos rfl hz
      by_cases c3 : (((allC ls s1 s2 ls.length 0).length : Nat) : Int) > 256
      · exact ⟨([], 2), fin _ (all0 hn hok ls.length 0 [] (by omega) (Nat.zero_le _) (by rw [List.nil_append, if_pos c3])), Or.inl ⟨by decide, rfl⟩⟩
      · refine ⟨(sortedS (allC ls s1 s2 ls.length 0), 0), fin _ (all0 hn hok ls.length 0 [] (by omega) (Nat.zero_le _) ?_), Or.inr ⟨rfl, rfl, h1, hok, by omega⟩⟩
        rw [List.nil_append, if_neg c3]
        unfold api_Clash.f
        rw [if_pos (by omega), Option.bind_some]
    · refine ⟨([], e2), ?_, Or.inl ⟨c2, rfl⟩⟩
      refine Ev.congr (g := fun k => (probe_check.f k s1 s2 ls).bind fun t => if t = 0 then probe_All.l0 k ls [] (ls.length : Int) 0 s1 s2 else some ([], t)) ?_ (fun k => by
        unfold probe_All.f
        rw [h1, Option.bind_some, if_pos rfl, if_neg (by omega)])
      refine Ev.bind h2' ?_
      exact Ev.neg c2 (Ev.some _)
  · refine ⟨([], e1), ⟨0, fun k _ => ?_⟩, Or.inl ⟨c1, rfl⟩⟩
    simp only [probe_All.f, h1, Option.bind_some, if_neg c1]
abbrev SC : Type := S64
theorem l3_true (x0 : List (List S95)) (S : List SC) (hS : S.length ≤ 1000000) (x7 x8 x9 x39 x40 x43 x44 : Int) (x66 : List S62) (x67 x68 s1 s2 y0 y1 : Int) {r : Bool}
    (hr : Ev (fun k => skywaykeep1_ProbeAll.l2 k x0 S x7 x8 x9 x39 x40 x43 x44 x66 x67 (wrap64 (x68 + 1)) s1 s2) r) : ∀ (d i : Nat), i + d = S.length →
    Ev (fun k => skywaykeep1_ProbeAll.l3 k x0 S x7 x8 x9 true x39 x40 x43 x44 x66 x67 x68 S (S.length : Int) (i : Int) s1 s2 y0 y1) r
  | 0, i, hi => by
    refine Ev.succ (fun k => ?_) hr
    rw [skywaykeep1_ProbeAll.l3, if_neg (by omega), if_pos rfl]
  | d + 1, i, hi => by
    refine Ev.succ (fun k => ?_) (l3_true x0 S hS x7 x8 x9 x39 x40 x43 x44 x66 x67 x68 s1 s2 y0 y1 hr d (i + 1) (by omega))
    rw [skywaykeep1_ProbeAll.l3, if_pos (by omega), if_pos (by omega), if_pos (by omega), if_pos rfl, w64 (x := (i : Int) + 1) (by omega) (by omega), show (i : Int) + 1 = ((i + 1 : Nat) : Int) by omega]
theorem l3_find (x0 : List (List S95)) (S : List SC) (hS : S.length ≤ 1000000) (x7 x8 x9 x39 x40 x43 x44 : Int) (x66 : List S62) (x67 x68 s1 s2 y0 y1 : Int) {r : Bool}
    (hr : Ev (fun k => skywaykeep1_ProbeAll.l2 k x0 S x7 x8 x9 x39 x40 x43 x44 x66 x67 (wrap64 (x68 + 1)) s1 s2) r) : ∀ (d i : Nat), i + d = S.length → (⟨x9, x8, y0, wrap64 (y1 - 1)⟩ : SC) ∈ S.drop i →
    Ev (fun k => skywaykeep1_ProbeAll.l3 k x0 S x7 x8 x9 false x39 x40 x43 x44 x66 x67 x68 S (S.length : Int) (i : Int) s1 s2 y0 y1) r
  | 0, i, hi, hm => by
    rw [List.drop_eq_nil_of_le (by omega)] at hm
    cases hm
  | d + 1, i, hi, hm => by
    have hlt : i < S.length := by omega
    have hrd : rd_T64 S (i : Int) = S[i] := by
      unfold rd_T64
      rw [Int.toNat_natCast, List.getD_eq_getElem?_getD, List.getElem?_eq_getElem hlt]
      rfl
    rw [List.drop_eq_getElem_cons hlt, List.mem_cons] at hm
    have hst : ∀ k, skywaykeep1_ProbeAll.l3 (k + 1) x0 S x7 x8 x9 false x39 x40 x43 x44 x66 x67 x68 S (S.length : Int) (i : Int) s1 s2 y0 y1 = skywaykeep1_ProbeAll.l3 k x0 S x7 x8 x9 (S[i].f0 == x9 && (S[i].f1 == x8 && (S[i].f2 == y0 && S[i].f3 == wrap64 (y1 - 1)))) x39 x40 x43 x44 x66 x67 x68 S (S.length : Int) ((i + 1 : Nat) : Int) s1 s2 y0 y1 := by
      intro k
      rw [skywaykeep1_ProbeAll.l3, if_pos (by omega), if_pos (by omega), if_pos (by omega), if_neg (by decide), w64 (x := (i : Int) + 1) (by omega) (by omega), show (i : Int) + 1 = ((i + 1 : Nat) : Int) by omega, hrd]
    refine Ev.succ hst ?_
    by_cases c : (S[i].f0 == x9 && (S[i].f1 == x8 && (S[i].f2 == y0 && S[i].f3 == wrap64 (y1 - 1)))) = true
    · rw [c]
      exact l3_true x0 S hS x7 x8 x9 x39 x40 x43 x44 x66 x67 x68 s1 s2 y0 y1 hr d (i + 1) (by omega)
    · rcases hm with h | h
      · rw [← h] at c
        simp at c
      · rw [Bool.eq_false_iff.mpr c]
        exact l3_find x0 S hS x7 x8 x9 x39 x40 x43 x44 x66 x67 x68 s1 s2 y0 y1 hr d (i + 1) (by omega) h
theorem law2 (x0 : List (List S95)) (S : List SC) (hS : S.length ≤ 1000000) (x7 x8 x9 x39 x40 x43 x44 : Int) (X : List S62) (hX : X.length ≤ 1000000) (s1 s2 : Int) {r : Bool}
    (hr : Ev (fun k => skywaykeep1_ProbeAll.l1 k x0 S x7 x8 x39 x40 x43 (wrap64 (x44 + 1)) s1 s2) r) (hm : ∀ y ∈ X, mkC x9 x8 y ∈ S) : ∀ (d i : Nat), i + d = X.length →
    Ev (fun k => skywaykeep1_ProbeAll.l2 k x0 S x7 x8 x9 x39 x40 x43 x44 X (X.length : Int) (i : Int) s1 s2) r
  | 0, i, hi => by
    refine Ev.succ (fun k => ?_) hr
    rw [skywaykeep1_ProbeAll.l2, if_neg (by omega)]
  | d + 1, i, hi => by
    have hlt : i < X.length := by omega
    have hrd : rd_T62 X (i : Int) = X[i] := by
      unfold rd_T62
      rw [Int.toNat_natCast, List.getD_eq_getElem?_getD, List.getElem?_eq_getElem hlt]
      rfl
    have h2 := law2 x0 S hS x7 x8 x9 x39 x40 x43 x44 X hX s1 s2 hr hm d (i + 1) (by omega)
    have hst : ∀ k, skywaykeep1_ProbeAll.l2 (k + 1) x0 S x7 x8 x9 x39 x40 x43 x44 X (X.length : Int) (i : Int) s1 s2 = skywaykeep1_ProbeAll.l3 k x0 S x7 x8 x9 false x39 x40 x43 x44 X (X.length : Int) (i : Int) S (S.length : Int) ((0 : Nat) : Int) s1 s2 X[i].f0 X[i].f1 := by
      intro k
      rw [skywaykeep1_ProbeAll.l2, if_pos (by omega), if_pos (by omega), if_pos (by omega), hrd]
      rfl
    refine Ev.succ hst (l3_find x0 S hS x7 x8 x9 x39 x40 x43 x44 X (X.length : Int) (i : Int) s1 s2 X[i].f0 X[i].f1 ?_ S.length 0 (by omega) ?_)
    · rw [w64 (x := (i : Int) + 1) (by omega) (by omega), show (i : Int) + 1 = ((i + 1 : Nat) : Int) by omega]
      exact h2
    · rw [List.drop_zero]
      exact hm X[i] (List.getElem_mem hlt)
theorem law1 {x0 : List (List S95)} {S : List SC} (hS : S.length ≤ 1000000) {s1 s2 : Int} (hsep : probe_CheckSep.f s1 s2 = some 0) (hn : x0.length ≤ 5) (hok : ∀ j, j < x0.length → TubeOk (rd_L4 x0 (j : Int))) (b : Nat) (hb : b < x0.length) (x39 : Int) {r : Bool} : ∀ (d a : Nat) (x7 : Int), a + d = b → 0 ≤ x7 → x7 ≤ ((b : Int) * 5 + (a : Int)) * 200002 →
    (∀ z ∈ colC x0 s1 s2 b d a, z ∈ S) → Ev (fun k => skywaykeep1_ProbeAll.l0 k x0 S (x7 + ((colC x0 s1 s2 b d a).length : Int)) x39 (wrap64 ((b : Int) + 1)) s1 s2) r →
    Ev (fun k => skywaykeep1_ProbeAll.l1 k x0 S x7 (b : Int) x39 (b : Int) (b : Int) (a : Int) s1 s2) r := by
  intro d
  induction d with
  | zero =>
    intro a x7 hab h0 h1 hm hr
    refine Ev.succ (fun k => ?_) hr
    have e : ((colC x0 s1 s2 b 0 a).length : Int) = 0 := rfl
    rw [skywaykeep1_ProbeAll.l1, if_neg (by omega), e, Int.add_zero]
  | succ d ih =>
    intro a x7 hab h0 h1 hm hr
    have hla := hok a (by omega)
    have hlb := hok b hb
    have hlen := clashes_len hla hlb s1 s2
    obtain ⟨es, el, em, e1, e2, e3, z1, z2, z3, yes, no⟩ := Pair_f (rd_L4 x0 (a : Int)) (rd_L4 x0 (b : Int)) s1 s2
    obtain rfl : es = 0 := Option.some.inj (e1.symm.trans hsep)
    obtain rfl : el = 0 := Option.some.inj (e2.symm.trans (tcheck_yes hla 130 (by decide)))
    obtain rfl : em = 0 := Option.some.inj (e3.symm.trans (tcheck_yes hlb 130 (by decide)))
    have hp : Ev (fun k => probe_Pair.f k (rd_L4 x0 (a : Int)) (rd_L4 x0 (b : Int)) s1 s2) (clashes (rd_L4 x0 (a : Int)) (rd_L4 x0 (b : Int)) s1 s2, 0) := ⟨201000, fun k hk => yes rfl rfl rfl k hk⟩
    refine Ev.succ (fun k => ?_) (hp.bind (g := fun k bt => if bt.2 = 0 then skywaykeep1_ProbeAll.l2 k x0 S (wrap64 (x7 + (bt.1.length : Int))) (b : Int) (a : Int) x39 (b : Int) (b : Int) (a : Int) bt.1 (bt.1.length : Int) 0 s1 s2 else some false) ?_)
    · rw [skywaykeep1_ProbeAll.l1, if_pos (by omega), if_pos (by omega), if_pos (by omega), if_pos (by omega), if_pos (by omega)]
    · refine Ev.pos rfl ?_
      dsimp only
      rw [w64 (x := x7 + _) (by omega) (by omega)]
      refine law2 x0 S hS _ (b : Int) (a : Int) x39 (b : Int) (b : Int) (a : Int) _ (by omega) s1 s2 ?_ ?_ (clashes (rd_L4 x0 (a : Int)) (rd_L4 x0 (b : Int)) s1 s2).length 0 (by omega)
      · rw [w64 (x := (a : Int) + 1) (by omega) (by omega), show (a : Int) + 1 = ((a + 1 : Nat) : Int) by omega]
        refine ih (a + 1) _ (by omega) (by omega) ?_ ?_ ?_
        · omega
        · intro z hz
          exact hm z (by rw [colC]; exact List.mem_append_right _ hz)
        · rw [colC, List.length_append, rowC_length] at hr
          have e : x7 + (((clashes (rd_L4 x0 (a : Int)) (rd_L4 x0 (b : Int)) s1 s2).length + (colC x0 s1 s2 b d (a + 1)).length : Nat) : Int) = x7 + ((clashes (rd_L4 x0 (a : Int)) (rd_L4 x0 (b : Int)) s1 s2).length : Int) + ((colC x0 s1 s2 b d (a + 1)).length : Int) := by omega
          rw [e] at hr
          exact hr
      · intro y hy
        refine hm _ ?_
        rw [colC]
        refine List.mem_append_left _ ?_
        unfold rowC
        exact List.mem_map.2 ⟨y, hy, rfl⟩
theorem law0 {x0 : List (List S95)} {S : List SC} (hS : S.length ≤ 1000000) {s1 s2 : Int} (hsep : probe_CheckSep.f s1 s2 = some 0) (hn : x0.length ≤ 5) (hok : ∀ j, j < x0.length → TubeOk (rd_L4 x0 (j : Int))) {r : Bool} : ∀ (d b : Nat) (x7 : Int), b + d = x0.length → 0 ≤ x7 → x7 ≤ ((b : Int) * 5) * 200002 →
    (∀ z ∈ allC x0 s1 s2 d b, z ∈ S) → Ev (fun k => skywaykeep1_ProbeAll.l4 k S (x7 + ((allC x0 s1 s2 d b).length : Int)) 1) r →
    Ev (fun k => skywaykeep1_ProbeAll.l0 k x0 S x7 (x0.length : Int) (b : Int) s1 s2) r := by
  intro d
  induction d with
  | zero =>
    intro b x7 hb h0 h1 hm hr
    refine Ev.succ (fun k => ?_) hr
    have e : ((allC x0 s1 s2 0 b).length : Int) = 0 := rfl
    rw [skywaykeep1_ProbeAll.l0, if_neg (by omega), e, Int.add_zero]
  | succ d ih =>
    intro b x7 hb h0 h1 hm hr
    have hlen := colC_len (s1 := s1) (s2 := s2) hok (show b < x0.length by omega) b 0 (by omega)
    have h2 := law1 hS hsep hn hok b (by omega) (x0.length : Int) (r := r) b 0 x7 (by omega) h0 (by omega) (fun z hz => hm z (by rw [allC]; exact List.mem_append_left _ hz)) (by
      rw [w64 (x := (b : Int) + 1) (by omega) (by omega), show (b : Int) + 1 = ((b + 1 : Nat) : Int) by omega]
      refine ih (b + 1) _ (by omega) (by omega) (by omega) (fun z hz => hm z (by rw [allC]; exact List.mem_append_right _ hz)) ?_
      rw [allC, List.length_append] at hr
      have e : x7 + (((colC x0 s1 s2 b b 0).length + (allC x0 s1 s2 d (b + 1)).length : Nat) : Int) = x7 + ((colC x0 s1 s2 b b 0).length : Int) + ((allC x0 s1 s2 d (b + 1)).length : Int) := by omega
      rw [e] at hr
      exact hr)
    refine Ev.succ (fun k => ?_) h2
    rw [skywaykeep1_ProbeAll.l0, if_pos (by omega)]
    rfl
theorem law4 (S : List SC) (hS : S.length ≤ 1000000) (hs : S.Pairwise fun x y => ¬ ltC y x) : ∀ (d i : Nat), i + d = S.length → 0 < i → Ev (fun k => skywaykeep1_ProbeAll.l4 k S (S.length : Int) (i : Int)) true
  | 0, i, hi, h0 => by
    refine Ev.succ (fun k => ?_) (Ev.some true)
    rw [skywaykeep1_ProbeAll.l4, if_neg (by omega)]
    simp
  | d + 1, i, hi, h0 => by
    have hlt : i < S.length := by omega
    have hrd : ∀ j (hj : j < S.length), rd_T64 S (j : Int) = S[j] := by
      intro j hj
      unfold rd_T64
      rw [Int.toNat_natCast, List.getD_eq_getElem?_getD, List.getElem?_eq_getElem hj]
      rfl
    have hp := (List.pairwise_iff_getElem.1 hs) (i - 1) i (by omega) hlt (by omega)
    refine Ev.succ (fun k => ?_) (law4 S hS hs d (i + 1) (by omega) (by omega))
    rw [skywaykeep1_ProbeAll.l4, w64 (x := (i : Int) - 1) (by omega) (by omega), w64 (x := (i : Int) + 1) (by omega) (by omega), show (i : Int) - 1 = ((i - 1 : Nat) : Int) by omega, show (i : Int) + 1 = ((i + 1 : Nat) : Int) by omega, if_pos (by omega), if_pos (by omega), if_pos (by omega), if_pos (by omega), hrd i hlt, hrd (i - 1) (by omega), if_neg]
    intro c
    exact hp (Or.inl c)
theorem law4_all (S : List SC) (hS : S.length ≤ 1000000) (hs : S.Pairwise fun x y => ¬ ltC y x) : Ev (fun k => skywaykeep1_ProbeAll.l4 k S (S.length : Int) 1) true := by
  rcases Nat.lt_or_ge 0 S.length with h | h
  · exact law4 S hS hs (S.length - 1) 1 (by omega) (by omega)
  · refine Ev.succ (fun k => ?_) (Ev.some true)
    rw [skywaykeep1_ProbeAll.l4, if_neg (by omega)]
    simp
theorem ProbeAll : skywaykeep1_ProbeAll.Pure := by
  intro ls0 s1 s2 hl _ _
  have hmn : 0 ≤ mn (ls0.length : Int) 5 ∧ mn (ls0.length : Int) 5 ≤ (ls0.length : Int) ∧ mn (ls0.length : Int) 5 ≤ 5 := by unfold mn; split <;> omega
  obtain ⟨ls, hls⟩ : ∃ ls, ls = ls0.take (mn (ls0.length : Int) 5).toNat := ⟨_, rfl⟩
  have hn : ls.length ≤ 5 := by rw [hls, List.length_take]; omega
  have hsz : ∀ y ∈ ls, y.length * 48 ≤ 140737488351232 := fun y hy => (hl.2 y (List.mem_of_mem_take (by rw [hls] at hy; exact hy))).1
  obtain ⟨b, hb⟩ := long_all ls (by omega) hsz
  obtain ⟨e, he, hz⟩ := All_f ls (by omega) s1 s2
  refine Ev.ex (r := true) ?_
  refine Ev.congr (g := fun k => (skywaykeep1_probeWorks.f k).bind fun t316 => (if t316 = true then ((skywaykeep1_long.f k ls).bind fun t317 => (if t317 = true then (some true) else ((probe_All.f k ls s1 s2).bind fun bt318 => (if bt318.2 = 0 then (skywaykeep1_ProbeAll.l0 k ls bt318.1 0 (ls.length : Int) 0 s1 s2) else (some ((bt318.1.length : Int) == 0)))))) else (some false))) ?_ (fun k => by
    unfold skywaykeep1_ProbeAll.f
    rw [if_pos hmn.1, if_pos hmn.2.1, Option.bind_some, ← hls])
  refine Ev.bind (⟨400, fun k hk => works k hk⟩ : Ev (fun k => skywaykeep1_probeWorks.f k) true) (Ev.pos rfl ?_)
  refine Ev.bind hb ?_
  by_cases c : b = true
  · exact Ev.pos c (Ev.some _)
  refine Ev.neg c (Ev.bind he ?_)
  rcases hz with ⟨h1, h2⟩ | ⟨h1, h2, h3, h4, h5⟩
  · refine Ev.neg h1 ?_
    rw [h2]
    exact Ev.some _
  · refine Ev.pos h1 ?_
    rw [h2]
    have hlen : (sortedS (allC ls s1 s2 ls.length 0)).length = (allC ls s1 s2 ls.length 0).length := sortedS_length _
    refine law0 (by omega) h3 hn h4 ls.length 0 0 (by omega) (by omega) (by omega) (fun z hz => (sortedS_perm _).mem_iff.2 hz) ?_
    rw [Int.zero_add, ← hlen]
    exact law4_all _ (by omega) (sortedS_sorted _)
end Go.Proofs.Ythghilclgobpbaa.Pure
