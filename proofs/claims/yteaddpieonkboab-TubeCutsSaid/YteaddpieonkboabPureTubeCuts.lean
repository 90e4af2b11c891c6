/- TubeCuts: for all tubes and times, a part of a tube is a tube that begins and ends as asked for, its nodes differ from those of the tube by at most one, and not at the ends. -/
import Derived.Test.YteaddpieonkboabPTubeCutsx
import Derived.Test.YteaddpieonkboabMath
namespace Go.Proofs.Yteaddpieonkboab.Pure
open Go Go.RowKit Go.Proofs.Yteaddpieonkboab.PTubeCuts Go.Proofs.YteaddpieonkboabW.PrintWords Go.Proofs.YteaddpieonkboabW.PrintLast Go.Proofs.YteaddpieonkboabM

/-- A permitted coordinate. -/
def Ok (x y : Int) : Prop := -1000000 ≤ x ∧ x ≤ 1000000 ∧ -1000000 ≤ y ∧ y ≤ 1000000
instance (x y : Int) : Decidable (Ok x y) := inferInstanceAs (Decidable (_ ∧ _))
theorem down (k : Nat) (a b : Int) (a1 : -9223372036854775808 ≤ a) (a2 : a ≤ 9223372036854775807) (hb : b ≠ 0) (hno : ¬ (a = -9223372036854775808 ∧ b = -1)) : num_DivDown.f (k + 1) a b = some (Int.fdiv a b, 0) := by
  obtain ⟨r1, r2⟩ := fdiv_range a1 a2 hb hno
  have hf := tdiv_floor a b hb
  have main : num_DivDown.j0 (k + 1) a b false = some (Int.fdiv a b, 0) := by
    rw [num_DivDown.j0, if_neg (by decide), if_neg hb]
    by_cases h0 : Int.tmod a b = 0
    · rw [if_pos h0] at hf ⊢
      rw [hf, w64 r1 r2]
    · rw [if_neg h0] at hf ⊢
      by_cases hs : ((decide (a < 0)) != (decide (b < 0))) = true
      · rw [if_pos hs] at hf ⊢
        have ht : -9223372036854775808 ≤ Int.tdiv a b ∧ Int.tdiv a b ≤ 9223372036854775807 := by
          refine ⟨by omega, ?_⟩
          have h1 := Int.tdiv_nonpos_of_nonneg_of_nonpos (a := a) (b := b)
          by_cases ha : a < 0
          · have hb' : 0 < b := by
              simp [ha] at hs
              omega
            have h2 : Int.tdiv a b ≤ 0 := by
              have := Int.tdiv_nonneg (a := -a) (b := b) (by omega) (by omega)
              rw [Int.neg_tdiv] at this
              omega
            omega
          · have hb' : b < 0 := by
              simp [ha] at hs
              exact hs
            have := h1 (by omega) (by omega)
            omega
        rw [w64 ht.1 ht.2, hf, w64 r1 r2]
      · rw [if_neg hs] at hf ⊢
        rw [hf, w64 r1 r2]
  rw [num_DivDown.f, if_neg hb]
  by_cases ha : a = -9223372036854775808
  · rw [if_pos ha]
    have : (b == -1) = false := beq_eq_false_iff_ne.mpr (fun h => hno ⟨ha, h⟩)
    rw [this]
    exact main
  · rw [if_neg ha]
    exact main
theorem down_pos (k : Nat) (a b : Int) (a1 : -9223372036854775808 ≤ a) (a2 : a ≤ 9223372036854775807) (hb : 0 < b) : num_DivDown.f (k + 1) a b = some (a / b, 0) := by
  rw [down k a b a1 a2 (by omega) (by omega), fdiv_pos hb]
theorem up (k : Nat) (a b : Int) (a1 : -9223372036854775808 ≤ a) (a2 : a ≤ 9223372036854775807) (hb : b ≠ 0) (hno : ¬ (a = -9223372036854775808 ∧ b = -1)) : num_DivUp.f (k + 1) a b = some (if Int.tmod a b = 0 then Int.fdiv a b else Int.fdiv a b + 1, 0) := by
  rw [num_DivUp.f, down k a b a1 a2 hb hno]
  simp only [Option.bind_some, if_true]
  rw [if_neg hb]
  by_cases h0 : Int.tmod a b = 0
  · rw [if_pos h0, if_pos h0]
  · rw [if_neg h0, if_neg h0]
    obtain ⟨r1, r2⟩ := fdiv_range a1 a2 hb hno
    have : Int.fdiv a b < 9223372036854775807 := by
      rcases Int.lt_or_le (Int.fdiv a b) 9223372036854775807 with h | h
      · exact h
      · exfalso
        have e : Int.fdiv a b = 9223372036854775807 := by omega
        have hm := Int.mul_fdiv_add_fmod a b
        rw [e] at hm
        have hn : Int.fmod a b ≠ 0 := fun h => h0 (Int.dvd_iff_tmod_eq_zero.1 (Int.dvd_iff_fmod_eq_zero.2 h))
        rcases Int.lt_or_le 0 b with hp | hp
        · have := Int.fmod_nonneg_of_pos a hp
          have := Int.fmod_lt_of_pos a hp
          omega
        · have h1 := Int.mul_fdiv_add_fmod (-a) (-b)
          rw [Int.neg_fdiv_neg, e] at h1
          have := Int.fmod_nonneg_of_pos (-a) (show 0 < -b by omega)
          have := Int.fmod_lt_of_pos (-a) (show 0 < -b by omega)
          omega
    rw [w64 (by omega) (by omega)]
theorem up_pos (k : Nat) (a b : Int) (a1 : -9223372036854775808 ≤ a) (a2 : a ≤ 9223372036854775807) (hb : 0 < b) : num_DivUp.f (k + 1) a b = some (if a % b = 0 then a / b else a / b + 1, 0) := by
  rw [up k a b a1 a2 (by omega) (by omega), fdiv_pos hb]
  have : Int.tmod a b = 0 ↔ a % b = 0 := by rw [← Int.dvd_iff_tmod_eq_zero]; exact Int.dvd_iff_emod_eq_zero
  by_cases h : a % b = 0
  · rw [if_pos h, if_pos (this.2 h)]
  · rw [if_neg h, if_neg (fun g => h (this.1 g))]
theorem check_f (x y : Int) : plane_Check.f x y = some (if Ok x y then 0 else 4) := by
  unfold plane_Check.f
  by_cases c : Ok x y
  · rw [if_pos c]
    obtain ⟨c1, c2, c3, c4⟩ := c
    rw [if_neg (by omega), if_neg (by omega), if_neg (by omega), if_neg (by omega)]
  · rw [if_neg c]
    by_cases c1 : x < -1000000
    · rw [if_pos c1]
    · rw [if_neg c1]
      by_cases c2 : x > 1000000
      · rw [if_pos c2]
      · rw [if_neg c2]
        by_cases c3 : y < -1000000
        · rw [if_pos c3]
        · rw [if_neg c3, if_pos (by
            rcases Int.lt_or_le 1000000 y with h | h
            · exact h
            · exact absurd (show Ok x y from ⟨by omega, by omega, by omega, h⟩) c)]
theorem toward_bad (k : Nat) {ax ay bx b_y n d : Int} (h0 : 0 < d) (h1 : d ≤ 200000) (h2 : 0 ≤ n) (h3 : n ≤ d) (h : ¬ (Ok ax ay ∧ Ok bx b_y)) : plane_Toward.f (k + 2) ax ay bx b_y n d = some (0, 0, 4) := by
  unfold plane_Toward.f
  rw [if_neg (by omega), if_neg (by omega), if_neg (by omega), if_neg (by omega), check_f, check_f, Option.bind_some, Option.bind_some]
  by_cases ha : Ok ax ay
  · have hb : ¬ Ok bx b_y := fun hb => h ⟨ha, hb⟩
    rw [if_pos ha, if_neg hb, if_pos rfl, plane_Toward.j0, if_pos (by decide)]
  · rw [if_neg ha, if_neg (by decide), plane_Toward.j0, if_pos rfl]
theorem lin_bd {D n d : Int} (h0 : 0 < d) (h1 : d ≤ 200000) (h2 : 0 ≤ n) (h3 : n ≤ d) (h4 : -2000000 ≤ D) (h5 : D ≤ 2000000) :
    -400000000000 ≤ D * n ∧ D * n ≤ 400000000000 ∧ -2000000 ≤ D * n / d ∧ D * n / d ≤ 2000000 := by
  have m := mul_bd h4 h5 (show -200000 ≤ n by omega) (show n ≤ 200000 by omega)
  refine ⟨by omega, by omega, (Int.le_ediv_iff_mul_le h0).2 ?_, ?_⟩
  · have h6 := Int.mul_le_mul_of_nonneg_left h3 (show (0 : Int) ≤ 2000000 by decide)
    have h7 := Int.mul_nonneg (show 0 ≤ D + 2000000 by omega) h2
    rw [Int.add_mul] at h7
    omega
  · have : D * n / d < 2000001 := by
      refine (Int.ediv_lt_iff_lt_mul h0).2 ?_
      have h6 := Int.mul_le_mul_of_nonneg_left h3 (show (0 : Int) ≤ 2000000 by decide)
      have h7 := Int.mul_nonneg (show 0 ≤ 2000000 - D by omega) h2
      rw [Int.sub_mul] at h7
      omega
    omega
theorem toward (k : Nat) {ax ay bx b_y n d : Int} (h0 : 0 < d) (h1 : d ≤ 200000) (h2 : 0 ≤ n) (h3 : n ≤ d) (ha : Ok ax ay) (hb : Ok bx b_y) :
    plane_Toward.f (k + 2) ax ay bx b_y n d = some (ax + (bx - ax) * n / d, ay + (b_y - ay) * n / d, 0) := by
  obtain ⟨a1, a2, a3, a4⟩ := id ha
  obtain ⟨b1, b2, b3, b4⟩ := id hb
  obtain ⟨m1, m2, m3, m4⟩ := lin_bd h0 h1 h2 h3 (show -2000000 ≤ bx - ax by omega) (show bx - ax ≤ 2000000 by omega)
  obtain ⟨n1, n2, n3, n4⟩ := lin_bd h0 h1 h2 h3 (show -2000000 ≤ b_y - ay by omega) (show b_y - ay ≤ 2000000 by omega)
  unfold plane_Toward.f
  rw [if_neg (by omega), if_neg (by omega), if_neg (by omega), if_neg (by omega), check_f, check_f, Option.bind_some, Option.bind_some, if_pos ha, if_pos hb, if_pos rfl, plane_Toward.j0, if_neg (by decide)]
  rw [w64 (x := bx - ax) (by omega) (by omega), w64 (x := b_y - ay) (by omega) (by omega), w64 (x := (bx - ax) * n) (by omega) (by omega), w64 (x := (b_y - ay) * n) (by omega) (by omega)]
  rw [down_pos k _ d (by omega) (by omega) h0, down_pos k _ d (by omega) (by omega) h0, Option.bind_some, Option.bind_some, w64 (by omega) (by omega), w64 (by omega) (by omega)]
/-- Node i of a tube. -/
def Tn (l : List S30) (i : Nat) : S30 := rd_T30 l (i : Int)
def NodeT (l : List S30) (j : Nat) : Prop :=
  (0 ≤ (Tn l j).f0.f0 ∧ (Tn l j).f0.f0 ≤ 200000) ∧ (0 < j → (Tn l (j - 1)).f0.f0 < (Tn l j).f0.f0) ∧ Ok (Tn l j).f0.f1.f0 (Tn l j).f0.f1.f1 ∧ (0 ≤ (Tn l j).f0.f2 ∧ (Tn l j).f0.f2 ≤ 60000) ∧ (0 ≤ (Tn l j).f1 ∧ (Tn l j).f1 ≤ 1000000) ∧ 0 ≤ (Tn l j).f2 ∧ (Tn l j).f2 ≤ 60000
theorem tcheck_l (l : List S30) (hl : l.length ≤ 64) : ∀ (d k i : Nat), i + d = l.length → 2 * d + 1 ≤ k →
    ∃ e, tube_Check.l0 k l l (l.length : Int) (i : Int) = some e ∧ (e = 0 → ∀ j, i ≤ j → j < l.length → NodeT l j)
  | 0, k, i, hi, hk => by
    obtain ⟨k, rfl⟩ : ∃ m, k = m + 1 := ⟨k - 1, by omega⟩
    rw [tube_Check.l0, if_neg (by omega)]
    exact ⟨0, rfl, fun _ j h1 h2 => by omega⟩
  | d + 1, k, i, hi, hk => by
    obtain ⟨k, rfl⟩ : ∃ m, k = m + 2 := ⟨k - 2, by omega⟩
    have hlt : i < l.length := by omega
    have hN : rd_T30 l (i : Int) = Tn l i := rfl
    obtain ⟨e', ih, ihz⟩ := tcheck_l l hl d k (i + 1) (by omega) (by omega)
    have j1 : ∀ b : Bool, (b = false → 0 ≤ (Tn l i).f0.f0 ∧ (Tn l i).f0.f0 ≤ 200000 ∧ (0 < i → (Tn l (i - 1)).f0.f0 < (Tn l i).f0.f0)) → ∃ e, tube_Check.j1 (k + 1) l l (l.length : Int) (i : Int) b (Tn l i).f0.f0 (Tn l i).f0.f1.f0 (Tn l i).f0.f1.f1 (Tn l i).f0.f2 (Tn l i).f1 (Tn l i).f2 = some e ∧ (e = 0 → ∀ j, i ≤ j → j < l.length → NodeT l j) := by
      intro b hb
      rw [tube_Check.j1]
      cases b with
      | true => rw [if_pos rfl]; exact ⟨12, rfl, fun h => by omega⟩
      | false =>
        obtain ⟨b1, b2, b3⟩ := hb rfl
        rw [if_neg (by decide), check_f, Option.bind_some]
        by_cases hp : Ok (Tn l i).f0.f1.f0 (Tn l i).f0.f1.f1
        · rw [if_pos hp, if_pos rfl]
          by_cases h1 : (Tn l i).f0.f2 < 0
          · rw [if_pos h1]; exact ⟨4, rfl, fun h => by omega⟩
          rw [if_neg h1]
          by_cases h2 : (Tn l i).f0.f2 > 60000
          · rw [if_pos h2]; exact ⟨4, rfl, fun h => by omega⟩
          rw [if_neg h2]
          by_cases h3 : (Tn l i).f1 < 0
          · rw [if_pos h3]; exact ⟨4, rfl, fun h => by omega⟩
          rw [if_neg h3]
          by_cases h4 : (Tn l i).f1 > 1000000
          · rw [if_pos h4]; exact ⟨4, rfl, fun h => by omega⟩
          rw [if_neg h4]
          by_cases h5 : (Tn l i).f2 < 0
          · rw [if_pos h5]; exact ⟨4, rfl, fun h => by omega⟩
          rw [if_neg h5]
          by_cases h6 : (Tn l i).f2 > 60000
          · rw [if_pos h6]; exact ⟨4, rfl, fun h => by omega⟩
          rw [if_neg h6, w64 (by omega) (by omega), show ((i : Int) + 1) = ((i + 1 : Nat) : Int) by omega, ih]
          refine ⟨e', rfl, fun h j g1 g2 => ?_⟩
          by_cases hij : j = i
          · rw [hij]; exact ⟨⟨b1, b2⟩, b3, hp, ⟨by omega, by omega⟩, ⟨by omega, by omega⟩, by omega, by omega⟩
          · exact ihz h j (by omega) g2
        · rw [if_neg hp, if_neg (by decide)]; exact ⟨4, rfl, fun h => by omega⟩
    rw [tube_Check.l0, if_pos (by omega), if_pos (by omega), if_pos (by omega), hN]
    by_cases h1 : (Tn l i).f0.f0 < 0
    · rw [if_pos h1]; exact j1 true (fun h => by cases h)
    · rw [if_neg h1]
      by_cases h2 : (Tn l i).f0.f0 > 200000
      · rw [if_pos h2]; exact j1 true (fun h => by cases h)
      · rw [if_neg h2]
        by_cases h3 : (i : Int) > 0
        · rw [if_pos h3, w64 (by omega) (by omega), if_pos (by omega), if_pos (by omega), show ((i : Int) - 1) = ((i - 1 : Nat) : Int) by omega]
          have hN' : rd_T30 l ((i - 1 : Nat) : Int) = Tn l (i - 1) := rfl
          rw [hN']
          refine j1 _ (fun h => ⟨by omega, by omega, fun _ => ?_⟩)
          have := of_decide_eq_false h
          omega
        · rw [if_neg h3]
          exact j1 false (fun _ => ⟨by omega, by omega, fun h => by omega⟩)
/-- A valid tube. -/
def TubeOk (l : List S30) : Prop := 0 < l.length ∧ l.length ≤ 64 ∧ ∀ j, j < l.length → NodeT l j
theorem tcheck (l : List S30) : ∃ e, (∀ k, 130 ≤ k → tube_Check.f k l = some e) ∧ (e = 0 → TubeOk l) := by
  have main : ∃ e, tube_Check.f 130 l = some e ∧ (e = 0 → TubeOk l) := by
    unfold tube_Check.f
    by_cases h1 : (l.length : Int) > 64
    · rw [if_pos h1]; exact ⟨2, rfl, fun h => by omega⟩
    · rw [if_neg h1]
      by_cases h2 : (l.length : Int) = 0
      · rw [if_pos h2]; exact ⟨3, rfl, fun h => by omega⟩
      · rw [if_neg h2]
        obtain ⟨e, he, hz⟩ := tcheck_l l (by omega) l.length 130 0 (by omega) (by omega)
        exact ⟨e, he, fun h => ⟨by omega, by omega, fun j hj => hz h j (by omega) hj⟩⟩
  obtain ⟨e, he, hz⟩ := main
  exact ⟨e, fun k hk => at_rounds (fun k => tube_Check.mono l k) hk he, hz⟩
theorem ttimes {l : List S30} (h : TubeOk l) : ∀ (d i : Nat), i + d + 1 < l.length → (Tn l i).f0.f0 < (Tn l (i + d + 1)).f0.f0
  | 0, i, hd => by have := (h.2.2 (i + 1) hd).2.1 (by omega); exact this
  | d + 1, i, hd => by
    have h1 := ttimes h d i (by omega)
    have h2 := (h.2.2 (i + d + 2) (by omega)).2.1 (by omega)
    have e : i + d + 2 - 1 = i + d + 1 := by omega
    rw [e] at h2
    have e2 : i + (d + 1) + 1 = i + d + 2 := by omega
    rw [e2]
    omega
theorem ttimes_lt {l : List S30} (h : TubeOk l) {i j : Nat} (hij : i < j) (hj : j < l.length) : (Tn l i).f0.f0 < (Tn l j).f0.f0 := by
  have := ttimes h (j - i - 1) i (by omega)
  have e : i + (j - i - 1) + 1 = j := by omega
  rw [e] at this
  exact this
/-- The place of a time in a tube. -/
def AtT (l : List S30) (t : Int) (j : Nat) : Prop := j < l.length ∧ (Tn l j).f0.f0 ≤ t ∧ (j + 1 < l.length → t < (Tn l (j + 1)).f0.f0)
theorem AtT.same {l : List S30} (h : TubeOk l) {t : Int} {i j : Nat} (hi : AtT l t i) (hj : AtT l t j) : i = j := by
  obtain ⟨i1, i2, i3⟩ := hi
  obtain ⟨j1, j2, j3⟩ := hj
  rcases Nat.lt_trichotomy i j with g | g | g
  · have := i3 (by omega)
    rcases Nat.lt_or_ge (i + 1) j with g2 | g2
    · have := ttimes_lt h g2 j1; omega
    · have : j = i + 1 := by omega
      subst this; omega
  · exact g
  · have := j3 (by omega)
    rcases Nat.lt_or_ge (j + 1) i with g2 | g2
    · have := ttimes_lt h g2 i1; omega
    · have : i = j + 1 := by omega
      subst this; omega
theorem at_l {l : List S30} (h : TubeOk l) (t : Int) : ∀ (d k i : Nat), i + d + 1 = l.length → d + 1 ≤ k → (Tn l i).f0.f0 ≤ t →
    ∃ j m, AtT l t j ∧ k ≤ m + d + 1 ∧ tube_at.l0 k l t (i : Int) = tube_at.j2 m l t (j : Int)
  | 0, k, i, hi, hk, ht => by
    obtain ⟨k, rfl⟩ : ∃ m, k = m + 1 := ⟨k - 1, by omega⟩
    have hl := h.2.1
    rw [tube_at.l0, w64 (by omega) (by omega), if_neg (by omega)]
    exact ⟨i, k, ⟨by omega, ht, fun _ => by omega⟩, by omega, rfl⟩
  | d + 1, k, i, hi, hk, ht => by
    obtain ⟨k, rfl⟩ : ∃ m, k = m + 1 := ⟨k - 1, by omega⟩
    have hl := h.2.1
    rw [tube_at.l0, w64 (by omega) (by omega), if_pos (by omega), if_pos (by omega), show ((i : Int) + 1) = ((i + 1 : Nat) : Int) by omega]
    have hN : rd_T30 l ((i + 1 : Nat) : Int) = Tn l (i + 1) := rfl
    rw [hN]
    by_cases c : (Tn l (i + 1)).f0.f0 ≤ t
    · rw [if_pos c]
      obtain ⟨j, m, h1, h5, h6⟩ := at_l h t d k (i + 1) (by omega) (by omega) c
      exact ⟨j, m, h1, by omega, h6⟩
    · rw [if_neg c]
      exact ⟨i, k, ⟨by omega, ht, fun _ => by omega⟩, by omega, rfl⟩
def lin (a b n d : Int) : Int := a + (b - a) * n / d
def linUp (a b n d : Int) : Int := a + (if (b - a) * n % d = 0 then (b - a) * n / d else (b - a) * n / d + 1)
theorem between_f (k : Nat) {a b n d : Int} (h0 : 0 < d) (h1 : d ≤ 200000) (h2 : 0 ≤ n) (h3 : n ≤ d) (a1 : 0 ≤ a) (a2 : a ≤ 1000000) (b1 : 0 ≤ b) (b2 : b ≤ 1000000) : tube_between.f (k + 1) a b n d = some (lin a b n d) := by
  obtain ⟨m1, m2, m3, m4⟩ := lin_bd h0 h1 h2 h3 (show -2000000 ≤ b - a by omega) (show b - a ≤ 2000000 by omega)
  unfold tube_between.f lin
  rw [w64 (x := b - a) (by omega) (by omega), w64 (x := (b - a) * n) (by omega) (by omega), down_pos k _ d (by omega) (by omega) h0, Option.bind_some, w64 (by omega) (by omega)]
theorem above_f (k : Nat) {a b n d : Int} (h0 : 0 < d) (h1 : d ≤ 200000) (h2 : 0 ≤ n) (h3 : n ≤ d) (a1 : 0 ≤ a) (a2 : a ≤ 1000000) (b1 : 0 ≤ b) (b2 : b ≤ 1000000) : tube_above.f (k + 1) a b n d = some (linUp a b n d) := by
  obtain ⟨m1, m2, m3, m4⟩ := lin_bd h0 h1 h2 h3 (show -2000000 ≤ b - a by omega) (show b - a ≤ 2000000 by omega)
  unfold tube_above.f linUp
  rw [w64 (x := b - a) (by omega) (by omega), w64 (x := (b - a) * n) (by omega) (by omega), up_pos k _ d (by omega) (by omega) h0, Option.bind_some, w64 (by dsimp only; split <;> omega) (by dsimp only; split <;> omega)]
/-- A tube's node at a time between node j and the next. -/
def mid (l : List S30) (t : Int) (j : Nat) : Int × Int × Int × Int × Int × Int × Int :=
  let a := Tn l j
  let b := Tn l (j + 1)
  let n := t - a.f0.f0
  let d := b.f0.f0 - a.f0.f0
  (t, a.f0.f1.f0 + (b.f0.f1.f0 - a.f0.f1.f0) * n / d, a.f0.f1.f1 + (b.f0.f1.f1 - a.f0.f1.f1) * n / d, lin a.f0.f2 b.f0.f2 n d, linUp a.f1 b.f1 n d, linUp a.f2 b.f2 n d, 0)
/-- What at answers inside a valid tube's time. -/
def ins (l : List S30) (t : Int) (j : Nat) : Int × Int × Int × Int × Int × Int × Int :=
  if (Tn l j).f0.f0 = t then ((Tn l j).f0.f0, (Tn l j).f0.f1.f0, (Tn l j).f0.f1.f1, (Tn l j).f0.f2, (Tn l j).f1, (Tn l j).f2, 0) else mid l t j
theorem at_f {l : List S30} (h : TubeOk l) (t : Int) :
    ((t < (Tn l 0).f0.f0 ∨ t > (Tn l (l.length - 1)).f0.f0) ∧ ∀ k, 200 ≤ k → tube_at.f k l t = some (0, 0, 0, 0, 0, 0, 12)) ∨
    (((Tn l 0).f0.f0 ≤ t ∧ t ≤ (Tn l (l.length - 1)).f0.f0) ∧ ∃ j, AtT l t j ∧ (j + 1 = l.length → (Tn l j).f0.f0 = t) ∧ ∀ k, 200 ≤ k → tube_at.f k l t = some (ins l t j)) := by
  obtain ⟨hl0, hl, hn⟩ := id h
  have n0 : rd_T30 l 0 = Tn l 0 := rfl
  have n1 : rd_T30 l ((l.length - 1 : Nat) : Int) = Tn l (l.length - 1) := rfl
  have hat : ∀ k, tube_at.f (k + 1) l t = if t < (Tn l 0).f0.f0 then some (0, 0, 0, 0, 0, 0, 12) else if t > (Tn l (l.length - 1)).f0.f0 then some (0, 0, 0, 0, 0, 0, 12) else tube_at.l0 k l t 0 := by
    intro k
    unfold tube_at.f
    rw [if_pos (show (0 : Int) < (l.length : Int) by omega), n0]
    by_cases c1 : t < (Tn l 0).f0.f0
    · rw [if_pos c1, if_pos c1, tube_at.j0, if_pos rfl]
    · rw [if_neg c1, if_neg c1, w64 (x := (l.length : Int) - 1) (by omega) (by omega), if_pos (show (0 : Int) ≤ (l.length : Int) - 1 by omega), if_pos (show (l.length : Int) - 1 < (l.length : Int) by omega), show ((l.length : Int) - 1) = ((l.length - 1 : Nat) : Int) by omega, n1]
      by_cases c2 : t > (Tn l (l.length - 1)).f0.f0
      · rw [if_pos c2, tube_at.j0, if_pos (decide_eq_true c2)]
      · rw [if_neg c2, tube_at.j0, if_neg (by simpa using c2)]
  by_cases c1 : t < (Tn l 0).f0.f0
  · left
    refine ⟨Or.inl c1, fun k hk => ?_⟩
    obtain ⟨k, rfl⟩ : ∃ m, k = m + 1 := ⟨k - 1, by omega⟩
    rw [hat, if_pos c1]
  · by_cases c2 : t > (Tn l (l.length - 1)).f0.f0
    · left
      refine ⟨Or.inr c2, fun k hk => ?_⟩
      obtain ⟨k, rfl⟩ : ∃ m, k = m + 1 := ⟨k - 1, by omega⟩
      rw [hat, if_neg c1, if_pos c2]
    · right
      refine ⟨⟨by omega, by omega⟩, ?_⟩
      have one : ∀ k, 200 ≤ k → ∃ j, AtT l t j ∧ (j + 1 = l.length → (Tn l j).f0.f0 = t) ∧ tube_at.f k l t = some (ins l t j) := by
        intro k hk
        obtain ⟨k, rfl⟩ : ∃ m, k = m + 1 := ⟨k - 1, by omega⟩
        rw [hat, if_neg c1, if_neg c2]
        obtain ⟨j, m, ha, hm, e⟩ := at_l h t (l.length - 1) k 0 (by omega) (by omega) (by omega)
        obtain ⟨m, rfl⟩ : ∃ q, m = q + 4 := ⟨m - 4, by omega⟩
        obtain ⟨hj, g1, g2⟩ := id ha
        have hN : rd_T30 l (j : Int) = Tn l j := rfl
        have hlast : j + 1 = l.length → (Tn l j).f0.f0 = t := by
          intro hjl
          have : l.length - 1 = j := by omega
          rw [this] at c2
          omega
        refine ⟨j, ha, hlast, ?_⟩
        have e0 : tube_at.l0 k l t 0 = tube_at.j2 (m + 4) l t (j : Int) := e
        rw [e0, tube_at.j2, if_pos (by omega), if_pos (by omega), hN]
        unfold ins
        by_cases c : (Tn l j).f0.f0 = t
        · rw [if_pos c, if_pos c]
        · have hj1 : j + 1 < l.length := by
            rcases Nat.lt_or_ge (j + 1) l.length with g | g
            · exact g
            · exact absurd (hlast (by omega)) c
          have g3 := g2 hj1
          obtain ⟨a1, a2, a3, a4, a5, a6⟩ := hn j hj
          obtain ⟨b1, b2, b3, b4, b5, b6⟩ := hn (j + 1) hj1
          have hN' : rd_T30 l ((j + 1 : Nat) : Int) = Tn l (j + 1) := rfl
          rw [if_neg c, if_neg c, w64 (x := (j : Int) + 1) (by omega) (by omega), if_pos (by omega), if_pos (by omega), show ((j : Int) + 1) = ((j + 1 : Nat) : Int) by omega, hN',
            w64 (x := t - (Tn l j).f0.f0) (by omega) (by omega), w64 (x := (Tn l (j + 1)).f0.f0 - (Tn l j).f0.f0) (by omega) (by omega), toward (m + 1) (by omega) (by omega) (by omega) (by omega) a3 b3, Option.bind_some,
            between_f (m + 2) (by omega) (by omega) (by omega) (by omega) (by omega) (by omega) (by omega) (by omega), Option.bind_some,
            above_f (m + 2) (by omega) (by omega) (by omega) (by omega) (by omega) (by omega) (by omega) (by omega), Option.bind_some,
            above_f (m + 2) (by omega) (by omega) (by omega) (by omega) (by omega) (by omega) (by omega) (by omega), Option.bind_some]
          rfl
      obtain ⟨j, ha, hlast, _⟩ := one 200 (by decide)
      refine ⟨j, ha, hlast, fun k hk => ?_⟩
      obtain ⟨j', ha', _, e⟩ := one k hk
      rw [e, AtT.same h ha' ha]
theorem fl_le {z M d : Int} (hd : 0 < d) (h : z ≤ M * d) : z / d ≤ M := by
  have h1 := floor_le (a := z) hd
  rcases Int.lt_or_le M (z / d) with g | g
  · have h2 := Int.mul_le_mul_of_nonneg_right (show M + 1 ≤ z / d by omega) (Int.le_of_lt hd)
    rw [Int.add_mul, Int.one_mul] at h2
    omega
  · exact g
theorem le_fl {z M d : Int} (hd : 0 < d) (h : M * d ≤ z) : M ≤ z / d := by
  have h1 := lt_floor (a := z) hd
  rcases Int.lt_or_le (z / d) M with g | g
  · have h2 := Int.mul_le_mul_of_nonneg_right (show z / d + 1 ≤ M by omega) (Int.le_of_lt hd)
    omega
  · exact g
/-- The quotient, rounded up. -/
def cl (z d : Int) : Int := if z % d = 0 then z / d else z / d + 1
theorem cl_bd {z d : Int} (hd : 0 < d) : z ≤ cl z d * d ∧ cl z d * d < z + d := by
  have h1 := floor_le (a := z) hd
  have h2 := lt_floor (a := z) hd
  have h3 := Int.mul_ediv_add_emod z d
  have h4 := Int.emod_nonneg z (show d ≠ 0 by omega)
  rw [Int.mul_comm] at h3
  unfold cl
  split
  · constructor <;> omega
  · rw [Int.add_mul, Int.one_mul] at h2 ⊢
    constructor <;> omega
theorem cl_le {z M d : Int} (hd : 0 < d) (h : z ≤ M * d) : cl z d ≤ M := by
  have h1 := (cl_bd (z := z) hd).2
  rcases Int.lt_or_le M (cl z d) with g | g
  · have h2 := Int.mul_le_mul_of_nonneg_right (show M + 1 ≤ cl z d by omega) (Int.le_of_lt hd)
    rw [Int.add_mul, Int.one_mul] at h2
    omega
  · exact g
theorem le_cl {z M d : Int} (hd : 0 < d) (h : M * d ≤ z) : M ≤ cl z d := by
  have h1 := (cl_bd (z := z) hd).1
  rcases Int.lt_or_le (cl z d) M with g | g
  · have h2 := Int.mul_le_mul_of_nonneg_right (show cl z d + 1 ≤ M by omega) (Int.le_of_lt hd)
    rw [Int.add_mul, Int.one_mul] at h2
    omega
  · exact g
theorem part_bd {a b n d : Int} (hn : 0 ≤ n) (hd : n ≤ d) : (a ≤ b → 0 * d ≤ (b - a) * n ∧ (b - a) * n ≤ (b - a) * d) ∧ (b ≤ a → (b - a) * d ≤ (b - a) * n ∧ (b - a) * n ≤ 0 * d) := by
  rw [Int.zero_mul]
  refine ⟨fun h => ⟨Int.mul_nonneg (by omega) hn, Int.mul_le_mul_of_nonneg_left hd (by omega)⟩, fun h => ⟨?_, ?_⟩⟩
  · have := Int.mul_le_mul_of_nonneg_left hd (show 0 ≤ a - b by omega)
    rw [Int.sub_mul, Int.sub_mul] at this
    rw [Int.sub_mul, Int.sub_mul]
    omega
  · have := Int.mul_nonneg (show 0 ≤ a - b by omega) hn
    rw [Int.sub_mul] at this
    rw [Int.sub_mul]
    omega
theorem lin_btw {a b n d : Int} (h0 : 0 < d) (hn : 0 ≤ n) (hd : n ≤ d) : (a ≤ b → a ≤ lin a b n d ∧ lin a b n d ≤ b) ∧ (b ≤ a → b ≤ lin a b n d ∧ lin a b n d ≤ a) := by
  obtain ⟨p1, p2⟩ := part_bd (a := a) (b := b) hn hd
  unfold lin
  refine ⟨fun h => ?_, fun h => ?_⟩
  · have := le_fl h0 (p1 h).1
    have := fl_le h0 (p1 h).2
    omega
  · have := le_fl h0 (p2 h).1
    have := fl_le h0 (p2 h).2
    omega
theorem linUp_cl (a b n d : Int) : linUp a b n d = a + cl ((b - a) * n) d := rfl
theorem linUp_btw {a b n d : Int} (h0 : 0 < d) (hn : 0 ≤ n) (hd : n ≤ d) : (a ≤ b → a ≤ linUp a b n d ∧ linUp a b n d ≤ b) ∧ (b ≤ a → b ≤ linUp a b n d ∧ linUp a b n d ≤ a) := by
  obtain ⟨p1, p2⟩ := part_bd (a := a) (b := b) hn hd
  rw [linUp_cl]
  refine ⟨fun h => ?_, fun h => ?_⟩
  · have := le_cl h0 (p1 h).1
    have := cl_le h0 (p1 h).2
    omega
  · have := le_cl h0 (p2 h).1
    have := cl_le h0 (p2 h).2
    omega
theorem lin_rng {a b n d L H : Int} (h0 : 0 < d) (hn : 0 ≤ n) (hd : n ≤ d) (a1 : L ≤ a) (a2 : a ≤ H) (b1 : L ≤ b) (b2 : b ≤ H) : L ≤ lin a b n d ∧ lin a b n d ≤ H := by
  obtain ⟨p1, p2⟩ := lin_btw (a := a) (b := b) h0 hn hd
  rcases Int.le_total a b with h | h
  · have := p1 h; omega
  · have := p2 h; omega
theorem linUp_rng {a b n d L H : Int} (h0 : 0 < d) (hn : 0 ≤ n) (hd : n ≤ d) (a1 : L ≤ a) (a2 : a ≤ H) (b1 : L ≤ b) (b2 : b ≤ H) : L ≤ linUp a b n d ∧ linUp a b n d ≤ H := by
  obtain ⟨p1, p2⟩ := linUp_btw (a := a) (b := b) h0 hn hd
  rcases Int.le_total a b with h | h
  · have := p1 h; omega
  · have := p2 h; omega
/-- Which of the two kinds a node at a time is. -/
theorem ins_or {l : List S30} {t : Int} {j : Nat} (ha : AtT l t j) (hl : j + 1 = l.length → (Tn l j).f0.f0 = t) :
    ((Tn l j).f0.f0 = t ∧ ins l t j = ((Tn l j).f0.f0, (Tn l j).f0.f1.f0, (Tn l j).f0.f1.f1, (Tn l j).f0.f2, (Tn l j).f1, (Tn l j).f2, 0)) ∨
    (j + 1 < l.length ∧ (Tn l j).f0.f0 < t ∧ t < (Tn l (j + 1)).f0.f0 ∧ ins l t j = mid l t j) := by
  obtain ⟨h1, h2, h3⟩ := ha
  unfold ins
  by_cases c : (Tn l j).f0.f0 = t
  · left; exact ⟨c, if_pos c⟩
  · right
    have hj : j + 1 < l.length := by
      rcases Nat.lt_or_ge (j + 1) l.length with g | g
      · exact g
      · exact absurd (hl (by omega)) c
    exact ⟨hj, by omega, h3 hj, if_neg c⟩
/-- What a node at a time is within. -/
theorem ins_rng {l : List S30} (h : TubeOk l) {t : Int} {j : Nat} (ha : AtT l t j) (hl : j + 1 = l.length → (Tn l j).f0.f0 = t) :
    (ins l t j).1 = t ∧ Ok (ins l t j).2.1 (ins l t j).2.2.1 ∧ (0 ≤ (ins l t j).2.2.2.1 ∧ (ins l t j).2.2.2.1 ≤ 60000) ∧ (0 ≤ (ins l t j).2.2.2.2.1 ∧ (ins l t j).2.2.2.2.1 ≤ 1000000) ∧ (0 ≤ (ins l t j).2.2.2.2.2.1 ∧ (ins l t j).2.2.2.2.2.1 ≤ 60000) ∧ (ins l t j).2.2.2.2.2.2 = 0 := by
  obtain ⟨a1, a2, a3, a4, a5, a6, a7⟩ := h.2.2 j ha.1
  rcases ins_or ha hl with ⟨h0, e⟩ | ⟨hj, h1, h2, e⟩
  · rw [e]; exact ⟨h0, a3, a4, a5, ⟨a6, a7⟩, rfl⟩
  · obtain ⟨b1, b2, b3, b4, b5, b6, b7⟩ := h.2.2 (j + 1) hj
    obtain ⟨x1, x2, x3, x4⟩ := a3
    obtain ⟨y1, y2, y3, y4⟩ := b3
    rw [e]
    unfold mid
    dsimp only
    have d0 : 0 < (Tn l (j + 1)).f0.f0 - (Tn l j).f0.f0 := by omega
    have n0 : 0 ≤ t - (Tn l j).f0.f0 := by omega
    have n1 : t - (Tn l j).f0.f0 ≤ (Tn l (j + 1)).f0.f0 - (Tn l j).f0.f0 := by omega
    have r1 := lin_rng d0 n0 n1 x1 x2 y1 y2
    have r2 := lin_rng d0 n0 n1 x3 x4 y3 y4
    exact ⟨rfl, ⟨r1.1, r1.2, r2.1, r2.2⟩, lin_rng d0 n0 n1 a4.1 a4.2 b4.1 b4.2, linUp_rng d0 n0 n1 a5.1 a5.2 b5.1 b5.2, linUp_rng d0 n0 n1 a6 a7 b6 b7, rfl⟩
theorem lin_zero (a b d : Int) : lin a b 0 d = a := by unfold lin; simp
theorem linUp_zero (a b d : Int) : linUp a b 0 d = a := by unfold linUp; simp
theorem lin_full (a b : Int) {d : Int} (hd : 0 < d) : lin a b d d = b := by
  unfold lin
  rw [Int.mul_ediv_cancel _ (by omega)]
  omega
theorem linUp_full (a b : Int) {d : Int} (hd : 0 < d) : linUp a b d d = b := by
  unfold linUp
  rw [if_pos (Int.mul_emod_left _ _), Int.mul_ediv_cancel _ (by omega)]
  omega
/-- Rounding down twice loses at most one more. -/
theorem rnd {p q T D s e t : Int} (hD : 0 < D) (h2 : s < t) (h3 : t < e) :
    lin p q (t - T) D - 1 ≤ lin (lin p q (s - T) D) (lin p q (e - T) D) (t - s) (e - s) ∧ lin (lin p q (s - T) D) (lin p q (e - T) D) (t - s) (e - s) ≤ lin p q (t - T) D := by
  unfold lin
  have hz : (q - p) * (s - T) * ((e - s) - (t - s)) + (q - p) * (e - T) * (t - s) = (q - p) * (t - T) * (e - s) := by grind
  have hm : 0 < e - s := by omega
  have hn : 0 < t - s := by omega
  have hmn : 0 < (e - s) - (t - s) := by omega
  generalize (q - p) * (s - T) = zs at *
  generalize (q - p) * (e - T) = ze at *
  generalize (q - p) * (t - T) = zt at *
  generalize e - s = m at *
  generalize t - s = n at *
  have a1 := floor_le (a := zs) hD
  have a2 := lt_floor (a := zs) hD
  have b1 := floor_le (a := ze) hD
  have b2 := lt_floor (a := ze) hD
  have c1 := floor_le (a := zt) hD
  have c2 := lt_floor (a := zt) hD
  generalize zs / D = fs at *
  generalize ze / D = fe at *
  generalize zt / D = G at *
  rw [show p + fe - (p + fs) = fe - fs by omega]
  have d1 := floor_le (a := (fe - fs) * n) hm
  have d2 := lt_floor (a := (fe - fs) * n) hm
  generalize (fe - fs) * n / m = F at *
  have hDm : 0 < D * m := Int.mul_pos hD hm
  constructor
  · have k1 := Int.mul_lt_mul_of_pos_right d2 hD
    have k2 := Int.mul_lt_mul_of_pos_right a2 hmn
    have k3 := Int.mul_lt_mul_of_pos_right b2 hn
    have k4 := Int.mul_le_mul_of_nonneg_right c1 (Int.le_of_lt hm)
    have e1 : (fs + F + 2) * (D * m) = ((fs + 1) * D) * (m - n) + ((fe + 1) * D) * n + ((F + 1) * m) * D - ((fe - fs) * n) * D := by grind
    have e2 : G * (D * m) = (G * D) * m := by grind
    have e3 : G * (D * m) < (fs + F + 2) * (D * m) := by omega
    have := Int.lt_of_mul_lt_mul_right e3 (Int.le_of_lt hDm)
    omega
  · have k1 := Int.mul_le_mul_of_nonneg_right d1 (Int.le_of_lt hD)
    have k2 := Int.mul_le_mul_of_nonneg_right a1 (Int.le_of_lt hmn)
    have k3 := Int.mul_le_mul_of_nonneg_right b1 (Int.le_of_lt hn)
    have k4 := Int.mul_lt_mul_of_pos_right c2 hm
    have e1 : (fs + F) * (D * m) = (fs * D) * (m - n) + (fe * D) * n + (F * m) * D - ((fe - fs) * n) * D := by grind
    have e2 : (G + 1) * (D * m) = ((G + 1) * D) * m := by grind
    have e3 : (fs + F) * (D * m) < (G + 1) * (D * m) := by omega
    have := Int.lt_of_mul_lt_mul_right e3 (Int.le_of_lt hDm)
    omega
/-- Rounding up twice adds at most one more. -/
theorem rndUp {p q T D s e t : Int} (hD : 0 < D) (h2 : s < t) (h3 : t < e) :
    linUp p q (t - T) D ≤ linUp (linUp p q (s - T) D) (linUp p q (e - T) D) (t - s) (e - s) ∧ linUp (linUp p q (s - T) D) (linUp p q (e - T) D) (t - s) (e - s) ≤ linUp p q (t - T) D + 1 := by
  simp only [linUp_cl]
  have hz : (q - p) * (s - T) * ((e - s) - (t - s)) + (q - p) * (e - T) * (t - s) = (q - p) * (t - T) * (e - s) := by grind
  have hm : 0 < e - s := by omega
  have hn : 0 < t - s := by omega
  have hmn : 0 < (e - s) - (t - s) := by omega
  generalize (q - p) * (s - T) = zs at *
  generalize (q - p) * (e - T) = ze at *
  generalize (q - p) * (t - T) = zt at *
  generalize e - s = m at *
  generalize t - s = n at *
  obtain ⟨a1, a2⟩ := cl_bd (z := zs) hD
  obtain ⟨b1, b2⟩ := cl_bd (z := ze) hD
  obtain ⟨c1, c2⟩ := cl_bd (z := zt) hD
  generalize cl zs D = fs at *
  generalize cl ze D = fe at *
  generalize cl zt D = G at *
  rw [show p + fe - (p + fs) = fe - fs by omega]
  obtain ⟨d1, d2⟩ := cl_bd (z := (fe - fs) * n) hm
  generalize cl ((fe - fs) * n) m = F at *
  have hDm : 0 < D * m := Int.mul_pos hD hm
  constructor
  · have k1 := Int.mul_le_mul_of_nonneg_right d1 (Int.le_of_lt hD)
    have k2 := Int.mul_le_mul_of_nonneg_right a1 (Int.le_of_lt hmn)
    have k3 := Int.mul_le_mul_of_nonneg_right b1 (Int.le_of_lt hn)
    have k4 := Int.mul_lt_mul_of_pos_right c2 hm
    have e1 : (fs + F) * (D * m) = (fs * D) * (m - n) + (fe * D) * n + (F * m) * D - ((fe - fs) * n) * D := by grind
    have e2 : (G - 1) * (D * m) = (G * D) * m - D * m := by grind
    have e4 : (zt + D) * m = zt * m + D * m := by grind
    have e3 : (G - 1) * (D * m) < (fs + F) * (D * m) := by omega
    have := Int.lt_of_mul_lt_mul_right e3 (Int.le_of_lt hDm)
    omega
  · have k1 := Int.mul_lt_mul_of_pos_right d2 hD
    have k2 := Int.mul_lt_mul_of_pos_right a2 hmn
    have k3 := Int.mul_lt_mul_of_pos_right b2 hn
    have k4 := Int.mul_le_mul_of_nonneg_right c1 (Int.le_of_lt hm)
    have e1 : (fs + F) * (D * m) = (fs * D) * (m - n) + (fe * D) * n + (F * m) * D - ((fe - fs) * n) * D := by grind
    have e2 : (G + 2) * (D * m) = (G * D) * m + 2 * (D * m) := by grind
    have e4 : (zs + D) * (m - n) + (ze + D) * n = zs * (m - n) + ze * n + D * m := by grind
    have e5 : ((fe - fs) * n + m) * D = ((fe - fs) * n) * D + D * m := by grind
    have e3 : (fs + F) * (D * m) < (G + 2) * (D * m) := by omega
    have := Int.lt_of_mul_lt_mul_right e3 (Int.le_of_lt hDm)
    omega
/-- The node of a tube at a time. -/
def nd (l : List S30) (t : Int) : Int × Int × Int × Int × Int × Int × Int := (tube_at.f 200 l t).getD (0, 0, 0, 0, 0, 0, 0)
theorem nd_at {l : List S30} (h : TubeOk l) {t : Int} (h1 : (Tn l 0).f0.f0 ≤ t) (h2 : t ≤ (Tn l (l.length - 1)).f0.f0) :
    ∃ j, AtT l t j ∧ (j + 1 = l.length → (Tn l j).f0.f0 = t) ∧ nd l t = ins l t j ∧ ∀ k, 200 ≤ k → tube_at.f k l t = some (nd l t) := by
  rcases at_f h t with ⟨g, _⟩ | ⟨_, j, ha, hl, e⟩
  · omega
  · have e0 : nd l t = ins l t j := by unfold nd; rw [e 200 (by decide)]; rfl
    exact ⟨j, ha, hl, e0, fun k hk => by rw [e k hk, e0]⟩
def InT (l : List S30) (t : Int) : Prop := (Tn l 0).f0.f0 ≤ t ∧ t ≤ (Tn l (l.length - 1)).f0.f0
theorem nd_rng {l : List S30} (h : TubeOk l) {t : Int} (hi : InT l t) :
    (nd l t).1 = t ∧ Ok (nd l t).2.1 (nd l t).2.2.1 ∧ (0 ≤ (nd l t).2.2.2.1 ∧ (nd l t).2.2.2.1 ≤ 60000) ∧ (0 ≤ (nd l t).2.2.2.2.1 ∧ (nd l t).2.2.2.2.1 ≤ 1000000) ∧ (0 ≤ (nd l t).2.2.2.2.2.1 ∧ (nd l t).2.2.2.2.2.1 ≤ 60000) ∧ (nd l t).2.2.2.2.2.2 = 0 := by
  obtain ⟨j, ha, hl, e, _⟩ := nd_at h hi.1 hi.2
  rw [e]
  exact ins_rng h ha hl
theorem t_le {l : List S30} (h : TubeOk l) {i j : Nat} (hij : i ≤ j) (hj : j < l.length) : (Tn l i).f0.f0 ≤ (Tn l j).f0.f0 := by
  rcases Nat.lt_or_ge i j with g | g
  · exact Int.le_of_lt (ttimes_lt h g hj)
  · rw [show i = j by omega]; exact Int.le_refl _
theorem inT_seg {l : List S30} (h : TubeOk l) {j : Nat} (hj : j + 1 < l.length) {s : Int} (h1 : (Tn l j).f0.f0 ≤ s) (h2 : s ≤ (Tn l (j + 1)).f0.f0) : InT l s := by
  have a := t_le h (Nat.zero_le j) (by omega)
  have b := t_le h (i := j + 1) (j := l.length - 1) (by omega) (by omega)
  exact ⟨by omega, by omega⟩
/-- A part of a way between two nodes. -/
def segV (P Q : S30) (s : Int) : Int × Int × Int × Int × Int × Int × Int :=
  (s, lin P.f0.f1.f0 Q.f0.f1.f0 (s - P.f0.f0) (Q.f0.f0 - P.f0.f0), lin P.f0.f1.f1 Q.f0.f1.f1 (s - P.f0.f0) (Q.f0.f0 - P.f0.f0), lin P.f0.f2 Q.f0.f2 (s - P.f0.f0) (Q.f0.f0 - P.f0.f0), linUp P.f1 Q.f1 (s - P.f0.f0) (Q.f0.f0 - P.f0.f0), linUp P.f2 Q.f2 (s - P.f0.f0) (Q.f0.f0 - P.f0.f0), 0)
def valN (n : S30) : Int × Int × Int × Int × Int × Int × Int := (n.f0.f0, n.f0.f1.f0, n.f0.f1.f1, n.f0.f2, n.f1, n.f2, 0)
def mkN (v : Int × Int × Int × Int × Int × Int × Int) : S30 := ⟨⟨v.1, ⟨v.2.1, v.2.2.1⟩, v.2.2.2.1⟩, v.2.2.2.2.1, v.2.2.2.2.2.1⟩
theorem mk_val (n : S30) : mkN (valN n) = n := rfl
theorem val_mk {v : Int × Int × Int × Int × Int × Int × Int} (h : v.2.2.2.2.2.2 = 0) : valN (mkN v) = v := by
  obtain ⟨a, b, c, d, e, f, g⟩ := v
  dsimp only at h
  rw [h]
  rfl
theorem seg_left {P Q : S30} : segV P Q P.f0.f0 = valN P := by
  unfold segV valN
  rw [Int.sub_self, lin_zero, lin_zero, lin_zero, linUp_zero, linUp_zero]
theorem seg_right {P Q : S30} (h : P.f0.f0 < Q.f0.f0) : segV P Q Q.f0.f0 = valN Q := by
  unfold segV valN
  rw [lin_full _ _ (by omega), lin_full _ _ (by omega), lin_full _ _ (by omega), linUp_full _ _ (by omega), linUp_full _ _ (by omega)]
theorem nd_node {l : List S30} (h : TubeOk l) {j : Nat} (hj : j < l.length) : nd l (Tn l j).f0.f0 = valN (Tn l j) := by
  have a := t_le h (Nat.zero_le j) hj
  have b := t_le h (i := j) (j := l.length - 1) (by omega) (by omega)
  obtain ⟨i, ia, il, e, _⟩ := nd_at h a b
  have ja : AtT l (Tn l j).f0.f0 j := ⟨hj, Int.le_refl _, fun g => ttimes_lt h (by omega) g⟩
  obtain rfl := AtT.same h ia ja
  rw [e]
  unfold ins
  rw [if_pos rfl]
  rfl
theorem nd_seg {l : List S30} (h : TubeOk l) {j : Nat} (hj : j + 1 < l.length) {s : Int} (h1 : (Tn l j).f0.f0 ≤ s) (h2 : s ≤ (Tn l (j + 1)).f0.f0) : nd l s = segV (Tn l j) (Tn l (j + 1)) s := by
  have tl := ttimes_lt h (i := j) (j := j + 1) (by omega) hj
  by_cases c : s = (Tn l (j + 1)).f0.f0
  · rw [c, nd_node h hj, seg_right tl]
  · by_cases c2 : s = (Tn l j).f0.f0
    · rw [c2, nd_node h (by omega), seg_left]
    · have hi := inT_seg h hj h1 h2
      obtain ⟨i, ia, il, e, _⟩ := nd_at h hi.1 hi.2
      have ja : AtT l s j := ⟨by omega, h1, fun _ => by omega⟩
      obtain rfl := AtT.same h ia ja
      rw [e]
      unfold ins
      rw [if_neg (fun g => c2 g.symm)]
      rfl
theorem tubeWorks (k : Nat) (hk : 100 ≤ k) : skywaykeep1_tubeWorks.f k = some true := by
  have h : skywaykeep1_tubeWorks.f 100 = some true := by decide +kernel
  exact at_rounds skywaykeep1_tubeWorks.mono hk h
theorem yes_l {l : List S30} (h : TubeOk l) : ∀ (d k i : Nat), i + d = l.length → 2 * d + 1 ≤ k → tube_Check.l0 k l l (l.length : Int) (i : Int) = some 0
  | 0, k, i, hi, hk => by
    obtain ⟨k, rfl⟩ : ∃ m, k = m + 1 := ⟨k - 1, by omega⟩
    rw [tube_Check.l0, if_neg (by omega)]
  | d + 1, k, i, hi, hk => by
    obtain ⟨k, rfl⟩ : ∃ m, k = m + 2 := ⟨k - 2, by omega⟩
    have hl := h.2.1
    have e1 : ∀ j : Nat, rd_T30 l (j : Int) = Tn l j := fun _ => rfl
    obtain ⟨⟨a1, a2⟩, a3, a4, ⟨a5, a6⟩, ⟨a7, a8⟩, a9, a10⟩ := h.2.2 i (by omega)
    have ih := yes_l h d k (i + 1) (by omega) (by omega)
    have j1 : tube_Check.j1 (k + 1) l l (l.length : Int) (i : Int) false (Tn l i).f0.f0 (Tn l i).f0.f1.f0 (Tn l i).f0.f1.f1 (Tn l i).f0.f2 (Tn l i).f1 (Tn l i).f2 = some 0 := by
      rw [tube_Check.j1, if_neg (by decide), check_f, Option.bind_some, if_pos a4, if_pos rfl, if_neg (by omega), if_neg (by omega), if_neg (by omega), if_neg (by omega), if_neg (by omega), if_neg (by omega), w64 (by omega) (by omega), show ((i : Int) + 1) = ((i + 1 : Nat) : Int) by omega]
      exact at_rounds (fun k => (tube_Check.mono_l k).1 l l (l.length : Int) ((i + 1 : Nat) : Int)) (Nat.le_refl _) ih
    rw [tube_Check.l0, if_pos (by omega), if_pos (by omega), if_pos (by omega), e1, if_neg (by omega), if_neg (by omega)]
    by_cases h3 : (i : Int) > 0
    · have := a3 (by omega)
      rw [if_pos h3, w64 (by omega) (by omega), if_pos (by omega), if_pos (by omega), show ((i : Int) - 1) = ((i - 1 : Nat) : Int) by omega, e1, decide_eq_false (by omega)]
      exact j1
    · rw [if_neg h3]
      exact j1
theorem tcheck_yes {l : List S30} (h : TubeOk l) (k : Nat) (hk : 130 ≤ k) : tube_Check.f k l = some 0 := by
  have hl0 := h.1
  have hl := h.2.1
  unfold tube_Check.f
  rw [if_neg (by omega), if_neg (by omega)]
  exact yes_l h l.length k 0 (by omega) (by omega)
theorem skip_l (l : List S30) (hl : l.length ≤ 64) (a b : Int) (acc : List S30) (v : Int × Int × Int × Int × Int × Int × Int) : ∀ (d k i : Nat), i + d ≤ l.length → (∀ q, i ≤ q → q < i + d → ¬ (a < (Tn l q).f0.f0 ∧ (Tn l q).f0.f0 < b)) →
    tube_Cut.l0 (k + d) a b acc l (l.length : Int) (i : Int) v.1 v.2.1 v.2.2.1 v.2.2.2.1 v.2.2.2.2.1 v.2.2.2.2.2.1 = tube_Cut.l0 k a b acc l (l.length : Int) ((i + d : Nat) : Int) v.1 v.2.1 v.2.2.1 v.2.2.2.1 v.2.2.2.2.1 v.2.2.2.2.2.1
  | 0, k, i, hi, hq => rfl
  | d + 1, k, i, hi, hq => by
    have ih := skip_l l hl a b acc v d k (i + 1) (by omega) (fun q h1 h2 => hq q (by omega) (by omega))
    have e1 : ∀ j : Nat, rd_T30 l (j : Int) = Tn l j := fun _ => rfl
    have h0 := hq i (Nat.le_refl _) (by omega)
    rw [show i + (d + 1) = i + 1 + d by omega, ← ih, show k + (d + 1) = (k + d) + 1 by omega, tube_Cut.l0, if_pos (by omega), if_pos (by omega), if_pos (by omega), e1, w64 (by omega) (by omega), show ((i : Int) + 1) = ((i + 1 : Nat) : Int) by omega]
    by_cases c : (Tn l i).f0.f0 > a
    · rw [if_pos c, if_neg (by omega)]
    · rw [if_neg c]
theorem take_l (l : List S30) (hl : l.length ≤ 64) (a b : Int) (v : Int × Int × Int × Int × Int × Int × Int) : ∀ (d k i : Nat) (acc : List S30), i + d ≤ l.length → acc.length ≤ 100 → (∀ q, i ≤ q → q < i + d → a < (Tn l q).f0.f0 ∧ (Tn l q).f0.f0 < b) → acc.length + d ≤ 100 →
    tube_Cut.l0 (k + d) a b acc l (l.length : Int) (i : Int) v.1 v.2.1 v.2.2.1 v.2.2.2.1 v.2.2.2.2.1 v.2.2.2.2.2.1 = tube_Cut.l0 k a b (acc ++ (l.drop i).take d) l (l.length : Int) ((i + d : Nat) : Int) v.1 v.2.1 v.2.2.1 v.2.2.2.1 v.2.2.2.2.1 v.2.2.2.2.2.1
  | 0, k, i, acc, hi, ha, hq, hs => by rw [List.take_zero, List.append_nil]; rfl
  | d + 1, k, i, acc, hi, ha, hq, hs => by
    have hlt : i < l.length := by omega
    have e1 : rd_T30 l (i : Int) = l[i] := by unfold rd_T30; rw [Int.toNat_natCast, List.getD_eq_getElem?_getD, List.getElem?_eq_getElem hlt]; rfl
    have h0 := hq i (Nat.le_refl _) (by omega)
    have e2 : Tn l i = l[i] := e1
    rw [e2] at h0
    have ih := take_l l hl a b v d k (i + 1) (acc ++ [l[i]]) (by omega) (by rw [List.length_append]; simp; omega) (fun q h1 h2 => hq q (by omega) (by omega)) (by rw [List.length_append]; simp; omega)
    have e3 : acc ++ [l[i]] ++ (l.drop (i + 1)).take d = acc ++ (l.drop i).take (d + 1) := by
      rw [List.drop_eq_getElem_cons hlt, List.take_succ_cons, List.append_assoc, List.singleton_append]
    rw [e3] at ih
    rw [show i + (d + 1) = i + 1 + d by omega, ← ih, show k + (d + 1) = (k + d) + 1 by omega, tube_Cut.l0, if_pos (by omega), if_pos (by omega), if_pos (by omega), e1, if_pos h0.1, if_pos h0.2, if_pos (by omega), w64 (by omega) (by omega), show ((i : Int) + 1) = ((i + 1 : Nat) : Int) by omega]
/-- A part of a tube: the nodes at a and b, and m nodes from f + 1 on between them. -/
def part (l : List S30) (a b : Int) (f m : Nat) : List S30 := ([mkN (nd l a)] ++ (l.drop (f + 1)).take m) ++ [mkN (nd l b)]
theorem part_len {l : List S30} {a b : Int} {f m : Nat} (h : f + m < l.length) : (part l a b f m).length = m + 2 := by
  unfold part
  simp only [List.length_append, List.length_cons, List.length_nil, List.length_take, List.length_drop]
  omega
theorem part_zero (l : List S30) (a b : Int) (f m : Nat) : Tn (part l a b f m) 0 = mkN (nd l a) := rfl
theorem part_mid {l : List S30} {a b : Int} {f m i : Nat} (h : f + m < l.length) (hi : 1 ≤ i) (him : i ≤ m) : Tn (part l a b f m) i = Tn l (f + i) := by
  obtain ⟨i, rfl⟩ : ∃ q, i = q + 1 := ⟨i - 1, by omega⟩
  unfold Tn rd_T30 part
  rw [List.getD_eq_getElem?_getD, List.getD_eq_getElem?_getD, Int.toNat_natCast, Int.toNat_natCast, List.getElem?_append_left (by simp; omega), List.singleton_append, List.getElem?_cons_succ, List.getElem?_take_of_lt (by omega), List.getElem?_drop]
  congr 2
  omega
theorem part_last {l : List S30} {a b : Int} {f m : Nat} (h : f + m < l.length) : Tn (part l a b f m) (m + 1) = mkN (nd l b) := by
  unfold Tn rd_T30 part
  rw [List.getD_eq_getElem?_getD, Int.toNat_natCast, List.getElem?_append_right (by simp; omega)]
  have e : m + 1 - ([mkN (nd l a)] ++ (l.drop (f + 1)).take m).length = 0 := by simp; omega
  rw [e]
  rfl
/-- What is told of a part: its nodes are the tube's at their times, and between two of them no node of the tube is left out. -/
structure Part (l x : List S30) (a b : Int) : Prop where
  ok : TubeOk x
  node : ∀ i, i < x.length → InT l (Tn x i).f0.f0 ∧ Tn x i = mkN (nd l (Tn x i).f0.f0)
  seg : ∀ i, i + 1 < x.length → ∃ j, j + 1 < l.length ∧ (Tn l j).f0.f0 ≤ (Tn x i).f0.f0 ∧ (Tn x (i + 1)).f0.f0 ≤ (Tn l (j + 1)).f0.f0
  left : (Tn x 0).f0.f0 = a
  right : (Tn x (x.length - 1)).f0.f0 = b
theorem node_ok {l : List S30} (h : TubeOk l) {s : Int} (hi : InT l s) :
    (mkN (nd l s)).f0.f0 = s ∧ (0 ≤ s ∧ s ≤ 200000) ∧ Ok (mkN (nd l s)).f0.f1.f0 (mkN (nd l s)).f0.f1.f1 ∧ (0 ≤ (mkN (nd l s)).f0.f2 ∧ (mkN (nd l s)).f0.f2 ≤ 60000) ∧ (0 ≤ (mkN (nd l s)).f1 ∧ (mkN (nd l s)).f1 ≤ 1000000) ∧ 0 ≤ (mkN (nd l s)).f2 ∧ (mkN (nd l s)).f2 ≤ 60000 := by
  obtain ⟨r1, r2, r3, r4, ⟨r5, r6⟩, _⟩ := nd_rng h hi
  have a := (h.2.2 0 h.1).1
  have b := (h.2.2 (l.length - 1) (by have := h.1; omega)).1
  obtain ⟨i1, i2⟩ := hi
  exact ⟨r1, ⟨by omega, by omega⟩, r2, r3, r4, r5, r6⟩
theorem part_ok {l x : List S30} (h : TubeOk l) (h0 : 0 < x.length) (h64 : x.length ≤ 64) (hn : ∀ i, i < x.length → InT l (Tn x i).f0.f0 ∧ Tn x i = mkN (nd l (Tn x i).f0.f0)) (ht : ∀ i, i + 1 < x.length → (Tn x i).f0.f0 < (Tn x (i + 1)).f0.f0) : TubeOk x := by
  refine ⟨h0, h64, fun i hi => ?_⟩
  obtain ⟨g1, g2⟩ := hn i hi
  obtain ⟨n1, n2, n3, n4, n5, n6⟩ := node_ok h g1
  rw [← g2] at n3 n4 n5 n6
  refine ⟨n2, fun hp => ?_, n3, n4, n5, n6⟩
  have := ht (i - 1) (by omega)
  rw [show i - 1 + 1 = i by omega] at this
  exact this
theorem one_part {l : List S30} (h : TubeOk l) {a : Int} (hi : InT l a) : Part l [mkN (nd l a)] a a := by
  have e0 : Tn [mkN (nd l a)] 0 = mkN (nd l a) := rfl
  have n1 := (node_ok h hi).1
  have hn : ∀ i, i < [mkN (nd l a)].length → InT l (Tn [mkN (nd l a)] i).f0.f0 ∧ Tn [mkN (nd l a)] i = mkN (nd l (Tn [mkN (nd l a)] i).f0.f0) := by
    intro i g
    obtain rfl : i = 0 := by simp at g; omega
    rw [e0, n1]
    exact ⟨hi, rfl⟩
  exact ⟨part_ok h (by simp) (by simp) hn (fun i g => by simp at g), hn, fun i g => by simp at g, n1, n1⟩
theorem part_part {l : List S30} (h : TubeOk l) {a b : Int} {f m : Nat} (hf : f + m + 1 < l.length) (ha : (Tn l f).f0.f0 ≤ a) (ha2 : a < (Tn l (f + 1)).f0.f0) (hb : (Tn l (f + m)).f0.f0 < b ∧ a < b) (hb2 : b ≤ (Tn l (f + m + 1)).f0.f0) : Part l (part l a b f m) a b := by
  have hfm : f + m < l.length := by omega
  have len := part_len (a := a) (b := b) hfm
  have ia : InT l a := inT_seg h (j := f) (by omega) ha (by omega)
  have ib : InT l b := inT_seg h (j := f + m) hf (by omega) hb2
  have na := (node_ok h ia).1
  have nb := (node_ok h ib).1
  have tm : ∀ i, i < (part l a b f m).length → (i = 0 ∧ Tn (part l a b f m) i = mkN (nd l a)) ∨ (1 ≤ i ∧ i ≤ m ∧ Tn (part l a b f m) i = Tn l (f + i)) ∨ (i = m + 1 ∧ Tn (part l a b f m) i = mkN (nd l b)) := by
    intro i hi
    by_cases c0 : i = 0
    · left; rw [c0]; exact ⟨rfl, rfl⟩
    · by_cases c1 : i ≤ m
      · right; left; exact ⟨by omega, c1, part_mid hfm (by omega) c1⟩
      · right; right
        have : i = m + 1 := by omega
        rw [this]; exact ⟨rfl, part_last hfm⟩
  have hn : ∀ i, i < (part l a b f m).length → InT l (Tn (part l a b f m) i).f0.f0 ∧ Tn (part l a b f m) i = mkN (nd l (Tn (part l a b f m) i).f0.f0) := by
    intro i hi
    rcases tm i hi with ⟨_, e⟩ | ⟨g1, g2, e⟩ | ⟨_, e⟩
    · rw [e, na]; exact ⟨ia, rfl⟩
    · rw [e, nd_node h (by omega)]
      exact ⟨⟨t_le h (Nat.zero_le _) (by omega), t_le h (by omega) (by omega)⟩, (mk_val _).symm⟩
    · rw [e, nb]; exact ⟨ib, rfl⟩
  have sg : ∀ i, i + 1 < (part l a b f m).length → (Tn l (f + i)).f0.f0 ≤ (Tn (part l a b f m) i).f0.f0 ∧ (Tn (part l a b f m) i).f0.f0 < (Tn (part l a b f m) (i + 1)).f0.f0 ∧ (Tn (part l a b f m) (i + 1)).f0.f0 ≤ (Tn l (f + i + 1)).f0.f0 := by
    intro i hi
    rcases tm i (by omega) with ⟨g0, e⟩ | ⟨g1, g2, e⟩ | ⟨g0, e⟩
    · rcases tm (i + 1) hi with ⟨g3, e'⟩ | ⟨g3, g4, e'⟩ | ⟨g3, e'⟩
      · omega
      · rw [e, e', na, g0]
        exact ⟨ha, ha2, Int.le_refl _⟩
      · have hm0 : m = 0 := by omega
        subst hm0
        rw [e, e', na, nb, g0]
        exact ⟨ha, hb.2, hb2⟩
    · rcases tm (i + 1) hi with ⟨g3, e'⟩ | ⟨g3, g4, e'⟩ | ⟨g3, e'⟩
      · omega
      · rw [e, e', show f + (i + 1) = f + i + 1 by omega]
        exact ⟨Int.le_refl _, ttimes_lt h (by omega) (by omega), Int.le_refl _⟩
      · have hm0 : i = m := by omega
        subst hm0
        rw [e, e', nb]
        exact ⟨Int.le_refl _, hb.1, hb2⟩
    · omega
  have hl := h.2.1
  refine ⟨part_ok h (by omega) (by omega) hn (fun i hi => (sg i hi).2.1), hn, fun i hi => ⟨f + i, by omega, (sg i hi).1, (sg i hi).2.2⟩, na, ?_⟩
  have e : (part l a b f m).length - 1 = m + 1 := by omega
  rw [e, part_last hfm]
  exact nb
/-- The nodes of a part, and those of the tube, at a time. -/
theorem part_nd {l x : List S30} (h : TubeOk l) {a b : Int} (hp : Part l x a b) {t : Int} (hi : InT x t) :
    InT l t ∧ ((t = a ∨ t = b → nd x t = nd l t) ∧ ((nd l t).2.1 - 1 ≤ (nd x t).2.1 ∧ (nd x t).2.1 ≤ (nd l t).2.1) ∧ ((nd l t).2.2.1 - 1 ≤ (nd x t).2.2.1 ∧ (nd x t).2.2.1 ≤ (nd l t).2.2.1) ∧ ((nd l t).2.2.2.1 - 1 ≤ (nd x t).2.2.2.1 ∧ (nd x t).2.2.2.1 ≤ (nd l t).2.2.2.1) ∧
      ((nd l t).2.2.2.2.1 ≤ (nd x t).2.2.2.2.1 ∧ (nd x t).2.2.2.2.1 ≤ (nd l t).2.2.2.2.1 + 1) ∧ (nd l t).2.2.2.2.2.1 ≤ (nd x t).2.2.2.2.2.1 ∧ (nd x t).2.2.2.2.2.1 ≤ (nd l t).2.2.2.2.2.1 + 1) := by
  have same : nd x t = nd l t → InT l t → _ := fun e it => (⟨it, fun _ => e, by rw [e]; exact ⟨⟨by omega, by omega⟩, ⟨by omega, by omega⟩, ⟨by omega, by omega⟩, ⟨by omega, by omega⟩, by omega, by omega⟩⟩ :
    InT l t ∧ ((t = a ∨ t = b → nd x t = nd l t) ∧ ((nd l t).2.1 - 1 ≤ (nd x t).2.1 ∧ (nd x t).2.1 ≤ (nd l t).2.1) ∧ ((nd l t).2.2.1 - 1 ≤ (nd x t).2.2.1 ∧ (nd x t).2.2.1 ≤ (nd l t).2.2.1) ∧ ((nd l t).2.2.2.1 - 1 ≤ (nd x t).2.2.2.1 ∧ (nd x t).2.2.2.1 ≤ (nd l t).2.2.2.1) ∧
      ((nd l t).2.2.2.2.1 ≤ (nd x t).2.2.2.2.1 ∧ (nd x t).2.2.2.2.1 ≤ (nd l t).2.2.2.2.1 + 1) ∧ (nd l t).2.2.2.2.2.1 ≤ (nd x t).2.2.2.2.2.1 ∧ (nd x t).2.2.2.2.2.1 ≤ (nd l t).2.2.2.2.2.1 + 1))
  obtain ⟨i, ia, il, _, _⟩ := nd_at hp.ok hi.1 hi.2
  by_cases c : (Tn x i).f0.f0 = t
  · obtain ⟨g1, g2⟩ := hp.node i ia.1
    have e1 : nd x t = nd l t := by
      rw [← c, nd_node hp.ok ia.1]
      rw [c] at g1 g2 ⊢
      rw [g2, val_mk (nd_rng h g1).2.2.2.2.2]
    rw [c] at g1
    exact same e1 g1
  · have hi1 : i + 1 < x.length := by
      rcases Nat.lt_or_ge (i + 1) x.length with g | g
      · exact g
      · exact absurd (il (by have := ia.1; omega)) c
    have t1 : (Tn x i).f0.f0 < t := by have := ia.2.1; omega
    have t2 := ia.2.2 hi1
    obtain ⟨j, hj, s1, s2⟩ := hp.seg i hi1
    have it : InT l t := inT_seg h hj (by omega) (by omega)
    have tl := ttimes_lt h (i := j) (j := j + 1) (by omega) hj
    have ex := nd_seg hp.ok hi1 (s := t) (by omega) (by omega)
    have el := nd_seg h hj (s := t) (by omega) (by omega)
    have n1 := (hp.node i (by omega)).2
    have n2 := (hp.node (i + 1) hi1).2
    rw [nd_seg h hj s1 (by omega)] at n1
    rw [nd_seg h hj (by omega) s2] at n2
    have tA := t_le hp.ok (Nat.zero_le i) (by omega)
    have tB := t_le hp.ok (i := i + 1) (j := x.length - 1) (by omega) (by omega)
    rw [hp.left] at tA
    rw [hp.right] at tB
    refine ⟨it, fun g => by omega, ?_⟩
    rw [ex, el]
    generalize (Tn x i).f0.f0 = s at *
    generalize (Tn x (i + 1)).f0.f0 = e at *
    have f0 : ∀ v, (mkN v).f0.f0 = v.1 := fun _ => rfl
    unfold segV
    dsimp only
    rw [n1, n2]
    unfold segV mkN
    dsimp only
    exact ⟨rnd (by omega) t1 t2, rnd (by omega) t1 t2, rnd (by omega) t1 t2, rndUp (by omega) t1 t2, rndUp (by omega) t1 t2⟩
theorem cut_f {l : List S30} (h : TubeOk l) (a b : Int) :
    (∃ e, e ≠ 0 ∧ tube_Cut.f 1000 l a b = some ([], e)) ∨ (∃ x, tube_Cut.f 1000 l a b = some (x, 0) ∧ Part l x a b) := by
  have hl := h.2.1
  have no : ∀ (p q : Int × Int × Int × Int × Int × Int × Int), tube_Cut.j0 1000 l a b true p.1 p.2.1 p.2.2.1 p.2.2.2.1 p.2.2.2.2.1 p.2.2.2.2.2.1 q.1 q.2.1 q.2.2.1 q.2.2.2.1 q.2.2.2.2.1 q.2.2.2.2.2.1 = some ([], 12) := by
    intro p q
    rw [show (1000 : Nat) = 999 + 1 from rfl, tube_Cut.j0, if_pos rfl]
  have hat : ∀ t, ∃ v, tube_at.f 1000 l t = some v ∧ ((InT l t ∧ v = nd l t) ∨ v.2.2.2.2.2.2 ≠ 0) := by
    intro t
    rcases at_f h t with ⟨_, e⟩ | ⟨g, _⟩
    · exact ⟨_, e 1000 (by decide), Or.inr (by decide)⟩
    · obtain ⟨_, _, _, _, e⟩ := nd_at h g.1 g.2
      exact ⟨_, e 1000 (by decide), Or.inl ⟨g, rfl⟩⟩
  obtain ⟨va, ea, ha⟩ := hat a
  obtain ⟨vb, eb, hb⟩ := hat b
  unfold tube_Cut.f
  rw [tcheck_yes h 1000 (by decide), Option.bind_some, if_pos rfl, ea, Option.bind_some, eb, Option.bind_some]
  by_cases c1 : va.2.2.2.2.2.2 = 0
  · rw [if_pos c1]
    by_cases c2 : vb.2.2.2.2.2.2 = 0
    · rw [if_pos c2]
      rcases ha with ⟨ia, rfl⟩ | ha
      · rcases hb with ⟨ib, rfl⟩ | hb
        · by_cases c3 : a > b
          · left
            rw [decide_eq_true c3]
            exact ⟨12, by decide, no _ _⟩
          · right
            rw [decide_eq_false c3, show (1000 : Nat) = 999 + 1 from rfl, tube_Cut.j0, if_neg (by decide)]
            have start : tube_Cut.l0 999 a b [mkN (nd l a)] l (l.length : Int) ((0 : Nat) : Int) (nd l b).1 (nd l b).2.1 (nd l b).2.2.1 (nd l b).2.2.2.1 (nd l b).2.2.2.2.1 (nd l b).2.2.2.2.2.1 = tube_Cut.l0 999 a b [mkN (nd l a)] l (l.length : Int) 0 (nd l b).1 (nd l b).2.1 (nd l b).2.2.1 (nd l b).2.2.2.1 (nd l b).2.2.2.2.1 (nd l b).2.2.2.2.2.1 := rfl
            show ∃ x, tube_Cut.l0 999 a b [mkN (nd l a)] l (l.length : Int) 0 (nd l b).1 (nd l b).2.1 (nd l b).2.2.1 (nd l b).2.2.2.1 (nd l b).2.2.2.2.1 (nd l b).2.2.2.2.2.1 = some (x, 0) ∧ Part l x a b
            rw [← start]
            by_cases c4 : a = b
            · refine ⟨[mkN (nd l a)], ?_, by rw [← c4]; exact one_part h ia⟩
              have s := skip_l l hl a b [mkN (nd l a)] (nd l b) l.length (999 - l.length) 0 (by omega) (fun q h1 h2 => by omega)
              rw [show 999 - l.length + l.length = 999 by omega] at s
              obtain ⟨k, hk⟩ : ∃ k, 999 - l.length = k + 1 := ⟨998 - l.length, by omega⟩
              rw [s, hk, Nat.zero_add, tube_Cut.l0, if_neg (by omega), if_neg (by omega)]
            · obtain ⟨f, fa, fl, _, _⟩ := nd_at h ia.1 ia.2
              obtain ⟨g, ga, gl, _, _⟩ := nd_at h ib.1 ib.2
              have hf1 : f + 1 < l.length := by
                rcases Nat.lt_or_ge (f + 1) l.length with q | q
                · exact q
                · have q2 : f + 1 = l.length := by have := fa.1; omega
                  have := fl q2
                  have := ib.2
                  rw [show l.length - 1 = f by omega] at this
                  omega
              obtain ⟨m, hm1, hm2, hm3⟩ : ∃ m, f + m + 1 < l.length ∧ (Tn l (f + m)).f0.f0 < b ∧ b ≤ (Tn l (f + m + 1)).f0.f0 := by
                by_cases q : (Tn l g).f0.f0 = b
                · have q1 : f < g := by
                    rcases Nat.lt_or_ge f g with z | z
                    · exact z
                    · have := t_le h z (by omega)
                      have := fa.2.1
                      omega
                  refine ⟨g - f - 1, by have := ga.1; omega, ?_, ?_⟩
                  · have := ttimes_lt h (i := g - 1) (j := g) (by omega) ga.1
                    rw [show f + (g - f - 1) = g - 1 by omega]; omega
                  · rw [show f + (g - f - 1) + 1 = g by omega]; omega
                · have q1 : f ≤ g := by
                    rcases Nat.lt_or_ge g f with z | z
                    · have := ga.2.2 (by omega)
                      have := t_le h (i := g + 1) (j := f) (by omega) (by omega)
                      have := fa.2.1
                      omega
                    · exact z
                  have q2 : g + 1 < l.length := by
                    rcases Nat.lt_or_ge (g + 1) l.length with z | z
                    · exact z
                    · exact absurd (gl (by have := ga.1; omega)) q
                  refine ⟨g - f, by omega, ?_, ?_⟩
                  · rw [show f + (g - f) = g by omega]; have := ga.2.1; omega
                  · rw [show f + (g - f) + 1 = g + 1 by omega]; have := ga.2.2 q2; omega
              refine ⟨part l a b f m, ?_, part_part h hm1 fa.2.1 (fa.2.2 hf1) ⟨hm2, by omega⟩ hm3⟩
              have s1 := skip_l l hl a b [mkN (nd l a)] (nd l b) (f + 1) (998 - f) 0 (by omega) (fun q h1 h2 => by have := t_le h (i := q) (j := f) (by omega) (by omega); have := fa.2.1; omega)
              have s2 := take_l l hl a b (nd l b) m (998 - f - m) (0 + (f + 1)) [mkN (nd l a)] (by omega) (by simp) (fun q h1 h2 => by
                have z1 := t_le h (i := f + 1) (j := q) (by omega) (by omega)
                have z2 := t_le h (i := q) (j := f + m) (by omega) (by omega)
                have z3 := fa.2.2 hf1
                omega) (by simp; omega)
              have s3 := skip_l l hl a b ([mkN (nd l a)] ++ (l.drop (0 + (f + 1))).take m) (nd l b) (l.length - (f + 1 + m)) (998 - f - m - (l.length - (f + 1 + m))) (0 + (f + 1) + m) (by omega) (fun q h1 h2 => by
                have z1 := t_le h (i := f + m + 1) (j := q) (by omega) (by omega)
                omega)
              rw [show 998 - f + (f + 1) = 999 by omega] at s1
              rw [show 998 - f - m + m = 998 - f by omega] at s2
              rw [show 998 - f - m - (l.length - (f + 1 + m)) + (l.length - (f + 1 + m)) = 998 - f - m by omega] at s3
              obtain ⟨k, hk⟩ : ∃ k, 998 - f - m - (l.length - (f + 1 + m)) = k + 1 := ⟨997 - f - m - (l.length - (f + 1 + m)), by omega⟩
              rw [s1, s2, s3, hk, tube_Cut.l0, if_neg (by omega), if_pos (by omega), if_pos (by simp; omega), Nat.zero_add]
              rfl
        · exact absurd c2 hb
      · exact absurd c1 ha
    · rw [if_neg c2]; left; exact ⟨12, by decide, no _ _⟩
  · rw [if_neg c1]; left; exact ⟨12, by decide, no _ _⟩
theorem off_f {m n : Int} (h1 : -1 ≤ m - n) (h2 : m - n ≤ 1) : skywaykeep1_TubeCuts_1.f m n = some false := by
  unfold skywaykeep1_TubeCuts_1.f
  rw [w64 (by omega) (by omega), w64 (by omega) (by omega), if_neg (by omega), decide_eq_false (by omega)]
theorem TubeCuts : skywaykeep1_TubeCuts.Pure := by
  intro l a b t0 _ _ _ _
  refine ⟨1000, ?_⟩
  unfold skywaykeep1_TubeCuts.f
  rw [tubeWorks 1000 (by decide), Option.bind_some, if_pos rfl]
  obtain ⟨e, he, hz⟩ := tcheck l
  by_cases h0 : e = 0
  · have h := hz h0
    rcases cut_f h a b with ⟨e1, ne1, ec⟩ | ⟨x, ec, hp⟩
    · rw [ec, Option.bind_some, if_neg ne1]; rfl
    · have hx0 := hp.ok.1
      have hx64 := hp.ok.2.1
      have e1 : ∀ j : Nat, rd_T30 x (j : Int) = Tn x j := fun _ => rfl
      have e0 : rd_T30 x 0 = Tn x 0 := rfl
      rw [ec, Option.bind_some, if_pos rfl]
      dsimp only
      rw [tcheck_yes hp.ok 1000 (by decide), Option.bind_some, if_pos rfl, if_pos (by omega), e0, hp.left, if_pos rfl, w64 (x := (x.length : Int) - 1) (by omega) (by omega), if_pos (by omega), if_pos (by omega), show (x.length : Int) - 1 = ((x.length - 1 : Nat) : Int) by omega, e1, hp.right, show (b != b) = false by simp, show (1000 : Nat) = 999 + 1 from rfl, skywaykeep1_TubeCuts.j0, if_neg (by decide)]
      have k1 := Int.tmod_lt_of_pos t0 (show (0 : Int) < 1000 by decide)
      have k2 : -1000 < Int.tmod t0 1000 := by
        have := Int.tmod_lt_of_pos (-t0) (show (0 : Int) < 1000 by decide)
        rw [Int.neg_tmod] at this
        omega
      have ia : InT l a := by have := (hp.node 0 hx0).1; rw [hp.left] at this; exact this
      have ib : InT l b := by have := (hp.node (x.length - 1) (by omega)).1; rw [hp.right] at this; exact this
      have ra := (node_ok h ia).2.1
      rw [w64 (x := Int.tmod t0 1000 + 1000) (by omega) (by omega), Int.tmod_eq_emod_of_nonneg (show 0 ≤ Int.tmod t0 1000 + 1000 by omega), w64 (x := a + (Int.tmod t0 1000 + 1000) % 1000) (by omega) (by omega)]
      have ta : a ≤ a + (Int.tmod t0 1000 + 1000) % 1000 := by omega
      generalize a + (Int.tmod t0 1000 + 1000) % 1000 = t at *
      have hAt : ∀ (y : List S30), TubeOk y → (InT y t ∧ tube_At.f 999 y t = some (nd y t)) ∨ (¬ InT y t ∧ tube_At.f 999 y t = some (0, 0, 0, 0, 0, 0, 12)) := by
        intro y hy
        unfold tube_At.f
        rw [tcheck_yes hy 999 (by decide), Option.bind_some, if_pos rfl]
        rcases at_f hy t with ⟨g, e⟩ | ⟨g, _⟩
        · right
          rw [e 999 (by decide), Option.bind_some]
          exact ⟨fun q => by unfold InT at q; omega, rfl⟩
        · left
          obtain ⟨_, _, _, _, e⟩ := nd_at hy g.1 g.2
          rw [e 999 (by decide), Option.bind_some]
          exact ⟨g, rfl⟩
      have late : ¬ InT x t → t > b := by
        intro q
        unfold InT at q
        rw [hp.left, hp.right] at q
        omega
      have j1t : ∀ (p q : Int × Int × Int × Int × Int × Int × Int), t > b → skywaykeep1_TubeCuts.j1 999 a b t true p.1 p.2.1 p.2.2.1 p.2.2.2.1 p.2.2.2.2.1 p.2.2.2.2.2.1 q.1 q.2.1 q.2.2.1 q.2.2.2.1 q.2.2.2.2.1 q.2.2.2.2.2.1 = some true := by
        intro p q g
        rw [show (999 : Nat) = 998 + 1 from rfl, skywaykeep1_TubeCuts.j1, if_pos rfl, decide_eq_true g]
      rcases hAt x hp.ok with ⟨ix, ex⟩ | ⟨ix, ex⟩
      · obtain ⟨il, heq, d1, d2, d3, d4, d5, d6⟩ := part_nd h hp ix
        rcases hAt l h with ⟨_, el⟩ | ⟨q, _⟩
        · have rl := (nd_rng h il).2.2.2.2.2
          have rx := (nd_rng hp.ok ix).2.2.2.2.2
          rw [el, Option.bind_some, ex, Option.bind_some, if_pos rl, rx, show ((0 : Int) != 0) = false by decide, show (999 : Nat) = 998 + 1 from rfl, skywaykeep1_TubeCuts.j1, if_neg (by decide),
            off_f (by omega) (by omega), Option.bind_some, if_neg (by decide), off_f (by omega) (by omega), Option.bind_some, if_neg (by decide), off_f (by omega) (by omega), Option.bind_some, if_neg (by decide), off_f (by omega) (by omega), Option.bind_some, if_neg (by decide), off_f (by omega) (by omega), Option.bind_some, if_neg (by decide)]
          by_cases q1 : t = a
          · rw [if_pos q1, heq (Or.inl q1)]; simp
          · rw [if_neg q1]
            by_cases q2 : t = b
            · rw [if_pos q2, heq (Or.inr q2)]; simp
            · rw [if_neg q2]
        · exact absurd il q
      · have g := late ix
        rcases hAt l h with ⟨il, el⟩ | ⟨_, el⟩
        · have rl := (nd_rng h il).2.2.2.2.2
          rw [el, Option.bind_some, ex, Option.bind_some, if_pos rl]
          exact j1t _ _ g
        · rw [el, Option.bind_some, ex, Option.bind_some, if_neg (by decide)]
          exact j1t _ _ g
  · have ec : tube_Cut.f 1000 l a b = some ([], e) := by
      unfold tube_Cut.f
      rw [he 1000 (by decide), Option.bind_some, if_neg h0]
    rw [ec, Option.bind_some, if_neg h0]
    rfl

end Go.Proofs.Yteaddpieonkboab.Pure
